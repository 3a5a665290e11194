/- Lemmas of this claim, joined by program. Walks of functions: the machine's run, all operations. Programs compiled deep are good, in plain Lean. Programs compiled deep are good: the induction over the order. Walks of functions: good programs, all operations. Conditions: each lemma names its own. -/
import Derived.Test.YtpfglkohcfjelaaGreatDoorC11
import Derived.Test.YtpfglkohcfjelaaGreatDoorC10
import Derived.Test.YtpfglkohcfjelaaGreatDoorC06
set_option linter.all false
namespace Go.Tm
set_option maxRecDepth 100000
open Go.RowKit Go.Proofs
abbrev tblV : Array Value := #[.nilFunc, .func (.func 205) #[] #[], .func (.func 206) #[] #[], .func (.func 207) #[] #[], .func (.func 208) #[] #[], .func (.func 209) #[] #[], .func (.func 210) #[] #[], .func (.func 211) #[] #[], .func (.func 212) #[] #[], .func (.func 213) #[] #[], .func (.func 214) #[] #[], .func (.func 215) #[] #[]]
theorem tbl_cellG {w : World} {p t : Nat} {op : Int} (h : Bk w p tblV t) (ho : 1 ≤ op ∧ op ≤ 11) : w.cell? ((⟨p, 0, none⟩ : Addr).add (op.toNat * 1)) = some (.func (.func (tblG op)) #[] #[]) := by
  have : op = 1 ∨ op = 2 ∨ op = 3 ∨ op = 4 ∨ op = 5 ∨ op = 6 ∨ op = 7 ∨ op = 8 ∨ op = 9 ∨ op = 10 ∨ op = 11 := by omega
  rcases this with rfl | rfl | rfl | rfl | rfl | rfl | rfl | rfl | rfl | rfl | rfl
  · exact h.cell (i := 1) rfl
  · exact h.cell (i := 2) rfl
  · exact h.cell (i := 3) rfl
  · exact h.cell (i := 4) rfl
  · exact h.cell (i := 5) rfl
  · exact h.cell (i := 6) rfl
  · exact h.cell (i := 7) rfl
  · exact h.cell (i := 8) rfl
  · exact h.cell (i := 9) rfl
  · exact h.cell (i := 10) rfl
  · exact h.cell (i := 11) rfl
theorem bld212_1_2_3_4_5_6_7_8_9_10_11w84 {v1 v2 v3 v4 v5 v6 v7 v8 v9 v10 v11 : Value} (h : [v1, v2, v3, v4, v5, v6, v7, v8, v9, v10, v11].all Value.oneCell' = true) (w : World) : (Instr.build 212 ([(1, v1), (2, v2), (3, v3), (4, v4), (5, v5), (6, v6), (7, v7), (8, v8), (9, v9), (10, v10), (11, v11)] : List (Nat × Value)).toArray).run Tryz.prog w = .ok (.agg #[.nilFunc, v1, v2, v3, v4, v5, v6, v7, v8, v9, v10, v11]) w := by
  simp only [List.all_cons, Bool.and_eq_true, List.all_nil, and_true] at h
  have hv1 := oneCell_cells (v := v1) (by simp_all)
  have hv2 := oneCell_cells (v := v2) (by simp_all)
  have hv3 := oneCell_cells (v := v3) (by simp_all)
  have hv4 := oneCell_cells (v := v4) (by simp_all)
  have hv5 := oneCell_cells (v := v5) (by simp_all)
  have hv6 := oneCell_cells (v := v6) (by simp_all)
  have hv7 := oneCell_cells (v := v7) (by simp_all)
  have hv8 := oneCell_cells (v := v8) (by simp_all)
  have hv9 := oneCell_cells (v := v9) (by simp_all)
  have hv10 := oneCell_cells (v := v10) (by simp_all)
  have hv11 := oneCell_cells (v := v11) (by simp_all)
  have h1 := fill_set (fun i => some (i * 1, 1)) [(1, v1), (2, v2), (3, v3), (4, v4), (5, v5), (6, v6), (7, v7), (8, v8), (9, v9), (10, v10), (11, v11)] [.nilFunc, .nilFunc, .nilFunc, .nilFunc, .nilFunc, .nilFunc, .nilFunc, .nilFunc, .nilFunc, .nilFunc, .nilFunc, .nilFunc] (by simp [okF, agg_cells, hv1, hv2, hv3, hv4, hv5, hv6, hv7, hv8, hv9, hv10, hv11, Nat.beq, Nat.ble])
  simp [setF, agg_cells, hv1, hv2, hv3, hv4, hv5, hv6, hv7, hv8, hv9, hv10, hv11] at h1
  simp [Instr.build, Tryz.runUnderlying212, ζ212, Tryz.sizeOf211, agg_cells, h1]
theorem m_table (w : World) :
  Calls Tryz.prog 166 #[] w (Ret (fun v w' => v = .agg tblV ∧ Ch No w w')) := by
 refine calls_of_VC (args := []) Tryz.func166 rfl Tryz.ntmps166 rfl (Qe (Qb (Oq (Cc ζ212) rfl ?_)))
 rintro _ w1 ⟨p1, rfl, N1⟩
 have c1 := N1.ch
 have e1 := N1.p; have z1 := N1.size
 have b0 := Bk.new N1
 refine Qf (Qa (Qe (Qb (Om (Cl rfl (bld212_1_2_3_4_5_6_7_8_9_10_11w84 rfl)) rfl (Oz (Cf Tryz.sizeOf212 rfl rfl rfl rfl b0 (Nat.le_of_ble_eq_true rfl)) rfl ?_)))))
 intro _ w2 Z2
 have c2 := Z2.ch; have z2 := Z2.size
 have b0_2 := Bk.put Z2
 refine Qf (Qa (Qp (Rk rfl rfl Tryz.isAgg212 Tryz.sizeOf212 rfl (b0_2.all' rfl) (Ret.mk ?_))))
 have cc_0_2 : Ch No w w2 := (Ch.then (E := No) c1 c2 (by intro q h1 h2; rcases h2 with h2 | h2 <;> first | exact h2 | (exfalso; omega)))
 have CH_2 := (Ch.refl (No) w).and cc_0_2
 exact ⟨rfl, CH_2⟩
theorem m_Left (m : Nat) (b : Bld) (N : Nat) (SA : Option Addr) (sc : Nat) (bs : ByteArray) (CA : Option Addr) (ac dn st at_ : Int) (F : Fil) (w : World) (bk : Bk w m (macG b N SA sc bs CA ac dn st at_ F) 209) (hac : 0 ≤ ac ∧ ac ≤ 1000000000) (hdn : 0 ≤ dn ∧ dn ≤ 1000000000) :
  Calls Tryz.prog 133 #[.pointer (some ⟨m, 0, none⟩)] w (Ret (fun v w' => v = .int .i64 (ac - dn) ∧ Ch No w w')) := by
 refine calls_of_VC (args := [.pointer (some ⟨m, 0, none⟩)]) Tryz.func133 rfl Tryz.ntmps133 rfl (Qe (Qb (Om (Qd rfl) rfl (Qf (Qa (Qe (Ci 9 [(0, true), (1, true), (2, true), (3, true), (4, true), (5, true), (6, true), (7, true), (8, true)] (fun w1 w' => Ch (No) w1 w') mixed (by kernel_rfl) (fun _ _ => Ch.refl _ _) ?_)))))))
 intro w1 D1
 have c1 := Ch.of_drew D1; have z1 := c1.size
 have bk_1 := bk.keep c1
 refine Hm (fun w' hS => Qc rfl) rfl (Hm (fun w' hS => Ql rfl) rfl (Hm (fun w' hS => Qg υ209 rfl ς3 rfl rfl rfl) rfl (Hm (fun w' hS => Qh ι3 rfl ((bk_1.keep hS).cell rfl)) rfl (Hm (fun w' hS => Qc rfl) rfl (Hm (fun w' hS => Ql rfl) rfl (Hm (fun w' hS => Qg υ209 rfl ς3 rfl rfl rfl) rfl (Hm (fun w' hS => Qh ι3 rfl ((bk_1.keep hS).cell rfl)) rfl ?_)))))))
 refine Hm (fun w' hS => Rf rfl rfl (by rw [IntKind.wrap_i64]; omega)) rfl ?_
 refine Cn (Om (Qd rfl) rfl (Qf (Qx (Qa (Qp (Qy rfl rfl (Ret.mk ?_)))))))
 have CH_1 := (Ch.refl (No) w).and c1
 exact ⟨rfl, CH_1⟩
theorem m_next (r : Nat) (m : Nat) (b : Bld) (N : Nat) (SA : Option Addr) (sc : Nat) (bs : ByteArray) (CA : Option Addr) (ac dn at_ : Int) (st : Nat) (F : Fil) (w : World) (bk : Bk w m (macG b N SA sc bs CA ac dn st at_ F) 209) (S : Nat → Prop) (hS : ∀ q, S q → ¬ MS m r q) (ss : SlR S w SA b.steps.length 7 (flatS b.steps)) (s : Stp) (hs : b.steps[st]? = some s) (hat : at_ = s.count) (hl : b.steps.length ≤ 1000000) :
  Calls Tryz.prog 167 #[.pointer (some ⟨m, 0, none⟩)] w (Ret (fun v w' => v = .tuple #[] ∧ Bk w' m (macG b N SA sc bs CA ac dn (st + 1) 0 F) 209 ∧ Ch (Is m) w w')) := by
 have hjl := (List.getElem?_eq_some_iff.1 hs).1
 have ym := bk.lt
 refine calls_of_VC (args := [.pointer (some ⟨m, 0, none⟩)]) Tryz.func167 rfl Tryz.ntmps167 rfl (Qe ?_)
 have ks := sl_step ss rfl hs
 refine Ci 17 [(0, true), (1, true), (2, true), (3, true), (4, true), (5, true), (6, true), (7, true), (8, true), (9, true), (10, true), (11, true), (12, true), (13, true), (14, true), (15, true), (16, true)] (fun w1 w' => Ch (No) w1 w') mixed (by kernel_rfl) (fun _ _ => Ch.refl _ _) ?_
 intro w1 D1
 have c1 := Ch.of_drew D1; have z1 := c1.size
 have bk_1 := bk.keep c1
 have ss_1 := ss.keep c1
 have ks_1 := ks.keep c1
 refine Hm (fun w' hS => Qc rfl) rfl (Hm (fun w' hS => Ql rfl) rfl (Hm (fun w' hS => Qg υ209 rfl ς3 rfl rfl rfl) rfl (Hm (fun w' hS => Qh ι3 rfl ((bk_1.keep hS).cell rfl)) rfl (Hm (fun w' hS => Qc rfl) rfl (Hm (fun w' hS => Ql rfl) rfl (Hm (fun w' hS => Qg υ209 rfl ς98 rfl rfl rfl) rfl (Hm (fun w' hS => Qg υ98 rfl ς96 rfl rfl rfl) rfl ?_)))))))
 refine Hm (fun w' hS => Qh ι96 rfl ((bk_1.keep hS).cell rfl)) rfl (Hm (fun w' hS => Qc rfl) rfl (Hm (fun w' hS => Ql rfl) rfl (Hm (fun w' hS => Qg υ209 rfl ς3 rfl rfl rfl) rfl (Hm (fun w' hS => Qh ι3 rfl ((bk_1.keep hS).cell rfl)) rfl (Hm (fun w' hS => Cb υ96 ς135 rfl rfl (ss_1.ne (by omega)) (by omega) (by omega)) rfl (Hm (fun w' hS => Rn.fieldA υ135 rfl ς3 rfl rfl rfl) rfl (Hm (fun w' hS => Qh ι3 rfl ((ks_1.keep hS).1 4 _ rfl)) rfl ?_)))))))
 refine Hm (fun w' hS => Cm rfl rfl) rfl (Cn (Qf (Qx (Qa (Qj rfl (fun hc1 => ?_) (fun hc1 => ?_))))))
 ·
  refine Qb (Om (Qc rfl) rfl (Om (Qc rfl) rfl (Om (Qc rfl) rfl (Om (Ql rfl) rfl (Om (Qg υ209 rfl ς3 rfl rfl rfl) rfl (Om (Qh ι3 rfl (bk_1.cell rfl)) rfl ?_))))))
  refine Om (Ce rfl rfl (by rw [IntKind.wrap_i64]; omega)) rfl ?_
  refine Om (Ql rfl) rfl (Om (Qg υ209 rfl ς3 rfl rfl rfl) rfl (Oz (Rh ς3 rfl rfl rfl rfl bk_1 rfl) rfl ?_))
  intro _ w2 Z2
  have c2 := Z2.ch; have z2 := Z2.size
  have bk_2 := Bk.put Z2
  refine Om (Ql rfl) rfl (Om (Qg υ209 rfl ς3 rfl rfl rfl) rfl (Oz (Rh ς3 rfl rfl rfl rfl bk_2 rfl) rfl ?_))
  intro _ w3 Z3
  have c3 := Z3.ch; have z3 := Z3.size
  have bk_3 := Bk.put Z3
  refine Qf (Ri rfl (Ret.mk ?_))
  have CH_1 := (Ch.refl (Is m) w).and c1
  have CH_2 : Ch (Is m) w w2 := CH_1.then c2
  have CH_3 : Ch (Is m) w w3 := CH_2.then c3
  exact ⟨rfl, bk_3, CH_3⟩
 ·
  omega
set_option maxHeartbeats 2000000 in
theorem mG_Run (m r : Nat) (b : Bld) (N : Nat) (SA : Option Addr) (sc : Nat) (bs : ByteArray) (CA : Option Addr) (ac : Int) (F : Fil) (xs : List CB) (w : World) (mr : MacG w m r b N SA sc bs CA ac 0 0 0 F xs) (hN : N ≤ 1000000) (hac : ac = cntS b.steps) (hac1 : 1 ≤ ac) (hac2 : ac ≤ 100000000) (hok : ∀ s ∈ b.steps, StepG s N) (hl : b.steps.length ≤ 1000000) (S : Nat → Prop) (hS : ∀ q, S q → ¬ MS m r q) (ss : SlR S w SA b.steps.length 7 (flatS b.steps))  :
  Calls Tryz.prog 134 #[.pointer (some ⟨m, 0, none⟩), .int .i64 ac] w (Ret (fun v w' => v = .tuple #[.int .i64 ac, .nilIface] ∧ ∃ F ys, MacG w' m r b N SA sc bs CA ac ac b.steps.length 0 F ys ∧ ys.map cx = runG b.steps (xs.map cx) ∧ Ch (MS m r) w w')) := by
 obtain ⟨bk, row, ne, fil⟩ := id mr
 have yr := Ow.lt row; have ym := bk.lt; have fn1 := fil.n1; have fn2 := fil.n2; have fy := Ow.lt fil.ow
 have hmin : (if ac - 0 < ac then ac - 0 else ac) = ac := by split <;> omega
 have hcn : ∀ s ∈ b.steps, 1 ≤ s.count := fun s hs => (hok s hs).cnt.1
 refine calls_of_VC (args := [.pointer (some ⟨m, 0, none⟩), .int .i64 ac]) Tryz.func134 rfl Tryz.ntmps134 rfl (Qe (Qb (Om (Qd rfl) rfl (Om (Qd rfl) rfl (Qf (Qa (Qe ?_)))))))
 refine Qe (Qb (Om (Qc rfl) rfl (Om (Cs rfl rfl) rfl (Qf (Qa (Qj rfl (fun hc1 => ?_) (fun hc1 => ?_)))))))
 ·
  omega
 ·
  refine Qn (Qa (Qe (Qe (Qb (Om (Qc rfl) rfl (Oq (Qi Tryz.call133 rfl (m_Left _ _ _ _ _ _ _ _ _ _ _ _ _ bk (by omega) (by omega))) rfl ?_))))))
  rintro _ w1 ⟨rfl, c1⟩
  have z1 := c1.size
  refine Om (Cm rfl rfl) rfl (Qf (Qa (Qj rfl (fun hc2 => ?_) (fun hc2 => ?_))))
  ·
   omega
  ·
   refine Qn (Qa (Qe (Qb (Om (Qc rfl) rfl (Om (Qc rfl) rfl ?_)))))
   have bk_1 := bk.keep c1
   refine Oq (Qi Tryz.call133 rfl (m_Left _ _ _ _ _ _ _ _ _ _ _ _ _ bk_1 (by omega) (by omega))) rfl ?_
   rintro _ w2 ⟨rfl, c2⟩
   have z2 := c2.size
   refine Om (Rn.minI rfl rfl) rfl (Om (Qd rfl) rfl (Qf (Qa (Qe (Qb (Oq (Qi Tryz.call166 rfl (m_table _)) rfl ?_))))))
   rintro _ w3 ⟨rfl, c3⟩
   have z3 := c3.size
   refine Oq (Cc ζ212) rfl ?_
   rintro _ w4 ⟨p4, rfl, N4⟩
   have c4 := N4.ch
   have e4 := N4.p; have z4 := N4.size
   have b6 := Bk.new N4
   refine Oz (Cf Tryz.sizeOf212 rfl rfl rfl rfl b6 (Nat.le_of_ble_eq_true rfl)) rfl ?_
   intro _ w5 Z5
   have c5 := Z5.ch; have z5 := Z5.size
   have b6_5 := Bk.put Z5
   refine Qf (Qa (Qe (Qe (Qb (Om (Qc rfl) rfl (Om (Qd rfl) rfl (Qf ?_)))))))
   refine Qa (Qw ?_)
   have cc_1_5 : Ch No w1 w5 := (Ch.then (E := No) ((c2.and c3).and c4) c5 (by intro q h1 h2; rcases h2 with h2 | h2 <;> first | exact h2 | (exfalso; omega)))
   have bk_5 := bk_1.keep cc_1_5
   have cc_0_5 : Ch No w w5 := (Ch.then (E := No) (((c1.and c2).and c3).and c4) c5 (by intro q h1 h2; rcases h2 with h2 | h2 <;> first | exact h2 | (exfalso; omega)))
   have row_5 := row.keep cc_0_5
   have ss_5 := ss.keep cc_0_5
   have fil_5 := fil.keep cc_0_5
   have CH_5 := (Ch.refl (MS m r) w).and cc_0_5
   refine Cp (σ := Nat × Int × List CB × Fil) (fun (j, lf, ys, F1) => [(0, .pointer (some ⟨m, 0, none⟩)), (1, .int .i64 (if ac - 0 < ac then ac - 0 else ac)), (6, .pointer (some ⟨p4, 0, none⟩)), (7, .int .i64 lf)]) (fun (j, lf, ys, F1) w' => j ≤ b.steps.length ∧ lf = cntS (b.steps.drop j) ∧ ys.map cx = runG (b.steps.take j) (xs.map cx) ∧ w5.heap.size ≤ w'.heap.size ∧ Bk w' m (macG b N SA sc bs CA ac 0 j 0 F1) 209 ∧ CR 33 w' r CA N N ys ∧ Bk w' p4 tblV 212 ∧ SlR S w' SA b.steps.length 7 (flatS b.steps) ∧ FilR w' m r F1 ∧ Ch (MS m r) w w') (fun (j, lf, ys, F1) => b.steps.length - j) (0, _, xs, F) ?_ ⟨rfl, rfl, rfl, rfl, trivial⟩ ?_
   · exact ⟨(Nat.zero_le _), (by rw [List.drop_zero]; omega), (by rfl), (Nat.le_refl _), bk_5, row_5, b6_5, ss_5, fil_5, CH_5⟩
   rintro ⟨j, lf, ys, F1⟩ w6 ⟨hj, hlf, hys, hsz6, bk_6, row_6, b6_6, ss_6, fil_6, CH_6⟩
   show VC _ _ _ _ [(0, .pointer (some ⟨m, 0, none⟩)), (1, .int .i64 (if ac - 0 < ac then ac - 0 else ac)), (6, .pointer (some ⟨p4, 0, none⟩)), (7, .int .i64 lf)] _
   have hdl := cntG_drop_le hcn j
   have fn1 := fil_6.n1; have fn2 := fil_6.n2
   refine Qe (Qe (Qb (Om (Qc rfl) rfl (Om (Rb rfl rfl) rfl (Qf (Qa (Qj rfl (fun hc3 => ?_) (fun hc3 => ?_))))))))
   ·
    obtain ⟨s, hs⟩ := cntS_some (L := b.steps) (j := j) (by omega)
    have hsok := hok s (List.mem_of_getElem? hs)
    have hop := hsok.op11
    have hcp := hsok.cnt.1
    have hcp2 := hsok.cnt.2
    have hcd := cntS_drop hs
    have hjl := (List.getElem?_eq_some_iff.1 hs).1
    have hdl1 := cntG_drop_le hcn (j + 1)
    refine Qn (Qa (Qw (Qe ?_)))
    have ks := sl_step ss_6 rfl hs
    refine Ci 12 [(0, true), (1, true), (2, true), (3, true), (4, true), (5, true), (6, true), (7, true), (8, true), (9, true), (10, true), (11, false)] (fun w1 w' => Ch (No) w1 w') mixed (by kernel_rfl) (fun _ _ => Ch.refl _ _) ?_
    intro w7 D7
    have c7 := Ch.of_drew D7; have z7 := c7.size
    have bk_7 := bk_6.keep c7
    have row_7 := row_6.keep c7
    have ss_7 := ss_6.keep c7
    have b6_7 := b6_6.keep c7
    have ks_7 := ks.keep c7
    refine Hm (fun w' hS => Qc rfl) rfl (Hm (fun w' hS => Ql rfl) rfl (Hm (fun w' hS => Qg υ209 rfl ς98 rfl rfl rfl) rfl (Hm (fun w' hS => Qg υ98 rfl ς96 rfl rfl rfl) rfl (Hm (fun w' hS => Qh ι96 rfl ((bk_7.keep hS).cell rfl)) rfl (Hm (fun w' hS => Qc rfl) rfl (Hm (fun w' hS => Ql rfl) rfl (Hm (fun w' hS => Qg υ209 rfl ς3 rfl rfl rfl) rfl ?_)))))))
    refine Hm (fun w' hS => Qh ι3 rfl ((bk_7.keep hS).cell rfl)) rfl (Hm (fun w' hS => Cb υ96 ς135 rfl rfl (ss_7.ne (by omega)) (by omega) (by omega)) rfl (Hm (fun w' hS => Qr ι135 ς135 rfl rfl (ks_7.keep hS).1) rfl (Hq (Cc ζ135) rfl ?_)))
    rintro _ w8 ⟨p8, rfl, N8⟩
    have c8 := N8.ch
    have e8 := N8.p; have z8 := N8.size
    have b8 := Bk.new N8
    have RD_8 := (Ch.refl (No) w7).and c8
    refine ⟨RD_8, ?_⟩
    refine Cn (Oz (Cf ς135 rfl rfl rfl rfl b8 (Nat.le_of_ble_eq_true rfl)) rfl ?_)
    intro _ w9 Z9
    have c9 := Z9.ch; have z9 := Z9.size
    have b8_9 := Bk.put Z9
    refine Qf (Qx (Qa (Qe (Ci 9 [(0, true), (1, true), (2, true), (3, true), (4, true), (5, true), (6, true), (7, true), (8, true)] (fun w1 w' => Ch (No) w1 w') mixed (by kernel_rfl) (fun _ _ => Ch.refl _ _) ?_))))
    intro w10 D10
    have c10 := Ch.of_drew D10; have z10 := c10.size
    have cc_7_10 : Ch No w7 w10 := ((Ch.then (E := No) c8 c9 (by intro q h1 h2; rcases h2 with h2 | h2 <;> first | exact h2 | (exfalso; omega))).and c10)
    have bk_10 := bk_7.keep cc_7_10
    have row_10 := row_7.keep cc_7_10
    have ss_10 := ss_7.keep cc_7_10
    have b6_10 := b6_7.keep cc_7_10
    have ks_10 := ks_7.keep cc_7_10
    have b8_10 := b8_9.keep c10
    refine Hm (fun w' hS => Qc rfl) rfl (Hm (fun w' hS => Ql rfl) rfl (Hm (fun w' hS => Qg υ209 rfl ς3 rfl rfl rfl) rfl (Hm (fun w' hS => Qh ι3 rfl ((bk_10.keep hS).cell rfl)) rfl (Hm (fun w' hS => Qc rfl) rfl ?_))))
    refine Hm (fun w' hS => Ce rfl rfl (by rw [IntKind.wrap_i64]; omega)) rfl ?_
    refine Hm (fun w' hS => Qg υ135 rfl ς3 rfl rfl rfl) rfl (Hm (fun w' hS => Qh ι3 rfl ((b8_10.keep hS).cell rfl)) rfl (Hm (fun w' hS => Rn.minI rfl rfl) rfl (Cn (Om (Qd rfl) rfl (Qf (Qx (Qa ?_)))))))
    refine Qe (Qb (Om (Qc rfl) rfl (Om (Qc rfl) rfl (Om (Qc rfl) rfl (Om (Ql rfl) rfl (Om (Qg υ209 rfl ς3 rfl rfl rfl) rfl (Om (Qh ι3 rfl (bk_10.cell rfl)) rfl ?_)))))))
    refine Om (Rf rfl rfl (by rw [IntKind.wrap_i64]; omega)) rfl ?_
    refine Om (Rf rfl rfl (by rw [IntKind.wrap_i64]; omega)) rfl ?_
    refine Om (Qd rfl) rfl (Qf (Qa (Qe (Qw ?_))))
    have cc_6_10 : Ch No w6 w10 := ((Ch.then (E := No) (c7.and c8) c9 (by intro q h1 h2; rcases h2 with h2 | h2 <;> first | exact h2 | (exfalso; omega))).and c10)
    have fil_10 := fil_6.keep cc_6_10
    have CH_10 := CH_6.and cc_6_10
    refine Cp (σ := Nat × Int × Int × List CB × Fil) (fun (i, l2, tt, ys2, F2) => [(0, .pointer (some ⟨m, 0, none⟩)), (1, .int .i64 (if ac - 0 < ac then ac - 0 else ac)), (6, .pointer (some ⟨p4, 0, none⟩)), (7, .int .i64 l2), (8, .pointer (some ⟨p8, 0, none⟩)), (9, .int .i64 tt)]) (fun (i, l2, tt, ys2, F2) w' => i ≤ s.count.toNat ∧ l2 = lf - s.count ∧ tt = s.count ∧ ys2.map cx = actsG s (ys.map cx) i ∧ w10.heap.size ≤ w'.heap.size ∧ Bk w' m (macG b N SA sc bs CA ac 0 j i F2) 209 ∧ CR 33 w' r CA N N ys2 ∧ Bk w' p4 tblV 212 ∧ Bk w' p8 s.cells.toArray 135 ∧ SlR S w' SA b.steps.length 7 (flatS b.steps) ∧ FilR w' m r F2 ∧ Ch (MS m r) w w') (fun (i, l2, tt, ys2, F2) => s.count.toNat - i) (0, _, _, ys, F1) ?_ ⟨rfl, rfl, rfl, rfl, rfl, rfl, trivial⟩ ?_
    · exact ⟨(Nat.zero_le _), (by split <;> omega), (by split <;> omega), (by rfl), (Nat.le_refl _), bk_10, row_10, b6_10, b8_10, ss_10, fil_10, CH_10⟩
    rintro ⟨i, l2, tt, ys2, F2⟩ w11 ⟨hi, hl2, htt, hys2, hsz11, bk_11, row_11, b6_11, b8_11, ss_11, fil_11, CH_11⟩
    show VC _ _ _ _ [(0, .pointer (some ⟨m, 0, none⟩)), (1, .int .i64 (if ac - 0 < ac then ac - 0 else ac)), (6, .pointer (some ⟨p4, 0, none⟩)), (7, .int .i64 l2), (8, .pointer (some ⟨p8, 0, none⟩)), (9, .int .i64 tt)] _
    have fn1 := fil_11.n1; have fn2 := fil_11.n2
    refine Qe (Qe (Qb (Om (Qc rfl) rfl (Om (Ql rfl) rfl (Om (Qg υ209 rfl ς3 rfl rfl rfl) rfl (Om (Qh ι3 rfl (bk_11.cell rfl)) rfl (Om (Qc rfl) rfl ?_)))))))
    refine Om (Cs rfl rfl) rfl (Qf (Qa (Qj rfl (fun hc4 => ?_) (fun hc4 => ?_))))
    ·
     refine Qn (Qa (Qe (Qw (Ci 11 [(0, true), (1, true), (2, true), (3, true), (4, true), (5, true), (6, true), (7, true), (8, true), (9, false), (10, false)] (fun w1 w' => Ch (MS m r) w1 w') mixed (by kernel_rfl) (fun _ _ => Ch.refl _ _) ?_))))
     intro w12 D12
     have c12 := Ch.of_drew D12; have z12 := c12.size
     have bk_12 := bk_11.keep c12
     have row_12 := row_11.keep c12
     have ss_12 := ss_11.keep c12
     have b6_12 := b6_11.keep c12
     have b8_12 := b8_11.keep c12
     refine Hm (fun w' hS => Qg υ135 rfl ς3 rfl rfl rfl) rfl (Hm (fun w' hS => Qh ι3 rfl ((b8_12.to hS).cell rfl)) rfl (Hm (fun w' hS => Rn.indexArr Tryz.underlying212 Tryz.sizeOf211 rfl rfl (by omega) (by omega)) rfl (Hm (fun w' hS => Qh Tryz.isAgg211 rfl (tbl_cellG (b6_12.to hS (by omega)) hop)) rfl (Hm (fun w' hS => Qc rfl) rfl (Hm (fun w' hS => Qr ι135 ς135 rfl rfl ((b8_12.to hS).all' rfl)) rfl (Hm (fun w' hS => Qc rfl) rfl (Hm (fun w' hS => Ql rfl) rfl ?_)))))))
     refine Hm (fun w' hS => Qg υ209 rfl ς3 rfl rfl rfl) rfl (VH.late (Qh ι3 rfl (bk_12.cell rfl)) rfl rfl rfl rfl (Ch.refl (MS m r) w12) ?_)
     have fil_12 := fil_11.keep c12
     refine Hq (Wd (call_tblG hop) rfl rfl (by rfl) (actG_ok _ _ _ _ _ _ _ _ _ _ _ _ _ _ _ ⟨bk_12, row_12, ne, fil_12⟩ hN s i hsok (by omega))) rfl ?_
     rintro _ w13 ⟨rfl, F13, zs13, mr13, hz13, c13⟩
     obtain ⟨bk13, row13, -, fil13⟩ := id mr13
     have fn1 := fil13.n1; have fn2 := fil13.n2
     have z13 := c13.size
     have RD_13 : Ch (MS m r) w12 w13 := (Ch.refl (MS m r) w12).then c13
     refine ⟨RD_13, ?_⟩
     refine Cn (Qf (Qx (Qo (Qa (Qb (Om (Qc rfl) rfl (Om (Ql rfl) rfl ?_)))))))
     refine Om (Qg υ209 rfl ς3 rfl rfl rfl) rfl (Om (Qh ι3 rfl (bk13.cell rfl)) rfl ?_)
     refine Om (Ce rfl rfl (by rw [IntKind.wrap_i64]; omega)) rfl ?_
     refine Om (Ql rfl) rfl (Om (Qg υ209 rfl ς3 rfl rfl rfl) rfl (Oz (Rh ς3 rfl rfl rfl rfl bk13 rfl) rfl ?_))
     intro _ w14 Z14
     have c14 := Z14.ch; have z14 := Z14.size
     have bk_14 := Bk.put Z14
     refine Qf ?_
     refine Ck (i + 1, l2, tt, zs13, F13) (by first | omega | (dsimp only; omega)) ?_ ⟨rfl, rfl, rfl, rfl, rfl, rfl, trivial⟩
     have row_14 := row13.to c14
     have b6_13 := b6_12.to c13
     have b6_14 := b6_13.to c14
     have b8_13 := b8_12.to c13
     have b8_14 := b8_13.to c14
     have ss_13 := ss_12.to c13 (fun _ _ h2 _ h3 => hS _ h2 (by first | exact .inr h3 | exact .inl h3 | exact h3))
     have ss_14 := ss_13.to c14 (fun _ _ h2 _ h3 => hS _ h2 (by first | exact .inr h3 | exact .inl h3 | exact h3))
     have fil_14 := fil13.to c14
     have CH_12 := CH_11.and c12
     have CH_13 : Ch (MS m r) w w13 := CH_12.then c13
     have CH_14 : Ch (MS m r) w w14 := CH_13.then c14
     exact ⟨(by omega), (by omega), (by omega), (by rw [hz13, hys2]; rfl), (by omega), bk_14, row_14, b6_14, b8_14, ss_14, fil_14, CH_14⟩
    ·
     refine Cr (Qk (Qk (Qz (Qa (Qb (Om (Qc rfl) rfl (Oq (Qi Tryz.call167 rfl (m_next r m b N SA sc bs CA ac 0 _ _ _ _ bk_11 S hS ss_11 s hs (by omega) hl)) rfl ?_)))))))
     rintro _ w15 ⟨rfl, bk15, c15⟩
     have z15 := c15.size
     refine Qf (Qo ?_)
     refine Ck (j + 1, _, ys2, F2) (by first | omega | (dsimp only; omega)) ?_ ⟨rfl, rfl, rfl, rfl, trivial⟩
     have row_15 := row_11.to c15
     have b6_15 := b6_11.to c15
     have ss_15 := ss_11.to c15 (fun _ _ h2 _ h3 => hS _ h2 (by first | exact .inr h3 | exact .inl h3 | exact h3))
     have fil_15 := fil_11.to c15
     have CH_15 : Ch (MS m r) w w15 := CH_11.then c15
     exact ⟨(by omega), (by omega), (by rw [runG_take hs, ← hys, hys2]; congr 1; omega), (by omega), bk15, row_15, b6_15, ss_15, fil_15, CH_15⟩
   ·
    refine Cr (Qk (Qk (Qz (Qa (Qe (Qb (Om (Qc rfl) rfl ?_)))))))
    refine Om (Ql rfl) rfl (Om (Qg υ209 rfl ς3 rfl rfl rfl) rfl (Om (Qh ι3 rfl (bk_6.cell rfl)) rfl (Om (Qc rfl) rfl ?_)))
    refine Om (Ce rfl rfl (by rw [IntKind.wrap_i64]; omega)) rfl ?_
    refine Om (Ql rfl) rfl (Om (Qg υ209 rfl ς3 rfl rfl rfl) rfl (Oz (Rh ς3 rfl rfl rfl rfl bk_6 rfl) rfl ?_))
    intro _ w16 Z16
    have c16 := Z16.ch; have z16 := Z16.size
    have bk_16 := Bk.put Z16
    refine Qf (Qa (Qe (Qb (Om (Qc rfl) rfl (Om (Qd rfl) rfl (Om (Qd rfl) rfl (Qf ?_)))))))
    refine Qa (Qp (Cz rfl rfl rfl (Ret.mk ?_)))
    have hlf0 : cntS (b.steps.drop j) = 0 := by omega
    obtain ⟨e1, e2⟩ := cntG_all hcn hlf0
    have e3 : j = b.steps.length := by omega
    rw [e1] at hys
    have bk9 : Bk w16 m (macG b N SA sc bs CA ac (0 + (if ac - 0 < ac then ac - 0 else ac)) j 0 F1) 209 := bk_16
    rw [hmin, Int.zero_add, e3] at bk9
    have row_16 := row_6.to c16
    have fil_16 := fil_6.to c16
    have CH_16 : Ch (MS m r) w w16 := CH_6.then c16
    exact ⟨by rw [hmin], _, _, ⟨bk9, row_16, ne, fil_16⟩, hys, CH_16⟩
end Go.Tm
namespace Go.Tm
structure GoodG (s : Stp) (N : Nat) : Prop where
  st : StepG s N
  form : formM s = true
  jmp : s.op = 5 → 1 ≤ s.jump
  d1 : s.op = 1 → s.src + (s.count - 1) * s.jump < s.dst ∨ s.dst + s.count ≤ s.src
  d2 : s.op = 2 → s.src + s.count ≤ s.dst ∨ s.dst + (s.count - 1) * s.jump < s.src
  d6 : s.op = 6 → s.src + (s.n - 1) * s.jump < s.dst ∨ s.dst + s.count ≤ s.src
  d9 : s.op = 9 → s.src + s.count ≤ s.dst ∨ s.dst + s.count ≤ s.src
structure PrgG (b : Bld) (N : Nat) : Prop where
  cl : b.cl = N
  ln : 1 ≤ b.ln ∧ b.ln ≤ 16384
  n1 : 1 ≤ N ∧ N ≤ 262144
  i0 : 0 ≤ b.i0 ∧ b.i0 ≤ b.cl - b.ln
  ou : 0 ≤ b.ou ∧ b.ou ≤ b.cl - b.ln
  st : ∀ s ∈ b.steps, GoodG s N
  len : b.steps.length ≤ 65536
  act : cntS b.steps ≤ 67108864
theorem PrgG.ok {b : Bld} {N : Nat} (h : PrgG b N) : ∀ s ∈ b.steps, StepG s N := fun s hs => (h.st s hs).st
theorem PrgG.cn {b : Bld} {N : Nat} (h : PrgG b N) : ∀ s ∈ b.steps, 1 ≤ s.count := fun s hs => (h.st s hs).st.cnt.1
theorem StepG.mono {s : Stp} {N M : Nat} (h : StepG s N) (hm : N ≤ M) : StepG s M := by
  refine ⟨h.sm, h.cnt, ?_⟩
  rcases h.op with h | h | h | h | h | h | h | h | h | h | h
  · exact .inl ⟨h.1, by omega, by omega⟩
  · exact .inr (.inl ⟨h.1, by omega, by omega⟩)
  · exact .inr (.inr (.inl ⟨h.1, by omega⟩))
  · exact .inr (.inr (.inr (.inl ⟨h.1, by omega, h.2.2⟩)))
  · exact .inr (.inr (.inr (.inr (.inl ⟨h.1, h.2.1, h.2.2.1, by omega⟩))))
  · exact .inr (.inr (.inr (.inr (.inr (.inl ⟨h.1, h.2.1, h.2.2.1, h.2.2.2.1, h.2.2.2.2.1, by omega, by omega⟩)))))
  · exact .inr (.inr (.inr (.inr (.inr (.inr (.inl ⟨h.1, by omega, h.2.2⟩))))))
  · exact .inr (.inr (.inr (.inr (.inr (.inr (.inr (.inl ⟨h.1, by omega, h.2.2⟩)))))))
  · exact .inr (.inr (.inr (.inr (.inr (.inr (.inr (.inr (.inl ⟨h.1, by omega, by omega⟩))))))))
  · exact .inr (.inr (.inr (.inr (.inr (.inr (.inr (.inr (.inr (.inl ⟨h.1, by omega⟩)))))))))
  · exact .inr (.inr (.inr (.inr (.inr (.inr (.inr (.inr (.inr (.inr ⟨h.1, by omega⟩)))))))))
theorem GoodG.mono {s : Stp} {N M : Nat} (h : GoodG s N) (hm : N ≤ M) : GoodG s M := ⟨h.st.mono hm, h.form, h.jmp, h.d1, h.d2, h.d6, h.d9⟩
theorem no_op {s : Stp} {b : Int} {p : Prop} (i : Int) (hi : s.op = i) (h : ¬ i = b) : s.op = b → p := fun e => absurd (hi.symm.trans e) h
theorem cntS_snoc (l : List Stp) (s : Stp) : cntS (l ++ [s]) = cntS l + s.count := by
  induction l with
  | nil => show s.count + 0 = 0 + s.count; omega
  | cons t r ih => show t.count + cntS (r ++ [s]) = t.count + cntS r + s.count; omega
structure PB (b : Bld) : Prop where
  ok : BdOk b
  st : ∀ s ∈ b.steps, GoodG s b.cl.toNat
  ac : b.acts = cntS b.steps
theorem PB.add {b : Bld} {s : Stp} (h : PB b) (hs : b.full = false → GoodG s b.cl.toNat) : PB (b.add s) := by
  refine ⟨h.ok.add s, ?_, ?_⟩
  · rw [add_cl]
    intro t ht
    by_cases hf : b.full = true
    · rw [add_full hf] at ht; exact h.st t ht
    · have hf : b.full = false := by simpa using hf
      rw [add_not hf] at ht
      rcases List.mem_append.1 ht with ht | ht
      · exact h.st t ht
      · obtain rfl := List.mem_singleton.1 ht
        exact hs hf
  · by_cases hf : b.full = true
    · rw [add_full hf]; exact h.ac
    · have hf : b.full = false := by simpa using hf
      rw [add_not hf]
      show b.acts + actsM s = cntS (b.steps ++ [s])
      rw [cntS_snoc, h.ac, actsM, if_pos (hs hf).form]
theorem PB.region {b : Bld} {n : Int} (h : PB b) (h0 : 0 ≤ n) (h1 : b.fr + n ≤ 400000) : PB (b.region n) :=
  ⟨h.ok.region h0 h1, fun s hs => (h.st s hs).mono (by have := region_cl b n; omega), h.ac⟩
theorem PB.back {b c : Bld} (h : PB c) (hb : PB b) (hc : b.cl ≤ c.cl) : PB { c with fr := b.fr } :=
  ⟨⟨hb.ok.f0, Int.le_trans hb.ok.f1 hc, h.ok.c1, h.ok.l1, h.ok.a0, h.ok.a1⟩, h.st, h.ac⟩
structure InsOk (x : Inst) (L f : Int) : Prop where
  s0 : 0 ≤ x.src
  j1 : 1 ≤ x.jump
  j2 : x.jump ≤ 262144
  sL : x.src + (L - 1) * x.jump < f
  d0 : 0 ≤ x.dst
  dL : x.dst + L ≤ f
  dis : x.src + (L - 1) * x.jump < x.dst ∨ x.dst + L ≤ x.src
theorem form_any {s : Stp} (i : Nat) (hi : s.op = i) (h1 : 1 ≤ i) (h11 : i ≤ 11) (hd : 0 ≤ s.dst ∧ s.dst ≤ 262143) (hc : 1 ≤ s.count ∧ s.count ≤ 262144) (hs : fromM (kSrc i) s.src 0 262143 = true) (hj : fromM (kJmp i) s.jump 1 262144 = true) (hn : fromM (decide (kN i > 0)) s.n (if i = 5 then 2 else 1) (kN i) = true) (hk : fromM (kK i) s.k 0 (s.n - 1) = true)
    (hl : (if i = 5 then decide (s.count ≤ s.jump) else if i = 6 ∨ i = 7 then decide (s.count ≤ s.n) else if i = 8 then decide (s.count ≥ 2 * s.n - 1) && decide (s.count ≤ 16384) else true) = true) : formM s = true := by
  have e : s.op.toNat = i := by omega
  have c5 : (s.op = 5) = (i = 5) := by rw [hi]; exact propext (by omega)
  have c6 : (s.op = 6) = (i = 6) := by rw [hi]; exact propext (by omega)
  have c7 : (s.op = 7) = (i = 7) := by rw [hi]; exact propext (by omega)
  have c8 : (s.op = 8) = (i = 8) := by rw [hi]; exact propext (by omega)
  unfold formM
  rw [if_neg (by omega)]
  simp only [e, c5, c6, c7, c8]
  have a1 : fromM true s.dst 0 262143 = true := by simp [fromM]; omega
  have a2 : fromM true s.count 1 262144 = true := by simp [fromM]; omega
  rw [if_neg (by rw [a1, a2, hs, hj, hn, hk]; decide)]
  exact hl
theorem from_yes {x lo hi : Int} (h : lo ≤ x ∧ x ≤ hi) : fromM true x lo hi = true := by simp [fromM]; omega
theorem from_no {lo hi : Int} : fromM false 0 lo hi = true := rfl
theorem sm_any {s : Stp} (h0 : 0 ≤ s.op ∧ s.op ≤ 1000000) (h1 : 0 ≤ s.dst ∧ s.dst ≤ 1000000) (h2 : 0 ≤ s.src ∧ s.src ≤ 1000000) (h3 : 0 ≤ s.jump ∧ s.jump ≤ 1000000) (h4 : 0 ≤ s.count ∧ s.count ≤ 1000000) (h5 : 0 ≤ s.n ∧ s.n ≤ 1000000) (h6 : 0 ≤ s.k ∧ s.k ≤ 1000000) : SmS s := ⟨h0, h1, h2, h3, h4, h5, h6⟩
section
variable {N : Int}
theorem g_gather {d s j c : Int} (hN : N ≤ 262144) (hd : 0 ≤ d ∧ d + c ≤ N) (hc : 1 ≤ c) (hs : 0 ≤ s) (hj : 1 ≤ j ∧ j ≤ 262144) (hs2 : s + (c - 1) * j < N) (hx : s + (c - 1) * j < d ∨ d + c ≤ s) : GoodG (gatherS d s j c) N.toNat := by
  have hp : 0 ≤ (c - 1) * j := Int.mul_nonneg (by omega) (by omega)
  exact ⟨⟨sm_any (by simp [gatherS]) (by simp only [gatherS]; omega) (by simp only [gatherS]; omega) (by simp only [gatherS]; omega) (by simp only [gatherS]; omega) (by simp [gatherS]) (by simp [gatherS]), by simp only [gatherS]; omega, .inl ⟨rfl, by simp only [gatherS]; omega, by simp only [gatherS]; omega⟩⟩,
    form_any 1 rfl (by decide) (by decide) (by simp only [gatherS]; omega) (by simp only [gatherS]; omega) (from_yes (by simp only [gatherS]; omega)) (from_yes (by simp only [gatherS]; omega)) from_no from_no rfl,
    no_op 1 rfl (by decide), fun _ => hx, no_op 1 rfl (by decide), no_op 1 rfl (by decide), no_op 1 rfl (by decide)⟩
theorem g_scatter {d s j c : Int} (hN : N ≤ 262144) (hd : 0 ≤ d ∧ d + (c - 1) * j < N) (hc : 1 ≤ c) (hs : 0 ≤ s) (hj : 1 ≤ j ∧ j ≤ 262144) (hs2 : s + c ≤ N) (hx : s + c ≤ d ∨ d + (c - 1) * j < s) : GoodG (scatterS d s j c) N.toNat := by
  have hp : 0 ≤ (c - 1) * j := Int.mul_nonneg (by omega) (by omega)
  exact ⟨⟨sm_any (by simp [scatterS]) (by simp only [scatterS]; omega) (by simp only [scatterS]; omega) (by simp only [scatterS]; omega) (by simp only [scatterS]; omega) (by simp [scatterS]) (by simp [scatterS]), by simp only [scatterS]; omega, .inr (.inl ⟨rfl, by simp only [scatterS]; omega, by simp only [scatterS]; omega⟩)⟩,
    form_any 2 rfl (by decide) (by decide) (by simp only [scatterS]; omega) (by simp only [scatterS]; omega) (from_yes (by simp only [scatterS]; omega)) (from_yes (by simp only [scatterS]; omega)) from_no from_no rfl,
    no_op 2 rfl (by decide), no_op 2 rfl (by decide), fun _ => hx, no_op 2 rfl (by decide), no_op 2 rfl (by decide)⟩
theorem g_zero {d c : Int} (hN : N ≤ 262144) (hd : 0 ≤ d ∧ d + c ≤ N) (hc : 1 ≤ c) : GoodG (zeroS d c) N.toNat :=
  ⟨⟨sm_any (by simp [zeroS]) (by simp only [zeroS]; omega) (by simp [zeroS]) (by simp [zeroS]) (by simp only [zeroS]; omega) (by simp [zeroS]) (by simp [zeroS]), by simp only [zeroS]; omega, .inr (.inr (.inl ⟨rfl, by simp only [zeroS]; omega⟩))⟩,
    form_any 3 rfl (by decide) (by decide) (by simp only [zeroS]; omega) (by simp only [zeroS]; omega) from_no from_no from_no from_no rfl,
    no_op 3 rfl (by decide), no_op 3 rfl (by decide), no_op 3 rfl (by decide), no_op 3 rfl (by decide), no_op 3 rfl (by decide)⟩
theorem g_twist {d c n k : Int} (hN : N ≤ 262144) (hd : 0 ≤ d ∧ d + c ≤ N) (hc : 1 ≤ c) (hn : 1 ≤ n ∧ n ≤ 16384) (hk : 0 ≤ k ∧ k < n) : GoodG (twistS d c n k) N.toNat :=
  ⟨⟨sm_any (by simp [twistS]) (by simp only [twistS]; omega) (by simp [twistS]) (by simp [twistS]) (by simp only [twistS]; omega) (by simp only [twistS]; omega) (by simp only [twistS]; omega), by simp only [twistS]; omega, .inr (.inr (.inr (.inl ⟨rfl, by simp only [twistS]; omega, hn.1, hn.2, hk.1, hk.2⟩)))⟩,
    form_any 4 rfl (by decide) (by decide) (by simp only [twistS]; omega) (by simp only [twistS]; omega) from_no from_no (from_yes hn) (from_yes (by simp only [twistS]; omega)) rfl,
    no_op 4 rfl (by decide), no_op 4 rfl (by decide), no_op 4 rfl (by decide), no_op 4 rfl (by decide), no_op 4 rfl (by decide)⟩
theorem g_fly {d j c r : Int} (hN : N ≤ 262144) (hd : 0 ≤ d) (hc : 1 ≤ c ∧ c ≤ j) (hj : j ≤ 262144) (hr : 2 ≤ r ∧ r ≤ 5) (hs2 : d + c - 1 + (r - 1) * j < N) : GoodG (flyS d j c r) N.toNat := by
  have hp : 0 ≤ (r - 1) * j := Int.mul_nonneg (by omega) (by omega)
  exact ⟨⟨sm_any (by simp [flyS]) (by simp only [flyS]; omega) (by simp [flyS]) (by simp only [flyS]; omega) (by simp only [flyS]; omega) (by simp only [flyS]; omega) (by simp [flyS]), by simp only [flyS]; omega, .inr (.inr (.inr (.inr (.inl ⟨rfl, hr.1, hr.2, by simp only [flyS]; omega⟩))))⟩,
    form_any 5 rfl (by decide) (by decide) (by simp only [flyS]; omega) (by simp only [flyS]; omega) from_no (from_yes (by simp only [flyS]; omega)) (from_yes hr) from_no (by show decide (c ≤ j) = true; exact decide_eq_true hc.2),
    fun _ => by simp only [flyS]; omega, no_op 5 rfl (by decide), no_op 5 rfl (by decide), no_op 5 rfl (by decide), no_op 5 rfl (by decide)⟩
theorem g_direct {x : Inst} {n : Int} (hN : N ≤ 262144) (hn : 1 ≤ n ∧ n ≤ 64) (h : InsOk x n N) : GoodG (directS x n) N.toNat := by
  obtain ⟨s0, j1, j2, sL, d0, dL, dis⟩ := h
  have hp : 0 ≤ (n - 1) * x.jump := Int.mul_nonneg (by omega) (by omega)
  exact ⟨⟨sm_any (by simp [directS]) (by simp only [directS]; omega) (by simp only [directS]; omega) (by simp only [directS]; omega) (by simp only [directS]; omega) (by simp only [directS]; omega) (by simp [directS]), by simp only [directS]; omega, .inr (.inr (.inr (.inr (.inr (.inl ⟨rfl, hn.1, hn.2, j1, Int.le_refl _, by simp only [directS]; omega, by simp only [directS]; omega⟩)))))⟩,
    form_any 6 rfl (by decide) (by decide) (by simp only [directS]; omega) (by simp only [directS]; omega) (from_yes (by simp only [directS]; omega)) (from_yes ⟨j1, j2⟩) (from_yes hn) from_no (by simp [directS]),
    no_op 6 rfl (by decide), no_op 6 rfl (by decide), no_op 6 rfl (by decide), fun _ => dis, no_op 6 rfl (by decide)⟩
theorem g_chirp {d n : Int} (hN : N ≤ 262144) (hd : 0 ≤ d ∧ d + n ≤ N) (hn : 1 ≤ n ∧ n ≤ 16384) : GoodG (chirpS d n n) N.toNat :=
  ⟨⟨sm_any (by simp [chirpS]) (by simp only [chirpS]; omega) (by simp [chirpS]) (by simp [chirpS]) (by simp only [chirpS]; omega) (by simp only [chirpS]; omega) (by simp [chirpS]), by simp only [chirpS]; omega, .inr (.inr (.inr (.inr (.inr (.inr (.inl ⟨rfl, by simp only [chirpS]; omega, hn.1, hn.2⟩))))))⟩,
    form_any 7 rfl (by decide) (by decide) (by simp only [chirpS]; omega) (by simp only [chirpS]; omega) from_no from_no (from_yes hn) from_no (by simp [chirpS]),
    no_op 7 rfl (by decide), no_op 7 rfl (by decide), no_op 7 rfl (by decide), no_op 7 rfl (by decide), no_op 7 rfl (by decide)⟩
theorem g_fill {d m n : Int} (hN : N ≤ 262144) (hd : 0 ≤ d ∧ d + m ≤ N) (hn : 1 ≤ n ∧ n ≤ 16384) (hm : 2 * n - 1 ≤ m ∧ m ≤ 16384) : GoodG (fillS d m n) N.toNat :=
  ⟨⟨sm_any (by simp [fillS]) (by simp only [fillS]; omega) (by simp [fillS]) (by simp [fillS]) (by simp only [fillS]; omega) (by simp only [fillS]; omega) (by simp [fillS]), by simp only [fillS]; omega, .inr (.inr (.inr (.inr (.inr (.inr (.inr (.inl ⟨rfl, by simp only [fillS]; omega, hn.1, hm.1, hm.2⟩)))))))⟩,
    form_any 8 rfl (by decide) (by decide) (by simp only [fillS]; omega) (by simp only [fillS]; omega) from_no from_no (from_yes hn) from_no (by show (decide (m ≥ 2 * n - 1) && decide (m ≤ 16384)) = true; rw [decide_eq_true (show m ≥ 2 * n - 1 by omega), decide_eq_true hm.2]; rfl),
    no_op 8 rfl (by decide), no_op 8 rfl (by decide), no_op 8 rfl (by decide), no_op 8 rfl (by decide), no_op 8 rfl (by decide)⟩
theorem g_times {d s c : Int} (hN : N ≤ 262144) (hd : 0 ≤ d ∧ d + c ≤ N) (hc : 1 ≤ c) (hs : 0 ≤ s ∧ s + c ≤ N) (hx : s + c ≤ d ∨ d + c ≤ s) : GoodG (tmsS d s c) N.toNat :=
  ⟨⟨sm_any (by simp [tmsS]) (by simp only [tmsS]; omega) (by simp only [tmsS]; omega) (by simp [tmsS]) (by simp only [tmsS]; omega) (by simp [tmsS]) (by simp [tmsS]), by simp only [tmsS]; omega, .inr (.inr (.inr (.inr (.inr (.inr (.inr (.inr (.inl ⟨rfl, by simp only [tmsS]; omega, by simp only [tmsS]; omega⟩))))))))⟩,
    form_any 9 rfl (by decide) (by decide) (by simp only [tmsS]; omega) (by simp only [tmsS]; omega) (from_yes (by simp only [tmsS]; omega)) from_no from_no from_no rfl,
    no_op 9 rfl (by decide), no_op 9 rfl (by decide), no_op 9 rfl (by decide), no_op 9 rfl (by decide), fun _ => hx⟩
theorem g_conj {d c : Int} (hN : N ≤ 262144) (hd : 0 ≤ d ∧ d + c ≤ N) (hc : 1 ≤ c) : GoodG (conjS d c) N.toNat :=
  ⟨⟨sm_any (by simp [conjS]) (by simp only [conjS]; omega) (by simp [conjS]) (by simp [conjS]) (by simp only [conjS]; omega) (by simp [conjS]) (by simp [conjS]), by simp only [conjS]; omega, .inr (.inr (.inr (.inr (.inr (.inr (.inr (.inr (.inr (.inl ⟨rfl, by simp only [conjS]; omega⟩)))))))))⟩,
    form_any 10 rfl (by decide) (by decide) (by simp only [conjS]; omega) (by simp only [conjS]; omega) from_no from_no from_no from_no rfl,
    no_op 10 rfl (by decide), no_op 10 rfl (by decide), no_op 10 rfl (by decide), no_op 10 rfl (by decide), no_op 10 rfl (by decide)⟩
theorem g_over {d c n : Int} (hN : N ≤ 262144) (hd : 0 ≤ d ∧ d + c ≤ N) (hc : 1 ≤ c) (hn : 1 ≤ n ∧ n ≤ 16384) : GoodG (overS d c n) N.toNat :=
  ⟨⟨sm_any (by simp [overS]) (by simp only [overS]; omega) (by simp [overS]) (by simp [overS]) (by simp only [overS]; omega) (by simp only [overS]; omega) (by simp [overS]), by simp only [overS]; omega, .inr (.inr (.inr (.inr (.inr (.inr (.inr (.inr (.inr (.inr ⟨rfl, by simp only [overS]; omega⟩)))))))))⟩,
    form_any 11 rfl (by decide) (by decide) (by simp only [overS]; omega) (by simp only [overS]; omega) from_no from_no (from_yes hn) from_no rfl,
    no_op 11 rfl (by decide), no_op 11 rfl (by decide), no_op 11 rfl (by decide), no_op 11 rfl (by decide), no_op 11 rfl (by decide)⟩
end
end Go.Tm
namespace Go.Tm
theorem InsOk.part {x : Inst} {a b f f' t j : Int} (h : InsOk x (a * b) f) (ha : 2 ≤ a) (hb : 2 ≤ b) (hj : 0 ≤ j ∧ j < a) (hf : f ≤ 262144) (ht : 0 ≤ t) (hf' : f ≤ f') (htL : t + a * b ≤ f') (hdis : x.src + (a * b - 1) * x.jump < t ∨ t + a * b ≤ x.src) : InsOk ⟨x.src + j * x.jump, x.jump * a, t + j * b⟩ b f' := by
  obtain ⟨s0, j1, j2, sL, d0, dL, dis⟩ := h
  have hab : 2 * a ≤ a * b := by rw [Int.mul_comm a b]; exact Int.mul_le_mul_of_nonneg_right hb (by omega)
  have e2 : (b - 1) * (x.jump * a) = (a * b - a) * x.jump := by rw [Int.mul_comm x.jump a, ← Int.mul_assoc, Int.sub_mul, Int.one_mul, Int.mul_comm b a]
  have e4 : (j + (a * b - a)) * x.jump ≤ (a * b - 1) * x.jump := Int.mul_le_mul_of_nonneg_right (by omega) (by omega)
  have e5 : (j + (a * b - a)) * x.jump = j * x.jump + (a * b - a) * x.jump := Int.add_mul ..
  have e6 : a * x.jump ≤ (a * b - 1) * x.jump := Int.mul_le_mul_of_nonneg_right (by omega) (by omega)
  have e7 : 0 ≤ j * x.jump := Int.mul_nonneg hj.1 (by omega)
  have e8 : 0 ≤ j * b := Int.mul_nonneg hj.1 (by omega)
  have e9 : (j + 1) * b ≤ a * b := Int.mul_le_mul_of_nonneg_right (by omega) (by omega)
  rw [Int.add_mul, Int.one_mul] at e9
  have e10 : 1 * 2 ≤ x.jump * a := Int.mul_le_mul j1 ha (by omega) (by omega)
  have e11 : x.jump * a = a * x.jump := Int.mul_comm _ _
  refine ⟨by simp only; omega, by simp only; omega, by simp only; omega, ?_, by simp only; omega, by simp only; omega, ?_⟩
  · simp only; rw [e2]; omega
  · simp only; rw [e2]; omega
structure PF (f cl : Int) (b : Bld) : Prop where
  pb : PB b
  fr : b.fr = f
  cl : cl ≤ b.cl
def DeepG (R : Inst → Bld → Bld) (L : Int) : Prop := ∀ x b, PB b → InsOk x L b.fr → PB (R x b)
theorem PF.rek {f cl L : Int} {b : Bld} {R : Inst → Bld → Bld} (h : PF f cl b) (hR : DeepG R L) (hK : Keeps R) {x : Inst} (hx : InsOk x L f) : PF f cl (R x b) := by
  have k := hK x b h.pb.ok
  exact ⟨hR x b h.pb (by rw [h.fr]; exact hx), k.fr.trans h.fr, Int.le_trans h.cl k.cl⟩
theorem PF.add {f cl : Int} {b : Bld} {s : Stp} (h : PF f cl b) (hs : ∀ N : Int, cl ≤ N → N ≤ 262144 → GoodG s N.toNat) : PF f cl (b.add s) :=
  ⟨h.pb.add fun hf => hs _ h.cl (full_false hf).2.1, (add_fr _ _).trans h.fr, by rw [add_cl]; exact h.cl⟩
theorem PF.fold {f cl : Int} {n : Nat} {F : Bld → Nat → Bld} (hF : ∀ b j, j < n → PF f cl b → PF f cl (F b j)) : ∀ (l : List Nat), (∀ j ∈ l, j < n) → ∀ b, PF f cl b → PF f cl (l.foldl F b)
  | [], _, _, h => h
  | j :: t, hl, b, h => PF.fold hF t (fun i hi => hl i (List.mem_cons_of_mem _ hi)) _ (hF b j (hl j (List.mem_cons_self ..)) h)
theorem PF.range {f cl : Int} {n : Nat} {F : Bld → Nat → Bld} {b : Bld} (h : PF f cl b) (hF : ∀ b j, j < n → PF f cl b → PF f cl (F b j)) : PF f cl ((List.range n).foldl F b) := PF.fold hF _ (fun _ hj => List.mem_range.1 hj) _ h
theorem PF.timesJ {f cl a b t f0 : Int} {x : Inst} {R : Inst → Bld → Bld} {c : Bld} {j : Nat} (h : PF f cl c) (hR : DeepG R b) (hK : Keeps R) (hx : InsOk x (a * b) f0) (ha : 2 ≤ a) (hb : 2 ≤ b) (hab : a * b ≤ 16384) (hf0 : f0 ≤ 262144) (ht : 0 ≤ t) (hff : f0 ≤ f) (htL : t + a * b ≤ f) (hfc : f ≤ cl) (hdis : x.src + (a * b - 1) * x.jump < t ∨ t + a * b ≤ x.src) (hj : j < a.toNat) : PF f cl (Go.Tm.timesJ R x a b t c j) := by
  have hja : (j : Int) < a := by omega
  have hp := hx.part (j := j) ha hb ⟨by omega, hja⟩ hf0 ht hff htL hdis
  have h2 := h.rek hR hK hp
  unfold Go.Tm.timesJ
  simp only
  split
  · have d0 := hp.d0
    have dL := hp.dL
    simp only at d0 dL
    have hab2 : 1 * a ≤ b * a := Int.mul_le_mul_of_nonneg_right (by omega) (by omega)
    rw [Int.one_mul, Int.mul_comm b a] at hab2
    exact h2.add fun N h1 h2 => g_twist h2 ⟨d0, by omega⟩ (by omega) ⟨by omega, hab⟩ ⟨by omega, by omega⟩
  · exact h2
theorem PF.timesK {f cl a b t z : Int} {x : Inst} {R : Inst → Bld → Bld} {c : Bld} {k : Nat} (h : PF f cl c) (hR : DeepG R a) (hK : Keeps R) (ha : 2 ≤ a) (hb : 2 ≤ b) (hab : a * b ≤ 16384) (ht : 0 ≤ t) (htz : t + a * b ≤ z) (hzf : z + a ≤ f) (hfc : f ≤ cl) (hd0 : 0 ≤ x.dst) (hdt : x.dst + a * b ≤ t) (hk : k < b.toNat) : PF f cl (Go.Tm.timesK R x a b t z c k) := by
  have hkb : (k : Int) < b := by omega
  have e : (a - 1) * b = a * b - b := by rw [Int.sub_mul, Int.one_mul]
  have hb2 : 2 * b ≤ a * b := Int.mul_le_mul_of_nonneg_right ha (by omega)
  have hx : InsOk ⟨t + k, b, z⟩ a f := ⟨by simp only; omega, by simp only; omega, by simp only; omega, by simp only; rw [e]; omega, by simp only; omega, hzf, .inl (by simp only; rw [e]; omega)⟩
  unfold Go.Tm.timesK
  exact (h.rek hR hK hx).add fun N h1 h2 => g_scatter h2 ⟨by omega, by rw [e]; omega⟩ (by omega) (by omega) ⟨by omega, by omega⟩ (by omega) (.inr (by rw [e]; omega))
theorem region_fr (b : Bld) (n : Int) : (b.region n).fr = b.fr + n := rfl
theorem region_ge (b : Bld) (n : Int) : b.fr + n ≤ (b.region n).cl := by simp only [Bld.region]; split <;> omega
theorem PB.pf {b : Bld} (h : PB b) : PF b.fr b.fr b := ⟨h, rfl, h.ok.f1⟩
theorem PF.region {f cl : Int} {b : Bld} {n : Int} (h : PF f cl b) (h0 : 0 ≤ n) (h1 : f + n ≤ 400000) : PF (f + n) (f + n) (b.region n) :=
  ⟨h.pb.region h0 (by rw [h.fr]; exact h1), by rw [region_fr, h.fr], by have := region_ge b n; rw [h.fr] at this; exact this⟩
theorem deepG {o : Ord} (h : GO o) : DeepG (deepM o) (sl o) := by
  have D : ∀ {o : Ord} (x : Inst) {b r : Bld}, PB b → (b.full = false → deepM o x b = { r with fr := b.fr } ∧ PB r ∧ b.cl ≤ r.cl) → PB (deepM o x b) := by
    intro o x b r hb h
    by_cases hf : b.full = true
    · rw [deepM_full hf]; exact hb
    · obtain ⟨e, h1, h2⟩ := h (by simpa using hf)
      rw [e]; exact h1.back hb h2
  induction h with
  | @direct n h1 h2 =>
    intro x b hb hx
    have hx' : InsOk x n b.fr := hx
    refine D x hb fun hf => ⟨deepM_direct hf rfl, ?_⟩
    have := hb.pf.add (s := directS x n) fun N a1 a2 => g_direct a2 ⟨h1, h2⟩ ⟨hx'.s0, hx'.j1, hx'.j2, Int.lt_of_lt_of_le hx'.sL a1, hx'.d0, Int.le_trans hx'.dL a1, hx'.dis⟩
    exact ⟨this.pb, by rw [show (Ord.mk 1 n []).n = n from rfl, add_cl]; exact Int.le_refl _⟩
  | @fly n h1 h2 =>
    intro x b hb hx
    obtain ⟨s0, j1, j2, sL, d0, dL, dis⟩ : InsOk x n b.fr := hx
    refine D x hb fun hf => ⟨deepM_fly hf rfl, ?_⟩
    have := (hb.pf.add (s := gatherS x.dst x.src x.jump n) fun N a1 a2 => g_gather a2 ⟨d0, by omega⟩ (by omega) s0 ⟨j1, j2⟩ (by omega) dis).add (s := flyS x.dst 1 1 n) fun N a1 a2 => g_fly a2 d0 ⟨by omega, by omega⟩ (by omega) ⟨h1, h2⟩ (by omega)
    exact ⟨this.pb, by rw [show (Ord.mk 2 n []).n = n from rfl, add_cl, add_cl]; exact Int.le_refl _⟩
  | @times a b ga gb h2 h3 h4 ia ib =>
    intro x c hc hx
    have hx' : InsOk x (a.len * b.len) c.fr := hx
    have ka := deepM_keeps ga
    have kb := deepM_keeps gb
    rw [← len_sl (show a.len ≠ 0 by omega)] at ia
    rw [← len_sl (show b.len ≠ 0 by omega)] at ib
    refine D x hc fun hf => ⟨deepM_times hf rfl rfl, ?_⟩
    have hcl := (full_false hf).2.1
    have hfr := hc.ok.f1
    have hf0 := hc.ok.f0
    refine ⟨?_, (timesM_ok ka kb _ x hc.ok hf h2 h3 h4).2⟩
    unfold timesM
    have hab0 : 2 * b.len ≤ a.len * b.len := Int.mul_le_mul_of_nonneg_right h2 (by omega)
    have e : (a.len - 1) * b.len = a.len * b.len - b.len := by rw [Int.sub_mul, Int.one_mul]
    split
    · rename_i hk
      have hk2 : a.kind = 2 := by simpa using hk
      have har : 2 ≤ a.len ∧ a.len ≤ 5 := by
        have := len_sl (show a.len ≠ 0 by omega)
        cases ga with
        | fly p1 p2 => rw [this]; exact ⟨p1, p2⟩
        | direct _ _ => exact absurd (show (1 : Int) = 2 from hk2) (by decide)
        | times _ _ _ _ _ => exact absurd (show (3 : Int) = 2 from hk2) (by decide)
        | blue _ _ _ _ => exact absurd (show (4 : Int) = 2 from hk2) (by decide)
      have hF := (PF.range (n := a.len.toNat) hc.pf fun d j hj hd => PF.timesJ hd ib kb hx' h2 h3 h4 (by omega) hx'.d0 (Int.le_refl _) hx'.dL (Int.le_refl _) hx'.dis hj).add (s := flyS x.dst b.len b.len a.len) fun N a1 a2 => g_fly a2 hx'.d0 ⟨by omega, Int.le_refl _⟩ (by have := hx'.d0; have := hx'.dL; omega) har (by rw [e]; have := hx'.dL; omega)
      exact hF.pb
    · simp only
      have hla := len_bd a
      have hr := (hc.pf.region (n := a.len * b.len) (by omega) (by omega)).region (n := a.len) (by omega) (by omega)
      have hdl := hx'.dL
      have hd0 := hx'.d0
      have hsl := hx'.sL
      have hJ := PF.range (n := a.len.toNat) hr fun d j hj hd => PF.timesJ hd ib kb hx' h2 h3 h4 (by omega) (t := c.fr) hf0 (by omega) (by omega) (Int.le_refl _) (.inl hsl) hj
      exact (PF.range (n := b.len.toNat) hJ fun d k hk hd => PF.timesK (x := x) hd ia ka h2 h3 h4 hf0 (Int.le_refl _) (Int.le_refl _) (Int.le_refl _) hd0 hdl hk).pb
  | @blue n a h1 h2 ga h3 ia =>
    intro x c hc hx
    have hx' : InsOk x n c.fr := hx
    have ka := deepM_keeps ga
    have hm := len_bd a
    rw [← len_sl (show a.len ≠ 0 by omega)] at ia
    refine D x hc fun hf => ⟨deepM_blue hf rfl rfl, ?_⟩
    have hcl := (full_false hf).2.1
    have hfr := hc.ok.f1
    have hf0 := hc.ok.f0
    refine ⟨?_, (blueM_ok ka x hc.ok hf hm.1 hm.2).2⟩
    obtain ⟨s0, j1, j2, sL, d0, dL, dis⟩ := hx'
    show PB (blueM (deepM a) n a.len x c)
    unfold blueM
    simp only [Blu.of, Blu.first, Blu.fill, Blu.second, Blu.last, Bld.adds, List.foldl_cons, List.foldl_nil]
    generalize a.len = m at *
    have hr := (((hc.pf.region (n := m) (by omega) (by omega)).region (n := m) (by omega) (by omega)).region (n := m) (by omega) (by omega)).region (n := m) (by omega) (by omega)
    have i1 : ∀ u p : Int, 0 ≤ u → 0 ≤ p → u + m ≤ c.fr + m + m + m + m → p + m ≤ c.fr + m + m + m + m → (u + m ≤ p ∨ p + m ≤ u) → InsOk ⟨u, 1, p⟩ m (c.fr + m + m + m + m) := fun u p a1 a2 a3 a4 a5 => ⟨a1, by simp only; omega, by simp only; omega, by simp only; omega, a2, a4, by simp only; omega⟩
    have k1 := ((hr.add (s := gatherS c.fr x.src x.jump n) fun N b1 b2 => g_gather b2 ⟨hf0, by omega⟩ (by omega) s0 ⟨j1, j2⟩ (by omega) (.inl sL)).add (s := zeroS (c.fr + n) (m - n)) fun N b1 b2 => g_zero b2 ⟨by omega, by omega⟩ (by omega)).add (s := chirpS c.fr n n) fun N b1 b2 => g_chirp b2 ⟨hf0, by omega⟩ ⟨by omega, h2⟩
    have k2 := k1.rek ia ka (i1 c.fr (c.fr + m + m) (by omega) (by omega) (by omega) (by omega) (by omega))
    have k3 := k2.add (s := fillS (c.fr + m) m n) fun N b1 b2 => g_fill b2 ⟨by omega, by omega⟩ ⟨by omega, h2⟩ ⟨h3, hm.2⟩
    have k4 := k3.rek ia ka (i1 (c.fr + m) (c.fr + m + m + m) (by omega) (by omega) (by omega) (by omega) (by omega))
    have k5 := (k4.add (s := tmsS (c.fr + m + m) (c.fr + m + m + m) m) fun N b1 b2 => g_times b2 ⟨by omega, by omega⟩ (by omega) ⟨by omega, by omega⟩ (by omega)).add (s := conjS (c.fr + m + m) m) fun N b1 b2 => g_conj b2 ⟨by omega, by omega⟩ (by omega)
    have k6 := k5.rek ia ka (i1 (c.fr + m + m) c.fr (by omega) (by omega) (by omega) (by omega) (by omega))
    have k7 := (((k6.add (s := conjS c.fr n) fun N b1 b2 => g_conj b2 ⟨by omega, by omega⟩ (by omega)).add (s := overS c.fr n m) fun N b1 b2 => g_over b2 ⟨by omega, by omega⟩ (by omega) ⟨by omega, hm.2⟩).add (s := gatherS x.dst c.fr 1 n) fun N b1 b2 => g_gather b2 ⟨d0, by omega⟩ (by omega) (by omega) ⟨by omega, by omega⟩ (by omega) (.inr dL)).add (s := chirpS x.dst n n) fun N b1 b2 => g_chirp b2 ⟨d0, by omega⟩ ⟨by omega, h2⟩
    exact k7.pb
structure Hd3 (b c : Bld) : Prop where
  ln : c.ln = b.ln
  i0 : c.i0 = b.i0
  ou : c.ou = b.ou
theorem Hd3.refl (b : Bld) : Hd3 b b := ⟨rfl, rfl, rfl⟩
theorem Hd3.trans {a b c : Bld} (h : Hd3 a b) (g : Hd3 b c) : Hd3 a c := ⟨g.ln.trans h.ln, g.i0.trans h.i0, g.ou.trans h.ou⟩
theorem Hd3.add {a b : Bld} (h : Hd3 a b) (s : Stp) : Hd3 a (b.add s) := ⟨(add_ln _ _).trans h.ln, (add_i0 _ _).trans h.i0, (add_ou _ _).trans h.ou⟩
theorem Hd3.fold {F : Bld → Nat → Bld} (hF : ∀ b j, Hd3 b (F b j)) : ∀ (l : List Nat) (b : Bld), Hd3 b (l.foldl F b)
  | [], b => Hd3.refl b
  | j :: t, b => (hF b j).trans (Hd3.fold hF t _)
theorem deepM_hd {o : Ord} (h : GO o) : ∀ x b, Hd3 b (deepM o x b) := by
  have D : ∀ {o : Ord} {x : Inst} {b r : Bld}, (b.full = false → deepM o x b = { r with fr := b.fr } ∧ Hd3 b r) → Hd3 b (deepM o x b) := by
    intro o x b r h
    by_cases hf : b.full = true
    · rw [deepM_full hf]; exact Hd3.refl b
    · obtain ⟨e, h1⟩ := h (by simpa using hf)
      rw [e]; exact ⟨h1.ln, h1.i0, h1.ou⟩
  induction h with
  | direct _ _ => exact fun x b => D fun hf => ⟨deepM_direct hf rfl, (Hd3.refl b).add _⟩
  | fly _ _ => exact fun x b => D fun hf => ⟨deepM_fly hf rfl, ((Hd3.refl b).add _).add _⟩
  | @times a b _ _ _ _ _ ia ib =>
    refine fun x c => D fun hf => ⟨deepM_times hf rfl rfl, ?_⟩
    have hJ : ∀ t (d : Bld) (j : Nat), Hd3 d (timesJ (deepM b) x a.len b.len t d j) := fun t d j => by
      unfold timesJ; simp only
      split
      · exact (ib _ _).add _
      · exact ib _ _
    unfold timesM
    split
    · exact (Hd3.fold (fun d j => hJ _ d j) _ _).add _
    · simp only
      refine Hd3.trans (b := (c.region (a.len * b.len)).region a.len) ⟨rfl, rfl, rfl⟩ ((Hd3.fold (fun d j => hJ _ d j) _ _).trans (Hd3.fold (fun d k => ?_) _ _))
      unfold timesK
      exact (ia _ _).add _
  | @blue n a _ _ _ _ ia =>
    refine fun x c => D fun hf => ⟨deepM_blue hf rfl rfl, ?_⟩
    show Hd3 c (blueM (deepM a) n a.len x c)
    unfold blueM
    simp only [Blu.first, Blu.second, Blu.last, Bld.adds, List.foldl_cons, List.foldl_nil]
    refine Hd3.trans (b := (((c.region a.len).region a.len).region a.len).region a.len) ⟨rfl, rfl, rfl⟩ ?_
    exact ((((((((((((((((Hd3.refl _).add _).add _).add _).trans (ia _ _)).add _).trans (ia _ _)).add _).add _).trans (ia _ _)).add _).add _).add _).add _)))
theorem add_len {b : Bld} {s : Stp} (h : (b.add s).full = false) : 1 ≤ (b.add s).steps.length := by
  by_cases hf : b.full = true
  · rw [add_full hf, hf] at h; cases h
  · rw [add_not (by simpa using hf)]; simp
theorem deepM_len {o : Ord} (h : GO o) (x : Inst) (b : Bld) (hf : (deepM o x b).full = false) : 1 ≤ (deepM o x b).steps.length := by
  have hb : b.full = false := by
    by_cases hb : b.full = true
    · rw [deepM_full hb, hb] at hf; cases hf
    · simpa using hb
  cases h with
  | direct _ _ => rw [deepM_direct hb rfl] at hf ⊢; exact add_len hf
  | fly _ _ => rw [deepM_fly hb rfl] at hf ⊢; exact add_len hf
  | @times a c _ _ h2 h3 _ =>
    rw [deepM_times hb rfl rfl] at hf ⊢
    have e : ∀ r : Bld, (({ r with fr := b.fr } : Bld).full = false → 1 ≤ r.steps.length) → ({ r with fr := b.fr } : Bld).full = false → 1 ≤ ({ r with fr := b.fr } : Bld).steps.length := fun r h => h
    refine e _ (fun hf => ?_) hf
    revert hf
    unfold timesM
    split
    · exact fun hf => add_len hf
    · simp only
      obtain ⟨k, hk⟩ : ∃ k, c.len.toNat = k + 1 := ⟨c.len.toNat - 1, by omega⟩
      rw [hk, List.range_succ, List.foldl_append]
      simp only [List.foldl_cons, List.foldl_nil]
      unfold timesK
      exact fun hf => add_len hf
  | @blue n a _ _ _ _ =>
    rw [deepM_blue hb rfl rfl] at hf ⊢
    have e : ∀ r : Bld, (({ r with fr := b.fr } : Bld).full = false → 1 ≤ r.steps.length) → ({ r with fr := b.fr } : Bld).full = false → 1 ≤ ({ r with fr := b.fr } : Bld).steps.length := fun r h => h
    refine e _ (fun hf => ?_) hf
    revert hf
    unfold blueM
    simp only [Blu.last, Bld.adds, List.foldl_cons, List.foldl_nil]
    exact fun hf => add_len hf
end Go.Tm
namespace Go.Tm
set_option maxRecDepth 100000
open Go.RowKit Go.Proofs
section
variable {P : Program} {n : Fr} {k : K} {w : World} {d : Option Tmp} {ty : TypeId} {pos : String} {aft : Array Edge} {g : Option (Nat × Bool)} {t t' : TypeId} {x y : Operand} {q : IntKind} {a b : Int}
theorem Rn.lssT (hx : ev k x = some (.int q a)) (hy : ev k y = some (.int q b)) (h : a < b) : Rn P n k w { dst := d, op := .binOp .lss t x y t', type := ty, pos := pos, after := aft, guard := g } (.bool true) := by
  have := Cs (P := P) (n := n) (w := w) (d := d) (ty := ty) (pos := pos) (aft := aft) (g := g) (t := t) (t' := t') hx hy
  rwa [decide_eq_true h] at this
theorem Rn.leqT (hx : ev k x = some (.int q a)) (hy : ev k y = some (.int q b)) (h : a ≤ b) : Rn P n k w { dst := d, op := .binOp .leq t x y t', type := ty, pos := pos, after := aft, guard := g } (.bool true) := by
  have := Rv (P := P) (n := n) (w := w) (d := d) (ty := ty) (pos := pos) (aft := aft) (g := g) (t := t) (t' := t') hx hy
  rwa [decide_eq_true h] at this
theorem Rn.geqT (hx : ev k x = some (.int q a)) (hy : ev k y = some (.int q b)) (h : b ≤ a) : Rn P n k w { dst := d, op := .binOp .geq t x y t', type := ty, pos := pos, after := aft, guard := g } (.bool true) := by
  have := Wb (P := P) (n := n) (w := w) (d := d) (ty := ty) (pos := pos) (aft := aft) (g := g) (t := t) (t' := t') hx hy
  rwa [decide_eq_true h] at this
theorem Rn.geqF (hx : ev k x = some (.int q a)) (hy : ev k y = some (.int q b)) (h : a < b) : Rn P n k w { dst := d, op := .binOp .geq t x y t', type := ty, pos := pos, after := aft, guard := g } (.bool false) := by
  have := Wb (P := P) (n := n) (w := w) (d := d) (ty := ty) (pos := pos) (aft := aft) (g := g) (t := t) (t' := t') hx hy
  rwa [decide_eq_false (by omega)] at this
theorem Wa {m : Nat} {fn : Func} {R : Ending → World → Prop} {s t u sz : Nat} {ty : TypeId} {ad : Addr} {cs : List Value} {v z : Value} (hf : fn.results = #[.tmp s, .cell t ty, .tmp u]) (hs : kget k s = some z) (hv : kget k t = some (.pointer (some ad))) (ht : ∀ w, (isAgg ty).run P w = .ok true w) (hz : ∀ w, (sizeOf ty).run P w = .ok sz w)
    (hl : cs.length = sz) (hc : cellsAt w ad cs) (hu : kget k u = some v) (hR : R (.returned (.tuple #[z, .agg cs.toArray, v])) w) : VQ ⟨m, []⟩ (bodyPost P fn R) .ret k w :=
  VQ.post rfl (fun a ha => by subst hl; have h0 := ha.known s _ hs; have h1 := ha.known t _ hv; have h2 := ha.known u _ hu; simp [results, hf, h0, h1, h2, loadVar, ht, hz, run_loadCells_at hc, asAddr]) hR
end
theorem flat3_get (f : Nat → List Value) (hf : ∀ i, (f i).length = 3) : ∀ (n i : Nat), i < n → ∀ j v, (f i)[j]? = some v → ((List.range n).flatMap f)[i * 3 + j]? = some v
  | 0, _, h, _, _, _ => absurd h (Nat.not_lt_zero _)
  | n + 1, i, h, j, v, hv => by
    have hlen : ∀ n, ((List.range n).flatMap f).length = n * 3 := fun n => by
      induction n with
      | zero => rfl
      | succ n ih => rw [List.range_succ, List.flatMap_append, List.length_append, ih]; simp [hf]; omega
    have hj : j < 3 := by have := (List.getElem?_eq_some_iff.1 hv).1; rw [hf] at this; exact this
    rw [List.range_succ, List.flatMap_append]
    by_cases hi : i < n
    · rw [List.getElem?_append_left (by rw [hlen]; omega)]
      exact flat3_get f hf n i hi j v hv
    · have : i = n := by omega
      subst this
      rw [List.getElem?_append_right (by rw [hlen]; omega), hlen, show i * 3 + j - i * 3 = j by omega]
      simpa using hv
abbrev rowQ (d ju co : Int) (q : Nat) : List Value := [.int .i64 (d + (q : Int) * ju), .int .i64 1, .int .i64 co]
abbrev rowsQ (d ju co : Int) (n : Nat) : List Value := (List.range n).flatMap (rowQ d ju co)
theorem rowsQ_succ (d ju co : Int) (n : Nat) : rowsQ d ju co (n + 1) = rowsQ d ju co n ++ rowQ d ju co n := by simp [rowsQ, List.range_succ]
theorem sl_rowQ {S : Nat → Prop} {w : World} {A : Option Addr} {d ju co : Int} {n : Nat} (h : SlR S w A n 3 (rowsQ d ju co n)) {q : Nat} (hq : q < n) : CaR S w ((sAddr A).add (q * 3)) (rowQ d ju co q) := by
  obtain ⟨ad, had⟩ := h.ne (by omega)
  refine ⟨h.part (i := q) hq (flat3_get _ (fun _ => rfl) n q hq), ?_⟩
  rw [add_block]; subst had; exact h.ok ad rfl
theorem flatS_one (L : List Stp) : (flatS L).all Value.oneCell' = true := by
  rw [List.all_eq_true]
  intro v hv
  obtain ⟨s, _, hs⟩ := List.mem_flatMap.1 hv
  simp only [Stp.cells, List.mem_cons, List.not_mem_nil, or_false] at hs
  rcases hs with rfl | rfl | rfl | rfl | rfl | rfl | rfl <;> rfl
theorem sl_last {S : Nat → Prop} {w : World} {A : Option Addr} {d ju co : Int} {n : Nat} (h : SlR S w A n 3 (rowsQ d ju co n)) (hn : 1 ≤ n) : CaR S w ((sAddr A).add (((n : Int) - 1).toNat * 3)) [.int .i64 (d + ((n : Int) - 1) * ju), .int .i64 1, .int .i64 co] := by
  have := sl_rowQ h (q := n - 1) (by omega)
  rw [show ((n : Int) - 1).toNat = n - 1 by omega]
  have e : ((n - 1 : Nat) : Int) = (n : Int) - 1 := by omega
  simp only [rowQ, e] at this
  exact this
theorem Rn.gtrT {P : Program} {n : Fr} {k : K} {w : World} {d : Option Tmp} {ty : TypeId} {pos : String} {aft : Array Edge} {g : Option (Nat × Bool)} {t t' : TypeId} {x y : Operand} {q : IntKind} {a b : Int} (hx : ev k x = some (.int q a)) (hy : ev k y = some (.int q b)) (h : b < a) : Rn P n k w { dst := d, op := .binOp .gtr t x y t', type := ty, pos := pos, after := aft, guard := g } (.bool true) := by
  have := Rb (P := P) (n := n) (w := w) (d := d) (ty := ty) (pos := pos) (aft := aft) (g := g) (t := t) (t' := t') hx hy
  rwa [decide_eq_true h] at this
theorem inf305w85 : Inf Tryz.prog 305 (.agg #[.int .i64 0, .int .i64 0, .int .i64 0]) 3 24 := ⟨Tryz.t305, Tryz.type305, rfl, rfl, rfl⟩
theorem inf312w85 : Inf Tryz.prog 312 (.agg #[.int .i64 0, .int .i64 0, .int .i64 0, .bool false]) 4 32 := ⟨Tryz.t312, Tryz.type312, rfl, rfl, rfl⟩
theorem bld305_0_1_2w85 {v0 v1 v2 : Value} (h : [v0, v1, v2].all Value.oneCell' = true) (w : World) : (Instr.build 305 ([(0, v0), (1, v1), (2, v2)] : List (Nat × Value)).toArray).run Tryz.prog w = .ok (.agg #[v0, v1, v2]) w := by
  simp only [List.all_cons, Bool.and_eq_true, List.all_nil, and_true] at h
  have hv0 := oneCell_cells (v := v0) (by simp_all)
  have hv1 := oneCell_cells (v := v1) (by simp_all)
  have hv2 := oneCell_cells (v := v2) (by simp_all)
  have h1 := fill_set (fun i => ([(0, 1), (1, 1), (2, 1)] : List (Nat × Nat))[i]?) [(0, v0), (1, v1), (2, v2)] [.int .i64 0, .int .i64 0, .int .i64 0] (by simp [okF, agg_cells, hv0, hv1, hv2, Nat.beq, Nat.ble])
  simp [setF, agg_cells, hv0, hv1, hv2] at h1
  simp [Instr.build, Tryz.runUnderlying305, ζ305, ς3, agg_cells, h1]
theorem bld312_0_1w85 {v0_0 v0_1 v0_2 v1 : Value} (h : [v1].all Value.oneCell' = true) (w : World) : (Instr.build 312 ([(0, .agg #[v0_0, v0_1, v0_2]), (1, v1)] : List (Nat × Value)).toArray).run Tryz.prog w = .ok (.agg #[v0_0, v0_1, v0_2, v1]) w := by
  simp only [List.all_cons, Bool.and_eq_true, List.all_nil, and_true] at h
  have hv1 := oneCell_cells (v := v1) (by simp_all)
  have h1 := fill_set (fun i => ([(0, 3), (3, 1)] : List (Nat × Nat))[i]?) [(0, .agg #[v0_0, v0_1, v0_2]), (1, v1)] [.int .i64 0, .int .i64 0, .int .i64 0, .bool false] (by simp [okF, agg_cells, hv1, Nat.beq, Nat.ble])
  simp [setF, agg_cells, hv1] at h1
  simp [Instr.build, Tryz.runUnderlying312, Tryz.zeroValue312, ς4, ς305, agg_cells, h1]
theorem cel_last (a j c : Int) (hb : 0 ≤ a ∧ a ≤ 1000000000 ∧ 1 ≤ c ∧ c ≤ 1000000000 ∧ 0 ≤ (c - 1) * j ∧ (c - 1) * j ≤ 1000000000000 ∧ 0 ≤ j ∧ j ≤ 1000000000) (w : World) :
  Calls Tryz.prog 293 #[.agg #[.int .i64 a, .int .i64 j, .int .i64 c]] w (Ret (fun v w' => v = .int .i64 (a + (c - 1) * j) ∧ Ch No w w')) := by
 refine calls_of_VC (args := [.agg #[.int .i64 a, .int .i64 j, .int .i64 c]]) Tryz.func293 rfl Tryz.ntmps293 rfl (Qe (Qb (Oq (Cj rfl) rfl ?_)))
 rintro _ w1 ⟨p1, rfl, N1⟩
 have c1 := N1.ch
 have e1 := N1.p; have z1 := N1.size
 have b1 := Bk.new N1
 refine Om (Qd rfl) rfl (Qf (Qa (Qe (Qb (Om (Qg υ305 rfl ς3 rfl rfl rfl) rfl (Om (Qh ι3 rfl (b1.cell rfl)) rfl (Om (Qg υ305 rfl ς3 rfl rfl rfl) rfl ?_)))))))
 refine Om (Qh ι3 rfl (b1.cell rfl)) rfl ?_
 refine Om (Rf rfl rfl (by rw [IntKind.wrap_i64]; omega)) rfl ?_
 refine Om (Qg υ305 rfl ς3 rfl rfl rfl) rfl (Om (Qh ι3 rfl (b1.cell rfl)) rfl ?_)
 refine Om (Cv rfl rfl (by rw [IntKind.wrap_i64]; omega)) rfl ?_
 refine Om (Ce rfl rfl (by rw [IntKind.wrap_i64]; omega)) rfl ?_
 refine Om (Qd rfl) rfl (Qf (Qa (Qp (Qy rfl rfl (Ret.mk ?_)))))
 have CH_1 := (Ch.refl (No) w).and c1
 exact ⟨rfl, CH_1⟩
theorem cel_has (a j c x : Int) (hx : x < a) (w : World) :
  Calls Tryz.prog 295 #[.agg #[.int .i64 a, .int .i64 j, .int .i64 c], .int .i64 x] w (Ret (fun v w' => v = .int .i64 (-1) ∧ Ch No w w')) := by
 refine calls_of_VC (args := [.agg #[.int .i64 a, .int .i64 j, .int .i64 c], .int .i64 x]) Tryz.func295 rfl Tryz.ntmps295 rfl (Qe (Qb (Oq (Cj rfl) rfl ?_)))
 rintro _ w1 ⟨p1, rfl, N1⟩
 have c1 := N1.ch
 have e1 := N1.p; have z1 := N1.size
 have b2 := Bk.new N1
 refine Om (Qd rfl) rfl (Qf (Qa (Qe (Qe (Qb (Om (Qc rfl) rfl (Om (Qg υ305 rfl ς3 rfl rfl rfl) rfl ?_)))))))
 refine Om (Qh ι3 rfl (b2.cell rfl)) rfl (Om (Rn.lssT rfl rfl (by omega)) rfl (Om (Qc rfl) rfl (Oy rfl (Oy rfl (Oy rfl (Oy rfl (Om (Qt rfl rfl) rfl ?_)))))))
 refine Om (Qc rfl) rfl (Oy rfl (Oy rfl (Oy rfl (Oy rfl (Oy rfl (Oy rfl (Oy rfl ?_)))))))
 refine Oy rfl (Om (Qt rfl rfl) rfl (Qf (Qa (Cw rfl (Qe (Qb (Om (Qd rfl) rfl ?_)))))))
 refine Qf (Qa (Qp (Qu (Qy rfl rfl (Ret.mk ?_)))))
 have CH_1 := (Ch.refl (No) w).and c1
 exact ⟨rfl, CH_1⟩
theorem cel_hasH (a j c x : Int) (hx : a + (c - 1) * j < x) (h0 : a ≤ x) (hb : 0 ≤ a ∧ a ≤ 1000000000 ∧ 1 ≤ c ∧ c ≤ 1000000000 ∧ 0 ≤ (c - 1) * j ∧ (c - 1) * j ≤ 1000000000000 ∧ 0 ≤ j ∧ j ≤ 1000000000) (w : World) :
  Calls Tryz.prog 295 #[.agg #[.int .i64 a, .int .i64 j, .int .i64 c], .int .i64 x] w (Ret (fun v w' => v = .int .i64 (-1) ∧ Ch No w w')) := by
 refine calls_of_VC (args := [.agg #[.int .i64 a, .int .i64 j, .int .i64 c], .int .i64 x]) Tryz.func295 rfl Tryz.ntmps295 rfl (Qe (Qb (Oq (Cj rfl) rfl ?_)))
 rintro _ w1 ⟨p1, rfl, N1⟩
 have c1 := N1.ch
 have e1 := N1.p; have z1 := N1.size
 have b2 := Bk.new N1
 refine Om (Qd rfl) rfl (Qf (Qa (Qe (Qe (Qb (Om (Qc rfl) rfl (Om (Qg υ305 rfl ς3 rfl rfl rfl) rfl ?_)))))))
 refine Om (Qh ι3 rfl (b2.cell rfl)) rfl (Om (Rn.lssF rfl rfl (by omega)) rfl (Om (Qc rfl) rfl (Om (Qc rfl) rfl (Om (Qr ι305 ς305 rfl rfl (b2.all' rfl)) rfl (Oq (Qi κ293 rfl (cel_last _ _ _ (by omega) _)) rfl ?_)))))
 rintro _ w2 ⟨rfl, c2⟩
 have z2 := c2.size
 refine Om (Rn.gtrT rfl rfl (by omega)) rfl (Om (Qm rfl rfl) rfl (Om (Qc rfl) rfl (Oy rfl (Oy rfl (Oy rfl (Oy rfl (Oy rfl ?_)))))))
 refine Oy rfl (Oy rfl (Oy rfl (Om (Qt rfl rfl) rfl (Qf (Qa (Cw rfl (Qe ?_)))))))
 refine Qb (Om (Qd rfl) rfl (Qf (Qa (Qp (Qu (Qy rfl rfl (Ret.mk ?_)))))))
 have CH_2 := (Ch.refl (No) w).and (c1.trans c2)
 exact ⟨rfl, CH_2⟩
theorem cel_hasG (a j c x : Int) (hx : x < a ∨ a + (c - 1) * j < x) (hb : 0 ≤ a ∧ a ≤ 1000000000 ∧ 1 ≤ c ∧ c ≤ 1000000000 ∧ 0 ≤ (c - 1) * j ∧ (c - 1) * j ≤ 1000000000000 ∧ 0 ≤ j ∧ j ≤ 1000000000) (w : World) : Calls Tryz.prog 295 #[.agg #[.int .i64 a, .int .i64 j, .int .i64 c], .int .i64 x] w (Ret fun v w' => v = .int .i64 (-1) ∧ Ch No w w') := by
  by_cases h : x < a
  · exact cel_has a j c x h w
  · exact cel_hasH a j c x (by omega) (by omega) hb w
theorem steps_Form (s : Stp) (w : World) (st : StT w) (hf : formM s = true) (hG : 24 ≤ w.heap.size) :
  Calls Tryz.prog 291 #[.agg #[.int .i64 s.op, .int .i64 s.dst, .int .i64 s.src, .int .i64 s.jump, .int .i64 s.count, .int .i64 s.n, .int .i64 s.k]] w (Ret (fun v w' => v = .nilIface ∧ Ch No w w')) := by
 have hnb := form_n hf
 refine calls_of_VC (args := [.agg #[.int .i64 s.op, .int .i64 s.dst, .int .i64 s.src, .int .i64 s.jump, .int .i64 s.count, .int .i64 s.n, .int .i64 s.k]]) Tryz.func291 rfl Tryz.ntmps291 rfl (Qe (Qb (Oq (Cj rfl) rfl ?_)))
 rintro _ w1 ⟨p1, rfl, N1⟩
 have c1 := N1.ch
 have e1 := N1.p; have z1 := N1.size
 have b1 := Bk.new N1
 refine Om (Qd rfl) rfl (Qf (Qa (Qe (Qe (Qb (Om (Qr ι135 ς135 rfl rfl (b1.all' rfl)) rfl ?_))))))
 have st_1 := st.keep c1
 refine Oq (Qi Tryz.call202 rfl (steps_form_ok s _ st_1 (by omega) hf)) rfl ?_
 rintro _ w2 ⟨rfl, c2⟩
 have z2 := c2.size
 refine Om (Ro rfl) rfl (Qf (Qa (Ca rfl (Qn (Qa (Qe (Qb ?_)))))))
 refine Om (Qd rfl) rfl (Qf (Qa (Qp (Qy rfl rfl (Ret.mk ?_)))))
 have CH_2 := (Ch.refl (No) w).and (c1.trans c2)
 exact ⟨rfl, CH_2⟩
theorem touched1 (d sr ju co nn kk : Int) (w : World) :
  Calls Tryz.prog 294 #[.agg #[.int .i64 1, .int .i64 d, .int .i64 sr, .int .i64 ju, .int .i64 co, .int .i64 nn, .int .i64 kk]] w (Ret (fun v w' => ∃ q, v = .tuple #[.slice (some ⟨q, 0, none⟩) 1 1, .agg #[.int .i64 d, .int .i64 1, .int .i64 co], .bool false] ∧ SlR (Is q) w' (some ⟨q, 0, none⟩) 1 4 [.int .i64 sr, .int .i64 ju, .int .i64 co, .bool false] ∧ w.heap.size ≤ q ∧ Ch No w w')) := by
 refine calls_of_VC (args := [.agg #[.int .i64 1, .int .i64 d, .int .i64 sr, .int .i64 ju, .int .i64 co, .int .i64 nn, .int .i64 kk]]) Tryz.func294 rfl Tryz.ntmps294 rfl (Qe (Qb (Oq (Cj rfl) rfl ?_)))
 rintro _ w1 ⟨p1, rfl, N1⟩
 have c1 := N1.ch
 have e1 := N1.p; have z1 := N1.size
 have b1 := Bk.new N1
 refine Om (Qd rfl) rfl (Oq (Cc ζ305) rfl ?_)
 rintro _ w2 ⟨p2, rfl, N2⟩
 have c2 := N2.ch
 have e2 := N2.p; have z2 := N2.size
 have b3 := Bk.new N2
 refine Om (Qd rfl) rfl (Qf (Qa (Qe (Qb (Om (Qg υ135 rfl ς3 rfl rfl rfl) rfl ?_)))))
 have b1_2 := b1.keep c2
 refine Om (Qh ι3 rfl (b1_2.cell rfl)) rfl (Om (Qg υ135 rfl ς3 rfl rfl rfl) rfl (Om (Qh ι3 rfl (b1_2.cell rfl)) rfl (Om (Cl rfl (bld305_0_1_2w85 rfl)) rfl (Oz (Cf ς305 rfl rfl rfl rfl b3 (Nat.le_of_ble_eq_true rfl)) rfl ?_))))
 intro _ w3 Z3
 have c3 := Z3.ch; have z3 := Z3.size
 have b3_3 := Bk.put Z3
 refine Qf (Qa (Qe (Qe (Qb (Om (Qg υ135 rfl ς3 rfl rfl rfl) rfl ?_)))))
 have b1_3 := b1_2.to c3
 refine Om (Qh ι3 rfl (b1_3.cell rfl)) rfl (Qf (Qa (Qw (Qe (Qb (Om (Cm rfl rfl) rfl (Om (Qd rfl) rfl ?_)))))))
 refine Qf (Qa (Qj rfl (fun hc1 => ?_) (fun hc1 => ?_)))
 ·
  refine Qe (Rz 12 (.mv 0 (.mv 1 (.mv 2 (.mv 3 (.mv 4 (.mv 5 (.mv 6 (.mv 7 (.two 8 (.mv 10 (.wk 9 (.wk 11 .nil))) 9 (.wk 8 (.mv 10 (.wk 11 .nil)))))))))))) (fun w1 w' => Ch (Is p2) w1 w') mixed (by kernel_rfl) (fun _ _ => Ch.refl _ _) ?_)
  intro w4 D4
  have c4 := Ch.of_drew D4; have z4 := c4.size
  have b1_4 := b1_3.keep c4
  have b3_4 := b3_3.keep c4
  refine Ct (fun w' hS => Qg υ135 rfl ς3 rfl rfl rfl) rfl rfl rfl rfl (Ct (fun w' hS => Qh ι3 rfl ((b1_4.to hS).cell rfl)) rfl rfl rfl rfl (Ct (fun w' hS => Qg υ135 rfl ς3 rfl rfl rfl) rfl rfl rfl rfl (Ct (fun w' hS => Qh ι3 rfl ((b1_4.to hS).cell rfl)) rfl rfl rfl rfl (Ct (fun w' hS => Qg υ135 rfl ς3 rfl rfl rfl) rfl rfl rfl rfl (Ct (fun w' hS => Qh ι3 rfl ((b1_4.to hS).cell rfl)) rfl rfl rfl rfl (Ct (fun w' hS => Cl rfl (bld305_0_1_2w85 rfl)) rfl rfl rfl rfl (Ct (fun w' hS => Cl rfl (bld312_0_1w85 rfl)) rfl rfl rfl rfl ?_)))))))
  refine Wg ?_ ?_
  ·
   refine Rg (Cy υ308 inf312w85 (by decide) rfl rfl (by rfl) (by decide) (by decide) (by rfl)) rfl rfl rfl rfl ?_
   rintro _ w5 ⟨p5, rfl, N5⟩
   have c5 := N5.ch
   have e5 := N5.p; have z5 := N5.size
   have l22 := SlR.of_new (sz := 4) (l := 1) N5 rfl
   have l22o := Ow.of_new (sz := 4) (l := 1) N5 rfl (by decide)
   have RD_5 := (Ch.refl (Is p2) w4).and c5
   refine ⟨RD_5, ?_⟩
   refine Ct (fun w' hS => Qd rfl) rfl rfl rfl rfl ?_
   have b3_5 := b3_4.keep c5
   refine Rr (Qr ι305 ς305 rfl rfl (b3_5.all' rfl)) rfl rfl rfl rfl RD_5 (VT.wk0 (Cf ς305 rfl rfl rfl rfl b3_5 (Nat.le_of_ble_eq_true rfl)) rfl rfl rfl ?_)
   intro _ w6 Z6
   have c6 := Z6.ch; have z6 := Z6.size
   have b3_6 := Bk.put Z6
   have RD_6 : Ch (Is p2) w4 w6 := RD_5.then c6
   refine ⟨RD_6, ?_⟩
   refine Rj (Om (Qd rfl) rfl (Qf (Qx (Qa (Qp (Cd (Qu ?_)))))))
   refine Wa rfl rfl rfl ι305 ς305 rfl (b3_6.all' rfl) rfl (Ret.mk ?_)
   have cc_0_6 : Ch No w w6 := (Ch.then (E := No) (((Ch.then (E := No) (c1.and c2) c3 (by intro q h1 h2; rcases h2 with h2 | h2 <;> first | exact h2 | (exfalso; omega))).and c4).and c5) c6 (by intro q h1 h2; rcases h2 with h2 | h2 <;> first | exact h2 | (exfalso; omega)))
   have CH_6 := (Ch.refl (No) w).and cc_0_6
   have zz := CH_6.size
   have l22_6 := l22.to c6
   exact ⟨_, rfl, l22_6, by omega, CH_6⟩
  ·
   refine Rr (Qr ι305 ς305 rfl rfl (b3_4.all' rfl)) rfl rfl rfl rfl (Ch.refl (Is p2) w4) (Rg (Cy υ308 inf312w85 (by decide) rfl rfl (by rfl) (by decide) (by decide) (by rfl)) rfl rfl rfl rfl ?_)
   rintro _ w7 ⟨p7, rfl, N7⟩
   have c7 := N7.ch
   have e7 := N7.p; have z7 := N7.size
   have l22 := SlR.of_new (sz := 4) (l := 1) N7 rfl
   have l22o := Ow.of_new (sz := 4) (l := 1) N7 rfl (by decide)
   have RD_7 := (Ch.refl (Is p2) w4).and c7
   refine ⟨RD_7, ?_⟩
   refine Ct (fun w' hS => Qd rfl) rfl rfl rfl rfl ?_
   have b3_7 := b3_4.keep c7
   refine VT.wk0 (Cf ς305 rfl rfl rfl rfl b3_7 (Nat.le_of_ble_eq_true rfl)) rfl rfl rfl ?_
   intro _ w8 Z8
   have c8 := Z8.ch; have z8 := Z8.size
   have b3_8 := Bk.put Z8
   have RD_8 : Ch (Is p2) w4 w8 := RD_7.then c8
   refine ⟨RD_8, ?_⟩
   refine Rj (Om (Qd rfl) rfl (Qf (Qx (Qa (Qp (Cd (Qu ?_)))))))
   refine Wa rfl rfl rfl ι305 ς305 rfl (b3_8.all' rfl) rfl (Ret.mk ?_)
   have cc_0_8 : Ch No w w8 := (Ch.then (E := No) (((Ch.then (E := No) (c1.and c2) c3 (by intro q h1 h2; rcases h2 with h2 | h2 <;> first | exact h2 | (exfalso; omega))).and c4).and c7) c8 (by intro q h1 h2; rcases h2 with h2 | h2 <;> first | exact h2 | (exfalso; omega)))
   have CH_8 := (Ch.refl (No) w).and cc_0_8
   have zz := CH_8.size
   have l22_8 := l22.to c8
   exact ⟨_, rfl, l22_8, by omega, CH_8⟩
 ·
  exact absurd rfl hc1
theorem touched2 (d sr ju co nn kk : Int) (w : World) :
  Calls Tryz.prog 294 #[.agg #[.int .i64 2, .int .i64 d, .int .i64 sr, .int .i64 ju, .int .i64 co, .int .i64 nn, .int .i64 kk]] w (Ret (fun v w' => ∃ q, v = .tuple #[.slice (some ⟨q, 0, none⟩) 1 1, .agg #[.int .i64 d, .int .i64 ju, .int .i64 co], .bool false] ∧ SlR (Is q) w' (some ⟨q, 0, none⟩) 1 4 [.int .i64 sr, .int .i64 1, .int .i64 co, .bool false] ∧ w.heap.size ≤ q ∧ Ch No w w')) := by
 refine calls_of_VC (args := [.agg #[.int .i64 2, .int .i64 d, .int .i64 sr, .int .i64 ju, .int .i64 co, .int .i64 nn, .int .i64 kk]]) Tryz.func294 rfl Tryz.ntmps294 rfl (Qe (Qb (Oq (Cj rfl) rfl ?_)))
 rintro _ w1 ⟨p1, rfl, N1⟩
 have c1 := N1.ch
 have e1 := N1.p; have z1 := N1.size
 have b1 := Bk.new N1
 refine Om (Qd rfl) rfl (Oq (Cc ζ305) rfl ?_)
 rintro _ w2 ⟨p2, rfl, N2⟩
 have c2 := N2.ch
 have e2 := N2.p; have z2 := N2.size
 have b3 := Bk.new N2
 refine Om (Qd rfl) rfl (Qf (Qa (Qe (Qb (Om (Qg υ135 rfl ς3 rfl rfl rfl) rfl ?_)))))
 have b1_2 := b1.keep c2
 refine Om (Qh ι3 rfl (b1_2.cell rfl)) rfl (Om (Qg υ135 rfl ς3 rfl rfl rfl) rfl (Om (Qh ι3 rfl (b1_2.cell rfl)) rfl (Om (Cl rfl (bld305_0_1_2w85 rfl)) rfl (Oz (Cf ς305 rfl rfl rfl rfl b3 (Nat.le_of_ble_eq_true rfl)) rfl ?_))))
 intro _ w3 Z3
 have c3 := Z3.ch; have z3 := Z3.size
 have b3_3 := Bk.put Z3
 refine Qf (Qa (Qe (Qe (Qb (Om (Qg υ135 rfl ς3 rfl rfl rfl) rfl ?_)))))
 have b1_3 := b1_2.to c3
 refine Om (Qh ι3 rfl (b1_3.cell rfl)) rfl (Qf (Qa (Qw (Qe (Qb (Om (Cm rfl rfl) rfl (Om (Qd rfl) rfl ?_)))))))
 refine Qf (Qa (Qj rfl (fun hc1 => ?_) (fun hc1 => ?_)))
 ·
  omega
 ·
  refine Qe (Qb (Om (Cm rfl rfl) rfl (Om (Qd rfl) rfl (Qf (Qa (Qj rfl (fun hc2 => ?_) (fun hc2 => ?_)))))))
  ·
   refine Qe (Ci 16 [(0, true), (1, true), (2, true), (3, true), (4, true), (5, true), (7, true), (8, true), (9, true), (10, true), (11, true), (12, true), (13, true), (6, false), (14, true), (15, false)] (fun w1 w' => Ch (Is p2) w1 w') mixed (by kernel_rfl) (fun _ _ => Ch.refl _ _) ?_)
   intro w4 D4
   have c4 := Ch.of_drew D4; have z4 := c4.size
   have b1_4 := b1_3.keep c4
   have b3_4 := b3_3.keep c4
   refine Hm (fun w' hS => Qg υ135 rfl ς3 rfl rfl rfl) rfl (Hm (fun w' hS => Qh ι3 rfl ((b1_4.to hS).cell rfl)) rfl (Hm (fun w' hS => Qg υ135 rfl ς3 rfl rfl rfl) rfl (Hm (fun w' hS => Qh ι3 rfl ((b1_4.to hS).cell rfl)) rfl (Hm (fun w' hS => Cl rfl (bld305_0_1_2w85 rfl)) rfl (Hm (fun w' hS => Cl rfl (bld312_0_1w85 rfl)) rfl (Hm (fun w' hS => Qg υ135 rfl ς3 rfl rfl rfl) rfl (Hm (fun w' hS => Qh ι3 rfl ((b1_4.to hS).cell rfl)) rfl ?_)))))))
   refine Hm (fun w' hS => Qg υ135 rfl ς3 rfl rfl rfl) rfl (Hm (fun w' hS => Qh ι3 rfl ((b1_4.to hS).cell rfl)) rfl (Hm (fun w' hS => Qg υ135 rfl ς3 rfl rfl rfl) rfl (Hm (fun w' hS => Qh ι3 rfl ((b1_4.to hS).cell rfl)) rfl (Hm (fun w' hS => Cl rfl (bld305_0_1_2w85 rfl)) rfl (Hq (Cy υ308 inf312w85 (by decide) rfl rfl (by rfl) (by decide) (by decide) (by rfl)) rfl ?_)))))
   rintro _ w5 ⟨p5, rfl, N5⟩
   have c5 := N5.ch
   have e5 := N5.p; have z5 := N5.size
   have l32 := SlR.of_new (sz := 4) (l := 1) N5 rfl
   have l32o := Ow.of_new (sz := 4) (l := 1) N5 rfl (by decide)
   have RD_5 := (Ch.refl (Is p2) w4).and c5
   refine ⟨RD_5, ?_⟩
   refine Hm (fun w' hS => Qd rfl) rfl ?_
   have b3_5 := b3_4.keep c5
   refine Hz (Cf ς305 rfl rfl rfl rfl b3_5 (Nat.le_of_ble_eq_true rfl)) rfl ?_
   intro _ w6 Z6
   have c6 := Z6.ch; have z6 := Z6.size
   have b3_6 := Bk.put Z6
   have RD_6 : Ch (Is p2) w4 w6 := RD_5.then c6
   refine ⟨RD_6, ?_⟩
   refine Cn (Om (Qd rfl) rfl (Qf (Qx (Qa (Qp (Cd (Qu ?_)))))))
   refine Wa rfl rfl rfl ι305 ς305 rfl (b3_6.all' rfl) rfl (Ret.mk ?_)
   have cc_0_6 : Ch No w w6 := (Ch.then (E := No) (((Ch.then (E := No) (c1.and c2) c3 (by intro q h1 h2; rcases h2 with h2 | h2 <;> first | exact h2 | (exfalso; omega))).and c4).and c5) c6 (by intro q h1 h2; rcases h2 with h2 | h2 <;> first | exact h2 | (exfalso; omega)))
   have CH_6 := (Ch.refl (No) w).and cc_0_6
   have zz := CH_6.size
   have l32_6 := l32.to c6
   exact ⟨_, rfl, l32_6, by omega, CH_6⟩
  ·
   omega
theorem touched6 (d sr ju co nn kk : Int) (w : World) :
  Calls Tryz.prog 294 #[.agg #[.int .i64 6, .int .i64 d, .int .i64 sr, .int .i64 ju, .int .i64 co, .int .i64 nn, .int .i64 kk]] w (Ret (fun v w' => ∃ q, v = .tuple #[.slice (some ⟨q, 0, none⟩) 1 1, .agg #[.int .i64 d, .int .i64 1, .int .i64 co], .bool false] ∧ SlR (Is q) w' (some ⟨q, 0, none⟩) 1 4 [.int .i64 sr, .int .i64 ju, .int .i64 nn, .bool true] ∧ w.heap.size ≤ q ∧ Ch No w w')) := by
 refine calls_of_VC (args := [.agg #[.int .i64 6, .int .i64 d, .int .i64 sr, .int .i64 ju, .int .i64 co, .int .i64 nn, .int .i64 kk]]) Tryz.func294 rfl Tryz.ntmps294 rfl (Qe (Qb (Oq (Cj rfl) rfl ?_)))
 rintro _ w1 ⟨p1, rfl, N1⟩
 have c1 := N1.ch
 have e1 := N1.p; have z1 := N1.size
 have b1 := Bk.new N1
 refine Om (Qd rfl) rfl (Oq (Cc ζ305) rfl ?_)
 rintro _ w2 ⟨p2, rfl, N2⟩
 have c2 := N2.ch
 have e2 := N2.p; have z2 := N2.size
 have b3 := Bk.new N2
 refine Om (Qd rfl) rfl (Qf (Qa (Qe (Qb (Om (Qg υ135 rfl ς3 rfl rfl rfl) rfl ?_)))))
 have b1_2 := b1.keep c2
 refine Om (Qh ι3 rfl (b1_2.cell rfl)) rfl (Om (Qg υ135 rfl ς3 rfl rfl rfl) rfl (Om (Qh ι3 rfl (b1_2.cell rfl)) rfl (Om (Cl rfl (bld305_0_1_2w85 rfl)) rfl (Oz (Cf ς305 rfl rfl rfl rfl b3 (Nat.le_of_ble_eq_true rfl)) rfl ?_))))
 intro _ w3 Z3
 have c3 := Z3.ch; have z3 := Z3.size
 have b3_3 := Bk.put Z3
 refine Qf (Qa (Qe (Qe (Qb (Om (Qg υ135 rfl ς3 rfl rfl rfl) rfl ?_)))))
 have b1_3 := b1_2.to c3
 refine Om (Qh ι3 rfl (b1_3.cell rfl)) rfl (Qf (Qa (Qw (Qe (Qb (Om (Cm rfl rfl) rfl (Om (Qd rfl) rfl ?_)))))))
 refine Qf (Qa (Qj rfl (fun hc1 => ?_) (fun hc1 => ?_)))
 ·
  omega
 ·
  refine Qe (Qb (Om (Cm rfl rfl) rfl (Om (Qd rfl) rfl (Qf (Qa (Qj rfl (fun hc2 => ?_) (fun hc2 => ?_)))))))
  ·
   omega
  ·
   refine Qe (Qe (Qb (Om (Cm rfl rfl) rfl (Om (Qd rfl) rfl (Qf (Qa (Qj rfl (fun hc3 => ?_) (fun hc3 => ?_))))))))
   ·
    omega
   ·
    refine Qb (Om (Cm rfl rfl) rfl (Om (Qd rfl) rfl (Qf (Qa (Qj rfl (fun hc4 => ?_) (fun hc4 => ?_))))))
    ·
     omega
    ·
     refine Qe (Qb (Om (Cm rfl rfl) rfl (Om (Qd rfl) rfl (Qf (Qa (Qj rfl (fun hc5 => ?_) (fun hc5 => ?_)))))))
     ·
      refine Qe (Rz 12 (.mv 0 (.mv 1 (.mv 2 (.mv 3 (.mv 4 (.mv 5 (.mv 6 (.mv 7 (.two 8 (.mv 10 (.wk 9 (.wk 11 .nil))) 9 (.wk 8 (.mv 10 (.wk 11 .nil)))))))))))) (fun w1 w' => Ch (Is p2) w1 w') mixed (by kernel_rfl) (fun _ _ => Ch.refl _ _) ?_)
      intro w4 D4
      have c4 := Ch.of_drew D4; have z4 := c4.size
      have b1_4 := b1_3.keep c4
      have b3_4 := b3_3.keep c4
      refine Ct (fun w' hS => Qg υ135 rfl ς3 rfl rfl rfl) rfl rfl rfl rfl (Ct (fun w' hS => Qh ι3 rfl ((b1_4.to hS).cell rfl)) rfl rfl rfl rfl (Ct (fun w' hS => Qg υ135 rfl ς3 rfl rfl rfl) rfl rfl rfl rfl (Ct (fun w' hS => Qh ι3 rfl ((b1_4.to hS).cell rfl)) rfl rfl rfl rfl (Ct (fun w' hS => Qg υ135 rfl ς3 rfl rfl rfl) rfl rfl rfl rfl (Ct (fun w' hS => Qh ι3 rfl ((b1_4.to hS).cell rfl)) rfl rfl rfl rfl (Ct (fun w' hS => Cl rfl (bld305_0_1_2w85 rfl)) rfl rfl rfl rfl (Ct (fun w' hS => Cl rfl (bld312_0_1w85 rfl)) rfl rfl rfl rfl ?_)))))))
      refine Wg ?_ ?_
      ·
       refine Rg (Cy υ308 inf312w85 (by decide) rfl rfl (by rfl) (by decide) (by decide) (by rfl)) rfl rfl rfl rfl ?_
       rintro _ w5 ⟨p5, rfl, N5⟩
       have c5 := N5.ch
       have e5 := N5.p; have z5 := N5.size
       have l54 := SlR.of_new (sz := 4) (l := 1) N5 rfl
       have l54o := Ow.of_new (sz := 4) (l := 1) N5 rfl (by decide)
       have RD_5 := (Ch.refl (Is p2) w4).and c5
       refine ⟨RD_5, ?_⟩
       refine Ct (fun w' hS => Qd rfl) rfl rfl rfl rfl ?_
       have b3_5 := b3_4.keep c5
       refine Rr (Qr ι305 ς305 rfl rfl (b3_5.all' rfl)) rfl rfl rfl rfl RD_5 (VT.wk0 (Cf ς305 rfl rfl rfl rfl b3_5 (Nat.le_of_ble_eq_true rfl)) rfl rfl rfl ?_)
       intro _ w6 Z6
       have c6 := Z6.ch; have z6 := Z6.size
       have b3_6 := Bk.put Z6
       have RD_6 : Ch (Is p2) w4 w6 := RD_5.then c6
       refine ⟨RD_6, ?_⟩
       refine Rj (Om (Qd rfl) rfl (Qf (Qx (Qa (Qp (Cd (Qu ?_)))))))
       refine Wa rfl rfl rfl ι305 ς305 rfl (b3_6.all' rfl) rfl (Ret.mk ?_)
       have cc_0_6 : Ch No w w6 := (Ch.then (E := No) (((Ch.then (E := No) (c1.and c2) c3 (by intro q h1 h2; rcases h2 with h2 | h2 <;> first | exact h2 | (exfalso; omega))).and c4).and c5) c6 (by intro q h1 h2; rcases h2 with h2 | h2 <;> first | exact h2 | (exfalso; omega)))
       have CH_6 := (Ch.refl (No) w).and cc_0_6
       have zz := CH_6.size
       have l54_6 := l54.to c6
       exact ⟨_, rfl, l54_6, by omega, CH_6⟩
      ·
       refine Rr (Qr ι305 ς305 rfl rfl (b3_4.all' rfl)) rfl rfl rfl rfl (Ch.refl (Is p2) w4) (Rg (Cy υ308 inf312w85 (by decide) rfl rfl (by rfl) (by decide) (by decide) (by rfl)) rfl rfl rfl rfl ?_)
       rintro _ w7 ⟨p7, rfl, N7⟩
       have c7 := N7.ch
       have e7 := N7.p; have z7 := N7.size
       have l54 := SlR.of_new (sz := 4) (l := 1) N7 rfl
       have l54o := Ow.of_new (sz := 4) (l := 1) N7 rfl (by decide)
       have RD_7 := (Ch.refl (Is p2) w4).and c7
       refine ⟨RD_7, ?_⟩
       refine Ct (fun w' hS => Qd rfl) rfl rfl rfl rfl ?_
       have b3_7 := b3_4.keep c7
       refine VT.wk0 (Cf ς305 rfl rfl rfl rfl b3_7 (Nat.le_of_ble_eq_true rfl)) rfl rfl rfl ?_
       intro _ w8 Z8
       have c8 := Z8.ch; have z8 := Z8.size
       have b3_8 := Bk.put Z8
       have RD_8 : Ch (Is p2) w4 w8 := RD_7.then c8
       refine ⟨RD_8, ?_⟩
       refine Rj (Om (Qd rfl) rfl (Qf (Qx (Qa (Qp (Cd (Qu ?_)))))))
       refine Wa rfl rfl rfl ι305 ς305 rfl (b3_8.all' rfl) rfl (Ret.mk ?_)
       have cc_0_8 : Ch No w w8 := (Ch.then (E := No) (((Ch.then (E := No) (c1.and c2) c3 (by intro q h1 h2; rcases h2 with h2 | h2 <;> first | exact h2 | (exfalso; omega))).and c4).and c7) c8 (by intro q h1 h2; rcases h2 with h2 | h2 <;> first | exact h2 | (exfalso; omega)))
       have CH_8 := (Ch.refl (No) w).and cc_0_8
       have zz := CH_8.size
       have l54_8 := l54.to c8
       exact ⟨_, rfl, l54_8, by omega, CH_8⟩
     ·
      omega
theorem touched9 (d sr ju co nn kk : Int) (w : World) :
  Calls Tryz.prog 294 #[.agg #[.int .i64 9, .int .i64 d, .int .i64 sr, .int .i64 ju, .int .i64 co, .int .i64 nn, .int .i64 kk]] w (Ret (fun v w' => ∃ q, v = .tuple #[.slice (some ⟨q, 0, none⟩) 1 1, .agg #[.int .i64 d, .int .i64 1, .int .i64 co], .bool true] ∧ SlR (Is q) w' (some ⟨q, 0, none⟩) 1 4 [.int .i64 sr, .int .i64 1, .int .i64 co, .bool false] ∧ w.heap.size ≤ q ∧ Ch No w w')) := by
 refine calls_of_VC (args := [.agg #[.int .i64 9, .int .i64 d, .int .i64 sr, .int .i64 ju, .int .i64 co, .int .i64 nn, .int .i64 kk]]) Tryz.func294 rfl Tryz.ntmps294 rfl (Qe (Qb (Oq (Cj rfl) rfl ?_)))
 rintro _ w1 ⟨p1, rfl, N1⟩
 have c1 := N1.ch
 have e1 := N1.p; have z1 := N1.size
 have b1 := Bk.new N1
 refine Om (Qd rfl) rfl (Oq (Cc ζ305) rfl ?_)
 rintro _ w2 ⟨p2, rfl, N2⟩
 have c2 := N2.ch
 have e2 := N2.p; have z2 := N2.size
 have b3 := Bk.new N2
 refine Om (Qd rfl) rfl (Qf (Qa (Qe (Qb (Om (Qg υ135 rfl ς3 rfl rfl rfl) rfl ?_)))))
 have b1_2 := b1.keep c2
 refine Om (Qh ι3 rfl (b1_2.cell rfl)) rfl (Om (Qg υ135 rfl ς3 rfl rfl rfl) rfl (Om (Qh ι3 rfl (b1_2.cell rfl)) rfl (Om (Cl rfl (bld305_0_1_2w85 rfl)) rfl (Oz (Cf ς305 rfl rfl rfl rfl b3 (Nat.le_of_ble_eq_true rfl)) rfl ?_))))
 intro _ w3 Z3
 have c3 := Z3.ch; have z3 := Z3.size
 have b3_3 := Bk.put Z3
 refine Qf (Qa (Qe (Qe (Qb (Om (Qg υ135 rfl ς3 rfl rfl rfl) rfl ?_)))))
 have b1_3 := b1_2.to c3
 refine Om (Qh ι3 rfl (b1_3.cell rfl)) rfl (Qf (Qa (Qw (Qe (Qb (Om (Cm rfl rfl) rfl (Om (Qd rfl) rfl ?_)))))))
 refine Qf (Qa (Qj rfl (fun hc1 => ?_) (fun hc1 => ?_)))
 ·
  omega
 ·
  refine Qe (Qb (Om (Cm rfl rfl) rfl (Om (Qd rfl) rfl (Qf (Qa (Qj rfl (fun hc2 => ?_) (fun hc2 => ?_)))))))
  ·
   omega
  ·
   refine Qe (Qe (Qb (Om (Cm rfl rfl) rfl (Om (Qd rfl) rfl (Qf (Qa (Qj rfl (fun hc3 => ?_) (fun hc3 => ?_))))))))
   ·
    omega
   ·
    refine Qb (Om (Cm rfl rfl) rfl (Om (Qd rfl) rfl (Qf (Qa (Qj rfl (fun hc4 => ?_) (fun hc4 => ?_))))))
    ·
     omega
    ·
     refine Qe (Qb (Om (Cm rfl rfl) rfl (Om (Qd rfl) rfl (Qf (Qa (Qj rfl (fun hc5 => ?_) (fun hc5 => ?_)))))))
     ·
      omega
     ·
      refine Qe (Qb (Om (Cm rfl rfl) rfl (Om (Qd rfl) rfl (Qf (Qa (Qj rfl (fun hc6 => ?_) (fun hc6 => ?_)))))))
      ·
       refine Qe (Rz 10 (.mv 0 (.mv 1 (.mv 2 (.mv 3 (.mv 4 (.mv 5 (.two 6 (.mv 8 (.wk 7 (.wk 9 .nil))) 7 (.wk 6 (.mv 8 (.wk 9 .nil)))))))))) (fun w1 w' => Ch (Is p2) w1 w') mixed (by kernel_rfl) (fun _ _ => Ch.refl _ _) ?_)
       intro w4 D4
       have c4 := Ch.of_drew D4; have z4 := c4.size
       have b1_4 := b1_3.keep c4
       have b3_4 := b3_3.keep c4
       refine Ct (fun w' hS => Qg υ135 rfl ς3 rfl rfl rfl) rfl rfl rfl rfl (Ct (fun w' hS => Qh ι3 rfl ((b1_4.to hS).cell rfl)) rfl rfl rfl rfl (Ct (fun w' hS => Qg υ135 rfl ς3 rfl rfl rfl) rfl rfl rfl rfl (Ct (fun w' hS => Qh ι3 rfl ((b1_4.to hS).cell rfl)) rfl rfl rfl rfl (Ct (fun w' hS => Cl rfl (bld305_0_1_2w85 rfl)) rfl rfl rfl rfl (Ct (fun w' hS => Cl rfl (bld312_0_1w85 rfl)) rfl rfl rfl rfl (Wg ?_ ?_))))))
       ·
        refine Rg (Cy υ308 inf312w85 (by decide) rfl rfl (by rfl) (by decide) (by decide) (by rfl)) rfl rfl rfl rfl ?_
        rintro _ w5 ⟨p5, rfl, N5⟩
        have c5 := N5.ch
        have e5 := N5.p; have z5 := N5.size
        have l64 := SlR.of_new (sz := 4) (l := 1) N5 rfl
        have l64o := Ow.of_new (sz := 4) (l := 1) N5 rfl (by decide)
        have RD_5 := (Ch.refl (Is p2) w4).and c5
        refine ⟨RD_5, ?_⟩
        refine Ct (fun w' hS => Qd rfl) rfl rfl rfl rfl ?_
        have b3_5 := b3_4.keep c5
        refine Rr (Qr ι305 ς305 rfl rfl (b3_5.all' rfl)) rfl rfl rfl rfl RD_5 (VT.wk0 (Cf ς305 rfl rfl rfl rfl b3_5 (Nat.le_of_ble_eq_true rfl)) rfl rfl rfl ?_)
        intro _ w6 Z6
        have c6 := Z6.ch; have z6 := Z6.size
        have b3_6 := Bk.put Z6
        have RD_6 : Ch (Is p2) w4 w6 := RD_5.then c6
        refine ⟨RD_6, ?_⟩
        refine Rj (Om (Qd rfl) rfl (Qf (Qx (Qa (Qp (Cd (Qu ?_)))))))
        refine Wa rfl rfl rfl ι305 ς305 rfl (b3_6.all' rfl) rfl (Ret.mk ?_)
        have cc_0_6 : Ch No w w6 := (Ch.then (E := No) (((Ch.then (E := No) (c1.and c2) c3 (by intro q h1 h2; rcases h2 with h2 | h2 <;> first | exact h2 | (exfalso; omega))).and c4).and c5) c6 (by intro q h1 h2; rcases h2 with h2 | h2 <;> first | exact h2 | (exfalso; omega)))
        have CH_6 := (Ch.refl (No) w).and cc_0_6
        have zz := CH_6.size
        have l64_6 := l64.to c6
        exact ⟨_, rfl, l64_6, by omega, CH_6⟩
       ·
        refine Rr (Qr ι305 ς305 rfl rfl (b3_4.all' rfl)) rfl rfl rfl rfl (Ch.refl (Is p2) w4) (Rg (Cy υ308 inf312w85 (by decide) rfl rfl (by rfl) (by decide) (by decide) (by rfl)) rfl rfl rfl rfl ?_)
        rintro _ w7 ⟨p7, rfl, N7⟩
        have c7 := N7.ch
        have e7 := N7.p; have z7 := N7.size
        have l64 := SlR.of_new (sz := 4) (l := 1) N7 rfl
        have l64o := Ow.of_new (sz := 4) (l := 1) N7 rfl (by decide)
        have RD_7 := (Ch.refl (Is p2) w4).and c7
        refine ⟨RD_7, ?_⟩
        refine Ct (fun w' hS => Qd rfl) rfl rfl rfl rfl ?_
        have b3_7 := b3_4.keep c7
        refine VT.wk0 (Cf ς305 rfl rfl rfl rfl b3_7 (Nat.le_of_ble_eq_true rfl)) rfl rfl rfl ?_
        intro _ w8 Z8
        have c8 := Z8.ch; have z8 := Z8.size
        have b3_8 := Bk.put Z8
        have RD_8 : Ch (Is p2) w4 w8 := RD_7.then c8
        refine ⟨RD_8, ?_⟩
        refine Rj (Om (Qd rfl) rfl (Qf (Qx (Qa (Qp (Cd (Qu ?_)))))))
        refine Wa rfl rfl rfl ι305 ς305 rfl (b3_8.all' rfl) rfl (Ret.mk ?_)
        have cc_0_8 : Ch No w w8 := (Ch.then (E := No) (((Ch.then (E := No) (c1.and c2) c3 (by intro q h1 h2; rcases h2 with h2 | h2 <;> first | exact h2 | (exfalso; omega))).and c4).and c7) c8 (by intro q h1 h2; rcases h2 with h2 | h2 <;> first | exact h2 | (exfalso; omega)))
        have CH_8 := (Ch.refl (No) w).and cc_0_8
        have zz := CH_8.size
        have l64_8 := l64.to c8
        exact ⟨_, rfl, l64_8, by omega, CH_8⟩
      ·
       omega
theorem touched3 (op d sr ju co nn kk : Int) (ho : op = 3) (w : World) :
  Calls Tryz.prog 294 #[.agg #[.int .i64 op, .int .i64 d, .int .i64 sr, .int .i64 ju, .int .i64 co, .int .i64 nn, .int .i64 kk]] w (Ret (fun v w' => v = .tuple #[.slice none 0 0, .agg #[.int .i64 d, .int .i64 1, .int .i64 co], .bool false] ∧ Ch No w w')) := by
 refine calls_of_VC (args := [.agg #[.int .i64 op, .int .i64 d, .int .i64 sr, .int .i64 ju, .int .i64 co, .int .i64 nn, .int .i64 kk]]) Tryz.func294 rfl Tryz.ntmps294 rfl (Qe (Qb (Oq (Cj rfl) rfl ?_)))
 rintro _ w1 ⟨p1, rfl, N1⟩
 have c1 := N1.ch
 have e1 := N1.p; have z1 := N1.size
 have b1 := Bk.new N1
 refine Om (Qd rfl) rfl (Oq (Cc ζ305) rfl ?_)
 rintro _ w2 ⟨p2, rfl, N2⟩
 have c2 := N2.ch
 have e2 := N2.p; have z2 := N2.size
 have b3 := Bk.new N2
 refine Om (Qd rfl) rfl (Qf (Qa (Qe (Qb (Om (Qg υ135 rfl ς3 rfl rfl rfl) rfl ?_)))))
 have b1_2 := b1.keep c2
 refine Om (Qh ι3 rfl (b1_2.cell rfl)) rfl (Om (Qg υ135 rfl ς3 rfl rfl rfl) rfl (Om (Qh ι3 rfl (b1_2.cell rfl)) rfl (Om (Cl rfl (bld305_0_1_2w85 rfl)) rfl (Oz (Cf ς305 rfl rfl rfl rfl b3 (Nat.le_of_ble_eq_true rfl)) rfl ?_))))
 intro _ w3 Z3
 have c3 := Z3.ch; have z3 := Z3.size
 have b3_3 := Bk.put Z3
 refine Qf (Qa (Qe (Qe (Qb (Om (Qg υ135 rfl ς3 rfl rfl rfl) rfl ?_)))))
 have b1_3 := b1_2.to c3
 refine Om (Qh ι3 rfl (b1_3.cell rfl)) rfl (Qf (Qa (Qw (Qe (Qb (Om (Cm rfl rfl) rfl (Om (Qd rfl) rfl ?_)))))))
 refine Qf (Qa (Qj rfl (fun hc1 => ?_) (fun hc1 => ?_)))
 ·
  omega
 ·
  refine Qe (Qb (Om (Cm rfl rfl) rfl (Om (Qd rfl) rfl (Qf (Qa (Qj rfl (fun hc2 => ?_) (fun hc2 => ?_)))))))
  ·
   omega
  ·
   refine Qe (Qe (Qb (Om (Cm rfl rfl) rfl (Om (Qd rfl) rfl (Qf (Qa (Qj rfl (fun hc3 => ?_) (fun hc3 => ?_))))))))
   ·
    refine Qn (Qa (Qj rfl (fun hc4 => ?_) (fun hc4 => ?_)))
    ·
     refine Qe (Ci 3 [(1, true), (0, false), (2, false)] (fun w1 w' => Ch (Is p2) w1 w') mixed (by kernel_rfl) (fun _ _ => Ch.refl _ _) ?_)
     intro w4 D4
     have c4 := Ch.of_drew D4; have z4 := c4.size
     refine Hm (fun w' hS => Qd rfl) rfl ?_
     have b3_4 := b3_3.keep c4
     refine VH.late (Qr ι305 ς305 rfl rfl (b3_4.all' rfl)) rfl rfl rfl rfl (Ch.refl (Is p2) w4) (Hz (Cf ς305 rfl rfl rfl rfl b3_4 (Nat.le_of_ble_eq_true rfl)) rfl ?_)
     intro _ w5 Z5
     have c5 := Z5.ch; have z5 := Z5.size
     have b3_5 := Bk.put Z5
     have RD_5 : Ch (Is p2) w4 w5 := (Ch.refl (Is p2) w4).then c5
     refine ⟨RD_5, ?_⟩
     refine Cn (Om (Qd rfl) rfl (Qf (Qx (Qa (Qp (Cd (Qu ?_)))))))
     refine Wa rfl rfl rfl ι305 ς305 rfl (b3_5.all' rfl) rfl (Ret.mk ?_)
     have cc_0_5 : Ch No w w5 := (Ch.then (E := No) ((Ch.then (E := No) (c1.and c2) c3 (by intro q h1 h2; rcases h2 with h2 | h2 <;> first | exact h2 | (exfalso; omega))).and c4) c5 (by intro q h1 h2; rcases h2 with h2 | h2 <;> first | exact h2 | (exfalso; omega)))
     have CH_5 := (Ch.refl (No) w).and cc_0_5
     exact ⟨rfl, CH_5⟩
    ·
     omega
   ·
    omega
theorem touched8 (op d sr ju co nn kk : Int) (ho : op = 8) (w : World) :
  Calls Tryz.prog 294 #[.agg #[.int .i64 op, .int .i64 d, .int .i64 sr, .int .i64 ju, .int .i64 co, .int .i64 nn, .int .i64 kk]] w (Ret (fun v w' => v = .tuple #[.slice none 0 0, .agg #[.int .i64 d, .int .i64 1, .int .i64 co], .bool false] ∧ Ch No w w')) := by
 refine calls_of_VC (args := [.agg #[.int .i64 op, .int .i64 d, .int .i64 sr, .int .i64 ju, .int .i64 co, .int .i64 nn, .int .i64 kk]]) Tryz.func294 rfl Tryz.ntmps294 rfl (Qe (Qb (Oq (Cj rfl) rfl ?_)))
 rintro _ w1 ⟨p1, rfl, N1⟩
 have c1 := N1.ch
 have e1 := N1.p; have z1 := N1.size
 have b1 := Bk.new N1
 refine Om (Qd rfl) rfl (Oq (Cc ζ305) rfl ?_)
 rintro _ w2 ⟨p2, rfl, N2⟩
 have c2 := N2.ch
 have e2 := N2.p; have z2 := N2.size
 have b3 := Bk.new N2
 refine Om (Qd rfl) rfl (Qf (Qa (Qe (Qb (Om (Qg υ135 rfl ς3 rfl rfl rfl) rfl ?_)))))
 have b1_2 := b1.keep c2
 refine Om (Qh ι3 rfl (b1_2.cell rfl)) rfl (Om (Qg υ135 rfl ς3 rfl rfl rfl) rfl (Om (Qh ι3 rfl (b1_2.cell rfl)) rfl (Om (Cl rfl (bld305_0_1_2w85 rfl)) rfl (Oz (Cf ς305 rfl rfl rfl rfl b3 (Nat.le_of_ble_eq_true rfl)) rfl ?_))))
 intro _ w3 Z3
 have c3 := Z3.ch; have z3 := Z3.size
 have b3_3 := Bk.put Z3
 refine Qf (Qa (Qe (Qe (Qb (Om (Qg υ135 rfl ς3 rfl rfl rfl) rfl ?_)))))
 have b1_3 := b1_2.to c3
 refine Om (Qh ι3 rfl (b1_3.cell rfl)) rfl (Qf (Qa (Qw (Qe (Qb (Om (Cm rfl rfl) rfl (Om (Qd rfl) rfl ?_)))))))
 refine Qf (Qa (Qj rfl (fun hc1 => ?_) (fun hc1 => ?_)))
 ·
  omega
 ·
  refine Qe (Qb (Om (Cm rfl rfl) rfl (Om (Qd rfl) rfl (Qf (Qa (Qj rfl (fun hc2 => ?_) (fun hc2 => ?_)))))))
  ·
   omega
  ·
   refine Qe (Qe (Qb (Om (Cm rfl rfl) rfl (Om (Qd rfl) rfl (Qf (Qa (Qj rfl (fun hc3 => ?_) (fun hc3 => ?_))))))))
   ·
    omega
   ·
    refine Qb (Om (Cm rfl rfl) rfl (Om (Qd rfl) rfl (Qf (Qa (Qj rfl (fun hc4 => ?_) (fun hc4 => ?_))))))
    ·
     refine Qe (Ci 3 [(1, true), (0, false), (2, false)] (fun w1 w' => Ch (Is p2) w1 w') mixed (by kernel_rfl) (fun _ _ => Ch.refl _ _) ?_)
     intro w4 D4
     have c4 := Ch.of_drew D4; have z4 := c4.size
     refine Hm (fun w' hS => Qd rfl) rfl ?_
     have b3_4 := b3_3.keep c4
     refine VH.late (Qr ι305 ς305 rfl rfl (b3_4.all' rfl)) rfl rfl rfl rfl (Ch.refl (Is p2) w4) (Hz (Cf ς305 rfl rfl rfl rfl b3_4 (Nat.le_of_ble_eq_true rfl)) rfl ?_)
     intro _ w5 Z5
     have c5 := Z5.ch; have z5 := Z5.size
     have b3_5 := Bk.put Z5
     have RD_5 : Ch (Is p2) w4 w5 := (Ch.refl (Is p2) w4).then c5
     refine ⟨RD_5, ?_⟩
     refine Cn (Om (Qd rfl) rfl (Qf (Qx (Qa (Qp (Cd (Qu ?_)))))))
     refine Wa rfl rfl rfl ι305 ς305 rfl (b3_5.all' rfl) rfl (Ret.mk ?_)
     have cc_0_5 : Ch No w w5 := (Ch.then (E := No) ((Ch.then (E := No) (c1.and c2) c3 (by intro q h1 h2; rcases h2 with h2 | h2 <;> first | exact h2 | (exfalso; omega))).and c4) c5 (by intro q h1 h2; rcases h2 with h2 | h2 <;> first | exact h2 | (exfalso; omega)))
     have CH_5 := (Ch.refl (No) w).and cc_0_5
     exact ⟨rfl, CH_5⟩
    ·
     omega
theorem touchedO (op d sr ju co nn kk : Int) (ho : op = 4 ∨ op = 7 ∨ 10 ≤ op) (w : World) :
  Calls Tryz.prog 294 #[.agg #[.int .i64 op, .int .i64 d, .int .i64 sr, .int .i64 ju, .int .i64 co, .int .i64 nn, .int .i64 kk]] w (Ret (fun v w' => v = .tuple #[.slice none 0 0, .agg #[.int .i64 d, .int .i64 1, .int .i64 co], .bool true] ∧ Ch No w w')) := by
 refine calls_of_VC (args := [.agg #[.int .i64 op, .int .i64 d, .int .i64 sr, .int .i64 ju, .int .i64 co, .int .i64 nn, .int .i64 kk]]) Tryz.func294 rfl Tryz.ntmps294 rfl (Qe (Qb (Oq (Cj rfl) rfl ?_)))
 rintro _ w1 ⟨p1, rfl, N1⟩
 have c1 := N1.ch
 have e1 := N1.p; have z1 := N1.size
 have b1 := Bk.new N1
 refine Om (Qd rfl) rfl (Oq (Cc ζ305) rfl ?_)
 rintro _ w2 ⟨p2, rfl, N2⟩
 have c2 := N2.ch
 have e2 := N2.p; have z2 := N2.size
 have b3 := Bk.new N2
 refine Om (Qd rfl) rfl (Qf (Qa (Qe (Qb (Om (Qg υ135 rfl ς3 rfl rfl rfl) rfl ?_)))))
 have b1_2 := b1.keep c2
 refine Om (Qh ι3 rfl (b1_2.cell rfl)) rfl (Om (Qg υ135 rfl ς3 rfl rfl rfl) rfl (Om (Qh ι3 rfl (b1_2.cell rfl)) rfl (Om (Cl rfl (bld305_0_1_2w85 rfl)) rfl (Oz (Cf ς305 rfl rfl rfl rfl b3 (Nat.le_of_ble_eq_true rfl)) rfl ?_))))
 intro _ w3 Z3
 have c3 := Z3.ch; have z3 := Z3.size
 have b3_3 := Bk.put Z3
 refine Qf (Qa (Qe (Qe (Qb (Om (Qg υ135 rfl ς3 rfl rfl rfl) rfl ?_)))))
 have b1_3 := b1_2.to c3
 refine Om (Qh ι3 rfl (b1_3.cell rfl)) rfl (Qf (Qa (Qw (Qe (Qb (Om (Cm rfl rfl) rfl (Om (Qd rfl) rfl ?_)))))))
 refine Qf (Qa (Qj rfl (fun hc1 => ?_) (fun hc1 => ?_)))
 ·
  omega
 ·
  refine Qe (Qb (Om (Cm rfl rfl) rfl (Om (Qd rfl) rfl (Qf (Qa (Qj rfl (fun hc2 => ?_) (fun hc2 => ?_)))))))
  ·
   omega
  ·
   refine Qe (Qe (Qb (Om (Cm rfl rfl) rfl (Om (Qd rfl) rfl (Qf (Qa (Qj rfl (fun hc3 => ?_) (fun hc3 => ?_))))))))
   ·
    omega
   ·
    refine Qb (Om (Cm rfl rfl) rfl (Om (Qd rfl) rfl (Qf (Qa (Qj rfl (fun hc4 => ?_) (fun hc4 => ?_))))))
    ·
     omega
    ·
     refine Qe (Qb (Om (Cm rfl rfl) rfl (Om (Qd rfl) rfl (Qf (Qa (Qj rfl (fun hc5 => ?_) (fun hc5 => ?_)))))))
     ·
      omega
     ·
      refine Qe (Qb (Om (Cm rfl rfl) rfl (Om (Qd rfl) rfl (Qf (Qa (Qj rfl (fun hc6 => ?_) (fun hc6 => ?_)))))))
      ·
       omega
      ·
       refine Qn (Qo (Qa (Qe (Ci 3 [(1, true), (0, false), (2, false)] (fun w1 w' => Ch (Is p2) w1 w') mixed (by kernel_rfl) (fun _ _ => Ch.refl _ _) ?_))))
       intro w4 D4
       have c4 := Ch.of_drew D4; have z4 := c4.size
       refine Hm (fun w' hS => Qd rfl) rfl ?_
       have b3_4 := b3_3.keep c4
       refine VH.late (Qr ι305 ς305 rfl rfl (b3_4.all' rfl)) rfl rfl rfl rfl (Ch.refl (Is p2) w4) (Hz (Cf ς305 rfl rfl rfl rfl b3_4 (Nat.le_of_ble_eq_true rfl)) rfl ?_)
       intro _ w5 Z5
       have c5 := Z5.ch; have z5 := Z5.size
       have b3_5 := Bk.put Z5
       have RD_5 : Ch (Is p2) w4 w5 := (Ch.refl (Is p2) w4).then c5
       refine ⟨RD_5, ?_⟩
       refine Cn (Om (Qd rfl) rfl (Qf (Qx (Qa (Qp (Wa rfl rfl rfl ι305 ς305 rfl (b3_5.all' rfl) rfl (Ret.mk ?_)))))))
       have cc_0_5 : Ch No w w5 := (Ch.then (E := No) ((Ch.then (E := No) (c1.and c2) c3 (by intro q h1 h2; rcases h2 with h2 | h2 <;> first | exact h2 | (exfalso; omega))).and c4) c5 (by intro q h1 h2; rcases h2 with h2 | h2 <;> first | exact h2 | (exfalso; omega)))
       have CH_5 := (Ch.refl (No) w).and cc_0_5
       exact ⟨rfl, CH_5⟩
theorem good_R (n : Int) (w : World) (st : StT w) (op d sr ju co nn kk : Int) (hf : formM ⟨op, d, sr, ju, co, nn, kk⟩ = true) (h5 : ¬ op = 5) (wa wj wc : Int) (own : Bool) (hw : 0 ≤ wa ∧ 1 ≤ wc ∧ wc ≤ 1000000 ∧ 0 ≤ wj ∧ wj ≤ 1000000) (hw2 : wa + (wc - 1) * wj < n) (hn : n ≤ 1000000) (hG : 24 ≤ w.heap.size) (ra rj rc : Int) (ev : Bool) (hr : 0 ≤ ra ∧ 1 ≤ rc ∧ rc ≤ 1000000 ∧ 0 ≤ rj ∧ rj ≤ 1000000) (hr2 : ra + (rc - 1) * rj < n) (hnot : ∀ j : Nat, (j : Int) < rc → (ra + (j : Int) * rj < wa ∨ wa + (wc - 1) * wj < ra + (j : Int) * rj)) (ht : ∀ w, Calls Tryz.prog 294 #[.agg #[.int .i64 op, .int .i64 d, .int .i64 sr, .int .i64 ju, .int .i64 co, .int .i64 nn, .int .i64 kk]] w (Ret (fun v w' => ∃ q, v = .tuple #[.slice (some ⟨q, 0, none⟩) 1 1, .agg #[.int .i64 wa, .int .i64 wj, .int .i64 wc], .bool own] ∧ SlR (Is q) w' (some ⟨q, 0, none⟩) 1 4 [.int .i64 ra, .int .i64 rj, .int .i64 rc, .bool ev] ∧ w.heap.size ≤ q ∧ Ch No w w'))) :
  Calls Tryz.prog 276 #[.agg #[.int .i64 op, .int .i64 d, .int .i64 sr, .int .i64 ju, .int .i64 co, .int .i64 nn, .int .i64 kk], .int .i64 n] w (Ret (fun v w' => v = .bool true ∧ Ch No w w')) := by
 have hnb := form_n hf
 have hp : 0 ≤ (wc - 1) * wj := Int.mul_nonneg (by omega) (by omega)
 have hpr : 0 ≤ (rc - 1) * rj := Int.mul_nonneg (by omega) (by omega)
 have hJ : ∀ j : Nat, (j : Int) < rc → 0 ≤ (j : Int) * rj ∧ (j : Int) * rj ≤ (rc - 1) * rj := fun j h => ⟨Int.mul_nonneg (by omega) (by omega), Int.mul_le_mul_of_nonneg_right (by omega) (by omega)⟩
 refine calls_of_VC (args := [.agg #[.int .i64 op, .int .i64 d, .int .i64 sr, .int .i64 ju, .int .i64 co, .int .i64 nn, .int .i64 kk], .int .i64 n]) Tryz.func276 rfl Tryz.ntmps276 rfl (Qe (Qb (Oq (Cj rfl) rfl ?_)))
 rintro _ w1 ⟨p1, rfl, N1⟩
 have c1 := N1.ch
 have e1 := N1.p; have z1 := N1.size
 have b2 := Bk.new N1
 refine Om (Qd rfl) rfl (Qf (Qa (Qe (Qe (Qb (Om (Qr ι135 ς135 rfl rfl (b2.all' rfl)) rfl ?_))))))
 have st_1 := st.keep c1
 refine Oq (Qi Tryz.call291 rfl (steps_Form ⟨op, d, sr, ju, co, nn, kk⟩ _ st_1 hf (by omega))) rfl ?_
 rintro _ w2 ⟨rfl, c2⟩
 have z2 := c2.size
 refine Om (Cg υ28 rfl) rfl (Qf (Qa (Ca rfl (Qn (Qa (Qe (Qe ?_)))))))
 refine Qb (Om (Qg υ135 rfl ς3 rfl rfl rfl) rfl ?_)
 have b2_2 := b2.keep c2
 refine Om (Qh ι3 rfl (b2_2.cell rfl)) rfl (Om (Rn.eqlF rfl rfl h5) rfl (Qf (Qa (Ca rfl (Qn (Qa (Qe ?_)))))))
 refine Qb (Om (Qr ι135 ς135 rfl rfl (b2_2.all' rfl)) rfl (Oq (Qi Tryz.call294 rfl (ht _)) rfl ?_))
 rintro _ w3 ⟨q3, rfl, rd3, eq3, c3⟩
 have z3 := c3.size
 refine Om (Qc rfl) rfl (Om (Qq rfl rfl) rfl (Om (Qq rfl rfl) rfl (Om (Qq rfl rfl) rfl (Oq (Cc ζ305) rfl ?_))))
 rintro _ w4 ⟨p4, rfl, N4⟩
 have c4 := N4.ch
 have e4 := N4.p; have z4 := N4.size
 have b6 := Bk.new N4
 refine Om (Qd rfl) rfl (Oz (Cf ς305 rfl rfl rfl rfl b6 (Nat.le_of_ble_eq_true rfl)) rfl ?_)
 intro _ w5 Z5
 have c5 := Z5.ch; have z5 := Z5.size
 have b6_5 := Bk.put Z5
 refine Om (Qd rfl) rfl (Qf (Qa (Qe (Qe (Qb (Om (Qr ι305 ς305 rfl rfl (b6_5.all' rfl)) rfl (Oq (Qi κ293 rfl (cel_last _ _ _ (by omega) _)) rfl ?_)))))))
 rintro _ w6 ⟨rfl, c6⟩
 have z6 := c6.size
 refine Om (Qc rfl) rfl (Om (Rn.geqF rfl rfl (by omega)) rfl (Qf (Qa (Ca rfl (Qn (Qa (Qe ?_)))))))
 refine Qe (Qb (Om (Qc rfl) rfl (Om (Ra υ308 rfl) rfl (Om (Qc rfl) rfl (Qf (Qa (Qw ?_)))))))
 have cc_2_6 : Ch No w2 w6 := ((Ch.then (E := No) (c3.and c4) c5 (by intro q h1 h2; rcases h2 with h2 | h2 <;> first | exact h2 | (exfalso; omega))).and c6)
 have b2_6 := b2_2.keep cc_2_6
 have b6_6 := b6_5.keep c6
 have cc_3_6 : Ch No w3 w6 := ((Ch.then (E := No) c4 c5 (by intro q h1 h2; rcases h2 with h2 | h2 <;> first | exact h2 | (exfalso; omega))).and c6)
 have rd_6 := rd3.keep cc_3_6
 have cc_0_6 : Ch No w w6 := ((Ch.then (E := No) (((c1.and c2).and c3).and c4) c5 (by intro q h1 h2; rcases h2 with h2 | h2 <;> first | exact h2 | (exfalso; omega))).and c6)
 have CH_6 := (Ch.refl (No) w).and cc_0_6
 refine Cp (σ := Nat) (fun i => [(1, .int .i64 n), (2, .pointer (some ⟨p1, 0, none⟩)), (6, .pointer (some ⟨p4, 0, none⟩)), (38, .slice (some ⟨q3, 0, none⟩) 1 1), (39, .int .i64 1), (40, .int .i64 i)]) (fun i w' => i ≤ 1 ∧ w6.heap.size ≤ w'.heap.size ∧ Bk w' p1 #[.int .i64 op, .int .i64 d, .int .i64 sr, .int .i64 ju, .int .i64 co, .int .i64 nn, .int .i64 kk] 135 ∧ Bk w' p4 #[.int .i64 wa, .int .i64 wj, .int .i64 wc] 305 ∧ SlR (Is q3) w' (some ⟨q3, 0, none⟩) 1 4 [.int .i64 ra, .int .i64 rj, .int .i64 rc, .bool ev] ∧ Ch (No) w w') (fun i => 1 - i) 0 ?_ ⟨rfl, rfl, rfl, rfl, rfl, rfl, trivial⟩ ?_
 · exact ⟨(by omega), (Nat.le_refl _), b2_6, b6_6, rd_6, CH_6⟩
 rintro i w7 ⟨hi, hsz7, b2_7, b6_7, rd_7, CH_7⟩
 show VC _ _ _ _ [(1, .int .i64 n), (2, .pointer (some ⟨p1, 0, none⟩)), (6, .pointer (some ⟨p4, 0, none⟩)), (38, .slice (some ⟨q3, 0, none⟩) 1 1), (39, .int .i64 1), (40, .int .i64 i)] _
 refine Qe (Qb (Om (Cs rfl rfl) rfl (Qf (Qa (Qe (Qj rfl (fun hc1 => ?_) (fun hc1 => ?_)))))))
 ·
  refine Qn (Qa (Qe (Qw (Qe ?_))))
  obtain rfl : i = 0 := by omega
  have rdc : CaR (Is q3) w7 ((sAddr (some ⟨q3, 0, none⟩)).add (0 * 4)) [.int .i64 ra, .int .i64 rj, .int .i64 rc, .bool ev] := ⟨rd_7.part (i := 0) (by omega) (fun j v h => by simpa using h), rfl⟩
  refine Qb (Om (Cb υ308 Tryz.sizeOf312 rfl rfl (rd_7.ne (by omega)) (by omega) (by omega)) rfl (Om (Qr Tryz.isAgg312 Tryz.sizeOf312 rfl rfl rdc.1) rfl (Oq (Cc Tryz.zeroValue312) rfl ?_)))
  rintro _ w8 ⟨p8, rfl, N8⟩
  have c8 := N8.ch
  have e8 := N8.p; have z8 := N8.size
  have b9 := Bk.new N8
  refine Oz (Cf Tryz.sizeOf312 rfl rfl rfl rfl b9 (Nat.le_of_ble_eq_true rfl)) rfl ?_
  intro _ w9 Z9
  have c9 := Z9.ch; have z9 := Z9.size
  have b9_9 := Bk.put Z9
  refine Qf (Qa (Qe (Qe (Qb (Om (Qg υ312 rfl ς305 rfl rfl rfl) rfl (Om (Qr ι305 ς305 rfl rfl (b9_9.part 3 rfl)) rfl (Oq (Qi κ293 rfl (cel_last _ _ _ (by omega) _)) rfl ?_)))))))
  rintro _ w10 ⟨rfl, c10⟩
  have z10 := c10.size
  refine Om (Qc rfl) rfl (Om (Rn.geqF rfl rfl (by omega)) rfl (Qf (Qa (Ca rfl (Qn (Qa (Qe ?_)))))))
  refine Qb (Om (Qg υ312 rfl ς305 rfl rfl rfl) rfl (Om (Qg υ305 rfl ς3 rfl rfl rfl) rfl ?_))
  have b9_10 := b9_9.keep c10
  refine Om (Qh ι3 rfl (b9_10.cell rfl)) rfl (Om (Qc rfl) rfl (Qf (Qa (Qw ?_))))
  have cc_7_10 : Ch No w7 w10 := ((Ch.then (E := No) c8 c9 (by intro q h1 h2; rcases h2 with h2 | h2 <;> first | exact h2 | (exfalso; omega))).and c10)
  have b2_10 := b2_7.keep cc_7_10
  have b6_10 := b6_7.keep cc_7_10
  have rd_10 := rd_7.keep cc_7_10
  have CH_10 := CH_7.and cc_7_10
  refine Cp (σ := Nat) (fun j => [(1, .int .i64 n), (2, .pointer (some ⟨p1, 0, none⟩)), (6, .pointer (some ⟨p4, 0, none⟩)), (9, .pointer (some ⟨p8, 0, none⟩)), (38, .slice (some ⟨q3, 0, none⟩) 1 1), (39, .int .i64 1), (40, .int .i64 0), (51, .int .i64 rc), (52, .int .i64 j)]) (fun j w' => (j : Int) ≤ rc ∧ w10.heap.size ≤ w'.heap.size ∧ Bk w' p1 #[.int .i64 op, .int .i64 d, .int .i64 sr, .int .i64 ju, .int .i64 co, .int .i64 nn, .int .i64 kk] 135 ∧ Bk w' p4 #[.int .i64 wa, .int .i64 wj, .int .i64 wc] 305 ∧ Bk w' p8 #[.int .i64 ra, .int .i64 rj, .int .i64 rc, .bool ev] 312 ∧ SlR (Is q3) w' (some ⟨q3, 0, none⟩) 1 4 [.int .i64 ra, .int .i64 rj, .int .i64 rc, .bool ev] ∧ Ch (No) w w') (fun j => rc.toNat - j) 0 ?_ ⟨rfl, rfl, rfl, rfl, rfl, rfl, rfl, rfl, rfl, trivial⟩ ?_
  · exact ⟨(by omega), (Nat.le_refl _), b2_10, b6_10, b9_10, rd_10, CH_10⟩
  rintro j w11 ⟨hjc, hsz11, b2_11, b6_11, b9_11, rd_11, CH_11⟩
  show VC _ _ _ _ [(1, .int .i64 n), (2, .pointer (some ⟨p1, 0, none⟩)), (6, .pointer (some ⟨p4, 0, none⟩)), (9, .pointer (some ⟨p8, 0, none⟩)), (38, .slice (some ⟨q3, 0, none⟩) 1 1), (39, .int .i64 1), (40, .int .i64 0), (51, .int .i64 rc), (52, .int .i64 j)] _
  have hJj := hJ j
  refine Qe (Qb (Om (Cs rfl rfl) rfl (Qf (Qa (Qe (Qj rfl (fun hc2 => ?_) (fun hc2 => ?_)))))))
  ·
   refine Qn (Qa (Qe (Qw (Qe (Qb (Om (Qc rfl) rfl (Om (Qd rfl) rfl ?_)))))))
   refine Qf (Qa (Qe (Qb (Om (Qr ι305 ς305 rfl rfl (b6_11.all' rfl)) rfl (Om (Qg υ312 rfl ς305 rfl rfl rfl) rfl (Om (Qg υ305 rfl ς3 rfl rfl rfl) rfl (Om (Qh ι3 rfl (b9_11.cell rfl)) rfl ?_)))))))
   refine Om (Qc rfl) rfl (Om (Qg υ312 rfl ς305 rfl rfl rfl) rfl (Om (Qg υ305 rfl ς3 rfl rfl rfl) rfl (Om (Qh ι3 rfl (b9_11.cell rfl)) rfl ?_)))
   refine Om (Cv rfl rfl (by rw [IntKind.wrap_i64]; omega)) rfl ?_
   refine Om (Ce rfl rfl (by rw [IntKind.wrap_i64]; omega)) rfl ?_
   refine Oq (Qi Tryz.call295 rfl (cel_hasG _ _ _ _ (hnot j (by omega)) (by omega) _)) rfl ?_
   rintro _ w12 ⟨rfl, c12⟩
   have z12 := c12.size
   refine Om (Qd rfl) rfl (Qf (Qa (Qe (Qe (Qb (Om (Qc rfl) rfl (Om (Rn.lssT rfl rfl (by omega)) rfl ?_)))))))
   refine Qf (Qa (Cw rfl (Cr (Qk (Qz (Qa (Qb ?_)))))))
   refine Om (Ce rfl rfl (by rw [IntKind.wrap_i64]; omega)) rfl ?_
   refine Om (Qc rfl) rfl (Qf ?_)
   refine Ck (j + 1) (by first | omega | (dsimp only; omega)) ?_ ⟨rfl, rfl, rfl, rfl, rfl, rfl, rfl, rfl, rfl, trivial⟩
   have b2_12 := b2_11.keep c12
   have b6_12 := b6_11.keep c12
   have b9_12 := b9_11.keep c12
   have rd_12 := rd_11.keep c12
   have CH_12 := CH_11.and c12
   exact ⟨(by omega), (by omega), b2_12, b6_12, b9_12, rd_12, CH_12⟩
  ·
   refine Cr (Qk (Qk (Qz (Qo (Qa (Qb ?_))))))
   refine Om (Ce rfl rfl (by rw [IntKind.wrap_i64]; omega)) rfl ?_
   refine Om (Qc rfl) rfl (Qf ?_)
   refine Ck 1 (by first | omega | (dsimp only; omega)) ?_ ⟨rfl, rfl, rfl, rfl, rfl, rfl, trivial⟩
   exact ⟨(by omega), (by omega), b2_11, b6_11, rd_11, CH_11⟩
 ·
  refine Cr (Qk (Qk (Qz (Qa (Qe (Qb (Om (Qd rfl) rfl ?_)))))))
  refine Qf (Qa (Qp (Qy rfl rfl (Ret.mk ?_))))
  exact ⟨rfl, CH_7⟩
theorem good_N (n : Int) (w : World) (st : StT w) (op d sr ju co nn kk : Int) (hf : formM ⟨op, d, sr, ju, co, nn, kk⟩ = true) (h5 : ¬ op = 5) (wa wj wc : Int) (own : Bool) (hw : 0 ≤ wa ∧ 1 ≤ wc ∧ wc ≤ 1000000 ∧ 0 ≤ wj ∧ wj ≤ 1000000) (hw2 : wa + (wc - 1) * wj < n) (hn : n ≤ 1000000) (hG : 24 ≤ w.heap.size) (ht : ∀ w, Calls Tryz.prog 294 #[.agg #[.int .i64 op, .int .i64 d, .int .i64 sr, .int .i64 ju, .int .i64 co, .int .i64 nn, .int .i64 kk]] w (Ret (fun v w' => v = .tuple #[.slice none 0 0, .agg #[.int .i64 wa, .int .i64 wj, .int .i64 wc], .bool own] ∧ Ch No w w'))) :
  Calls Tryz.prog 276 #[.agg #[.int .i64 op, .int .i64 d, .int .i64 sr, .int .i64 ju, .int .i64 co, .int .i64 nn, .int .i64 kk], .int .i64 n] w (Ret (fun v w' => v = .bool true ∧ Ch No w w')) := by
 have hnb := form_n hf
 have hp : 0 ≤ (wc - 1) * wj := Int.mul_nonneg (by omega) (by omega)
 refine calls_of_VC (args := [.agg #[.int .i64 op, .int .i64 d, .int .i64 sr, .int .i64 ju, .int .i64 co, .int .i64 nn, .int .i64 kk], .int .i64 n]) Tryz.func276 rfl Tryz.ntmps276 rfl (Qe (Qb (Oq (Cj rfl) rfl ?_)))
 rintro _ w1 ⟨p1, rfl, N1⟩
 have c1 := N1.ch
 have e1 := N1.p; have z1 := N1.size
 have b2 := Bk.new N1
 refine Om (Qd rfl) rfl (Qf (Qa (Qe (Qe (Qb (Om (Qr ι135 ς135 rfl rfl (b2.all' rfl)) rfl ?_))))))
 have st_1 := st.keep c1
 refine Oq (Qi Tryz.call291 rfl (steps_Form ⟨op, d, sr, ju, co, nn, kk⟩ _ st_1 hf (by omega))) rfl ?_
 rintro _ w2 ⟨rfl, c2⟩
 have z2 := c2.size
 refine Om (Cg υ28 rfl) rfl (Qf (Qa (Ca rfl (Qn (Qa (Qe (Qe ?_)))))))
 refine Qb (Om (Qg υ135 rfl ς3 rfl rfl rfl) rfl ?_)
 have b2_2 := b2.keep c2
 refine Om (Qh ι3 rfl (b2_2.cell rfl)) rfl (Om (Rn.eqlF rfl rfl h5) rfl (Qf (Qa (Ca rfl (Qn (Qa (Qe ?_)))))))
 refine Qb (Om (Qr ι135 ς135 rfl rfl (b2_2.all' rfl)) rfl (Oq (Qi Tryz.call294 rfl (ht _)) rfl ?_))
 rintro _ w3 ⟨rfl, c3⟩
 have z3 := c3.size
 refine Om (Qc rfl) rfl (Om (Qq rfl rfl) rfl (Om (Qq rfl rfl) rfl (Om (Qq rfl rfl) rfl (Oq (Cc ζ305) rfl ?_))))
 rintro _ w4 ⟨p4, rfl, N4⟩
 have c4 := N4.ch
 have e4 := N4.p; have z4 := N4.size
 have b6 := Bk.new N4
 refine Om (Qd rfl) rfl (Oz (Cf ς305 rfl rfl rfl rfl b6 (Nat.le_of_ble_eq_true rfl)) rfl ?_)
 intro _ w5 Z5
 have c5 := Z5.ch; have z5 := Z5.size
 have b6_5 := Bk.put Z5
 refine Om (Qd rfl) rfl (Qf (Qa (Qe (Qe (Qb (Om (Qr ι305 ς305 rfl rfl (b6_5.all' rfl)) rfl (Oq (Qi κ293 rfl (cel_last _ _ _ (by omega) _)) rfl ?_)))))))
 rintro _ w6 ⟨rfl, c6⟩
 have z6 := c6.size
 refine Om (Qc rfl) rfl (Om (Rn.geqF rfl rfl (by omega)) rfl (Qf (Qa (Ca rfl (Qn (Qa (Qe ?_)))))))
 refine Qe (Qb (Om (Qc rfl) rfl (Om (Ra υ308 rfl) rfl (Om (Qc rfl) rfl (Qf (Qa (Qw ?_)))))))
 have cc_0_6 : Ch No w w6 := ((Ch.then (E := No) (((c1.and c2).and c3).and c4) c5 (by intro q h1 h2; rcases h2 with h2 | h2 <;> first | exact h2 | (exfalso; omega))).and c6)
 have CH_6 := (Ch.refl (No) w).and cc_0_6
 refine Cp (σ := Nat) (fun i => [(39, .int .i64 0), (40, .int .i64 i)]) (fun i w' => i = 0 ∧ w6.heap.size ≤ w'.heap.size ∧ Ch (No) w w') (fun i => 0 - i) 0 ?_ ⟨rfl, rfl, trivial⟩ ?_
 · exact ⟨(by omega), (Nat.le_refl _), CH_6⟩
 rintro i w7 ⟨hi, hsz7, CH_7⟩
 show VC _ _ _ _ [(39, .int .i64 0), (40, .int .i64 i)] _
 refine Qe (Qb (Om (Cs rfl rfl) rfl (Qf (Qa (Qe (Qj rfl (fun hc1 => ?_) (fun hc1 => ?_)))))))
 ·
  omega
 ·
  refine Cr (Qk (Qk (Qz (Qa (Qe (Qb (Om (Qd rfl) rfl ?_)))))))
  refine Qf (Qa (Qp (Qy rfl rfl (Ret.mk ?_))))
  exact ⟨rfl, CH_7⟩
theorem flown5 (d sr ju co kk : Int) (nn : Nat) (hd : 0 ≤ d ∧ d ≤ 1000000) (hj : 0 ≤ ju ∧ ju ≤ 1000000) (hn : nn ≤ 64) (w : World) :
  Calls Tryz.prog 292 #[.agg #[.int .i64 5, .int .i64 d, .int .i64 sr, .int .i64 ju, .int .i64 co, .int .i64 nn, .int .i64 kk]] w (Ret (fun v w' => ∃ r A c, v = .slice A nn c ∧ SlR (At r) w' A nn 3 (rowsQ d ju co nn) ∧ (r = 0 ∨ w.heap.size < r) ∧ Ch No w w')) := by
 have hJ : ∀ j : Nat, j ≤ 64 → 0 ≤ (j : Int) * ju ∧ (j : Int) * ju ≤ 64 * ju := fun j h => ⟨Int.mul_nonneg (by omega) (by omega), Int.mul_le_mul_of_nonneg_right (by omega) (by omega)⟩
 refine calls_of_VC (args := [.agg #[.int .i64 5, .int .i64 d, .int .i64 sr, .int .i64 ju, .int .i64 co, .int .i64 nn, .int .i64 kk]]) Tryz.func292 rfl Tryz.ntmps292 rfl (Qe (Qb (Oq (Cj rfl) rfl ?_)))
 rintro _ w1 ⟨p1, rfl, N1⟩
 have c1 := N1.ch
 have e1 := N1.p; have z1 := N1.size
 have b1 := Bk.new N1
 refine Om (Qd rfl) rfl (Qf (Qa (Qe (Qb (Om (Qd rfl) rfl (Qf (Qa ?_)))))))
 refine Qe (Qe (Qb (Om (Qg υ135 rfl ς3 rfl rfl rfl) rfl (Om (Qh ι3 rfl (b1.cell rfl)) rfl (Om (Qc rfl) rfl (Qf (Qa ?_)))))))
 refine Qw ?_
 have CH_1 := (Ch.refl (No) w).and c1
 refine Cp (σ := Nat × Nat × Option Addr × Nat) (fun (q, r2, A2, c2) => [(1, .pointer (some ⟨p1, 0, none⟩)), (3, .slice A2 q c2), (6, .int .i64 nn), (7, .int .i64 q)]) (fun (q, r2, A2, c2) w' => q ≤ nn ∧ (r2 = 0 ∨ p1 + 1 < r2) ∧ w1.heap.size ≤ w'.heap.size ∧ Bk w' p1 #[.int .i64 5, .int .i64 d, .int .i64 sr, .int .i64 ju, .int .i64 co, .int .i64 nn, .int .i64 kk] 135 ∧ Ow w' r2 305 3 A2 q c2 (rowsQ d ju co q) ∧ Ch (No) w w') (fun (q, r2, A2, c2) => nn - q) (0, 0, none, 0) ?_ ⟨rfl, rfl, rfl, rfl, trivial⟩ ?_
 · exact ⟨(by omega), (by omega), (Nat.le_refl _), b1, (Ow.nil _ _ _), CH_1⟩
 rintro ⟨q, r2, A2, c2⟩ w2 ⟨hq, hr2, hsz2, b1_2, row_2, CH_2⟩
 show VC _ _ _ _ [(1, .pointer (some ⟨p1, 0, none⟩)), (3, .slice A2 q c2), (6, .int .i64 nn), (7, .int .i64 q)] _
 have hJq := hJ q (by omega)
 refine Qe (Qb (Om (Cs rfl rfl) rfl (Qf (Qa (Qe (Qj rfl (fun hc1 => ?_) (fun hc1 => ?_)))))))
 ·
  refine Qn (Qa (Qe (Qw (Qe (Qb (Om (Qc rfl) rfl (Om (Qd rfl) rfl ?_)))))))
  refine Qf (Qa (Qb (Om (Qc rfl) rfl (Om (Qg υ135 rfl ς3 rfl rfl rfl) rfl (Om (Qh ι3 rfl (b1_2.cell rfl)) rfl (Om (Qc rfl) rfl (Om (Qg υ135 rfl ς3 rfl rfl rfl) rfl ?_)))))))
  refine Om (Qh ι3 rfl (b1_2.cell rfl)) rfl ?_
  refine Om (Cv rfl rfl (by rw [IntKind.wrap_i64]; omega)) rfl ?_
  refine Om (Ce rfl rfl (by rw [IntKind.wrap_i64]; omega)) rfl ?_
  refine Om (Qg υ135 rfl ς3 rfl rfl rfl) rfl (Om (Qh ι3 rfl (b1_2.cell rfl)) rfl (Om (Cl rfl (bld305_0_1_2w85 rfl)) rfl (Oq (Cy υ306 inf305w85 (by decide) rfl rfl (by rfl) (by decide) (by decide) (by rfl)) rfl ?_)))
  rintro _ w3 ⟨p3, rfl, N3⟩
  have c3 := N3.ch
  have e3 := N3.p; have z3 := N3.size
  have l21 := SlR.of_new (sz := 3) (l := 1) N3 rfl
  have l21o := Ow.of_new (sz := 3) (l := 1) N3 rfl (by decide)
  have row_3 := row_2.keep c3
  refine Oq (Cq (S := _) υ306 inf305w85 rfl (by decide) rfl rfl row_3 l21 (by rfl) (fun h => by simp at h) (by omega) (by simp only [maxLen]; omega)) rfl ?_
  rintro _ w4 ⟨r4, A4, k4, rfl, o4, c4, q4⟩
  have z4 := c4.size
  have y4 := o4.lt
  refine Om (Qd rfl) rfl (Qf (Qo (Qa (Qb ?_))))
  refine Om (Ce rfl rfl (by rw [IntKind.wrap_i64]; omega)) rfl ?_
  refine Om (Qc rfl) rfl (Qf ?_)
  refine Ck (q + 1, r4, A4, k4) (by first | omega | (dsimp only; omega)) ?_ ⟨rfl, rfl, rfl, rfl, trivial⟩
  have b1_3 := b1_2.keep c3
  have b1_4 := b1_3.to c4
  have CH_3 := CH_2.and c3
  have CH_4 : Ch (No) w w4 := CH_3.then c4
  exact ⟨(by omega), (by omega), (by omega), b1_4, (by rw [rowsQ_succ]; exact o4), CH_4⟩
 ·
  refine Cr (Qk (Qk (Qz (Qa (Qe (Qb (Om (Qc rfl) rfl ?_)))))))
  refine Om (Qd rfl) rfl (Qf (Qa (Qp (Qy rfl rfl (Ret.mk ?_)))))
  have e : q = nn := by omega
  subst e
  exact ⟨_, _, _, rfl, (row_2).sl, by omega, CH_2⟩
theorem good5 (d sr ju co kk n : Int) (nn : Nat) (w : World) (st : StT w) (hf : formM ⟨5, d, sr, ju, co, nn, kk⟩ = true) (hd : 0 ≤ d ∧ d ≤ 1000000) (hc : 1 ≤ co ∧ co ≤ 1000000) (hj : 1 ≤ ju ∧ ju ≤ 1000000) (hn : 1 ≤ nn ∧ nn ≤ 64) (hr : d + co - 1 + ((nn : Int) - 1) * ju < n) (hn2 : n ≤ 1000000) (hG : 24 ≤ w.heap.size) :
  Calls Tryz.prog 276 #[.agg #[.int .i64 5, .int .i64 d, .int .i64 sr, .int .i64 ju, .int .i64 co, .int .i64 nn, .int .i64 kk], .int .i64 n] w (Ret (fun v w' => v = .bool true ∧ Ch No w w')) := by
 have hp : 0 ≤ ((nn : Int) - 1) * ju := Int.mul_nonneg (by omega) (by omega)
 refine calls_of_VC (args := [.agg #[.int .i64 5, .int .i64 d, .int .i64 sr, .int .i64 ju, .int .i64 co, .int .i64 nn, .int .i64 kk], .int .i64 n]) Tryz.func276 rfl Tryz.ntmps276 rfl (Qe (Qb (Oq (Cj rfl) rfl ?_)))
 rintro _ w1 ⟨p1, rfl, N1⟩
 have c1 := N1.ch
 have e1 := N1.p; have z1 := N1.size
 have b2 := Bk.new N1
 refine Om (Qd rfl) rfl (Qf (Qa (Qe (Qe (Qb (Om (Qr ι135 ς135 rfl rfl (b2.all' rfl)) rfl ?_))))))
 have st_1 := st.keep c1
 refine Oq (Qi Tryz.call291 rfl (steps_Form ⟨5, d, sr, ju, co, nn, kk⟩ _ st_1 hf (by omega))) rfl ?_
 rintro _ w2 ⟨rfl, c2⟩
 have z2 := c2.size
 refine Om (Cg υ28 rfl) rfl (Qf (Qa (Ca rfl (Qn (Qa (Qe (Qe ?_)))))))
 refine Qb (Om (Qg υ135 rfl ς3 rfl rfl rfl) rfl ?_)
 have b2_2 := b2.keep c2
 refine Om (Qh ι3 rfl (b2_2.cell rfl)) rfl (Om (Cm rfl rfl) rfl (Qf (Qa (Qj rfl (fun hc1 => ?_) (fun hc1 => ?_)))))
 ·
  refine Qe (Ci 10 [(0, true), (2, true), (3, true), (4, true), (8, true), (1, false), (5, false), (6, false), (7, false), (9, true)] (fun w1 w' => Ch (No) w1 w') mixed (by kernel_rfl) (fun _ _ => Ch.refl _ _) ?_)
  intro w3 D3
  have c3 := Ch.of_drew D3; have z3 := c3.size
  have b2_3 := b2_2.keep c3
  refine Hm (fun w' hS => Qr ι135 ς135 rfl rfl ((b2_3.keep hS).all' rfl)) rfl (Hm (fun w' hS => Qg υ135 rfl ς3 rfl rfl rfl) rfl (Hm (fun w' hS => Qh ι3 rfl ((b2_3.keep hS).cell rfl)) rfl ?_))
  refine Hm (fun w' hS => Rf rfl rfl (by rw [IntKind.wrap_i64]; omega)) rfl ?_
  refine Hm (fun w' hS => Qc rfl) rfl (Hq (Qi Tryz.call292 rfl (flown5 _ _ _ _ _ _ (by omega) (by omega) (by omega) _)) rfl ?_)
  rintro _ w4 ⟨r4, A4, k4, rfl, fl4, yr4, c4⟩
  have z4 := c4.size
  have RD_4 := (Ch.refl (No) w3).and c4
  refine ⟨RD_4, ?_⟩
  refine VH.late (Cb υ306 ς305 rfl rfl (fl4.ne (by omega)) (by omega) (by omega)) rfl rfl rfl rfl RD_4 (VH.late (Qr ι305 ς305 rfl rfl (sl_last fl4 (by omega)).1) rfl rfl rfl rfl RD_4 (Hq (Qi κ293 rfl (cel_last _ _ _ (by omega) _)) rfl ?_))
  rintro _ w5 ⟨rfl, c5⟩
  have z5 := c5.size
  have RD_5 := RD_4.and c5
  refine ⟨RD_5, ?_⟩
  refine Hm (fun w' hS => Rn.lssT rfl rfl (by rw [Int.mul_one]; omega)) rfl ?_
  refine Cn (Om (Qd rfl) rfl (Qf (Qx (Qa (Qp (Qu (Qy rfl rfl ?_)))))))
  refine Ret.mk ?_
  have CH_5 := (Ch.refl (No) w).and (c1.trans (c2.trans (c3.trans (c4.trans c5))))
  exact ⟨rfl, CH_5⟩
 ·
  exact absurd rfl hc1
theorem good_okG (s : Stp) (N : Nat) (n : Int) (hn : n = N) (hN : N ≤ 1000000) (h : GoodG s N) (w : World) (st : StT w) (hG : 24 ≤ w.heap.size) :
    Calls Tryz.prog 276 #[.agg #[.int .i64 s.op, .int .i64 s.dst, .int .i64 s.src, .int .i64 s.jump, .int .i64 s.count, .int .i64 s.n, .int .i64 s.k], .int .i64 n] w (Ret fun v w' => v = .bool true ∧ Ch No w w') := by
  obtain ⟨op, d, sr, ju, co, nn, kk⟩ := s
  obtain ⟨⟨⟨s1, s2, s3, s4, s5, s6, s7⟩, hc, h5⟩, hf, hj5, d1, d2, d6, d9⟩ := h
  simp only at s1 s2 s3 s4 s5 s6 s7 hc h5 hj5 d1 d2 d6 d9
  subst hn
  have hJ : ∀ c : Int, ∀ j : Nat, (j : Int) < c → 0 ≤ (j : Int) * ju ∧ (j : Int) * ju ≤ (c - 1) * ju := fun c j h => ⟨Int.mul_nonneg (by omega) (by omega), Int.mul_le_mul_of_nonneg_right (by omega) (by omega)⟩
  have hp : 0 ≤ (co - 1) * ju := Int.mul_nonneg (by omega) (by omega)
  rcases h5 with ⟨rfl, h6, h7⟩ | ⟨rfl, h6, h7⟩ | ⟨rfl, h6⟩ | ⟨rfl, h6, h7, h8, h9, h10⟩ | ⟨rfl, h6, h7, h8⟩ | ⟨rfl, h6, h7, h8, h9, h10, h11⟩ | ⟨rfl, h6, h7, h8⟩ | ⟨rfl, h6, h7, h8, h9⟩ | ⟨rfl, h6, h7⟩ | ⟨rfl, h6⟩ | ⟨rfl, h6⟩
  · have d1 := d1 rfl
    exact good_R N w st 1 d sr ju co nn kk hf (by decide) d 1 co false (by omega) (by omega) (by omega) hG sr ju co false (by omega) (by omega) (fun j hj => by have := hJ co j hj; omega) (touched1 d sr ju co nn kk)
  · have d2 := d2 rfl
    exact good_R N w st 2 d sr ju co nn kk hf (by decide) d ju co false (by omega) (by omega) (by omega) hG sr 1 co false (by omega) (by omega) (fun j hj => by omega) (touched2 d sr ju co nn kk)
  · exact good_N N w st 3 d sr ju co nn kk hf (by decide) d 1 co false (by omega) (by omega) (by omega) hG (touched3 3 d sr ju co nn kk rfl)
  · exact good_N N w st 4 d sr ju co nn kk hf (by decide) d 1 co true (by omega) (by omega) (by omega) hG (touchedO 4 d sr ju co nn kk (by decide))
  · obtain ⟨nn, rfl⟩ := nat_of (show 0 ≤ nn by omega)
    have hp : 0 ≤ ((nn : Int) - 1) * ju := Int.mul_nonneg (by omega) (by omega)
    have := hj5 rfl
    exact good5 d sr ju co kk N nn w st hf (by omega) (by omega) (by omega) (by omega) (by omega) (by omega) hG
  · have d6 := d6 rfl
    have hp6 : 0 ≤ (nn - 1) * ju := Int.mul_nonneg (by omega) (by omega)
    exact good_R N w st 6 d sr ju co nn kk hf (by decide) d 1 co false (by omega) (by omega) (by omega) hG sr ju nn true (by omega) (by omega) (fun j hj => by have := hJ nn j hj; omega) (touched6 d sr ju co nn kk)
  · exact good_N N w st 7 d sr ju co nn kk hf (by decide) d 1 co true (by omega) (by omega) (by omega) hG (touchedO 7 d sr ju co nn kk (by decide))
  · exact good_N N w st 8 d sr ju co nn kk hf (by decide) d 1 co false (by omega) (by omega) (by omega) hG (touched8 8 d sr ju co nn kk rfl)
  · have d9 := d9 rfl
    exact good_R N w st 9 d sr ju co nn kk hf (by decide) d 1 co true (by omega) (by omega) (by omega) hG sr 1 co false (by omega) (by omega) (fun j hj => by omega) (touched9 d sr ju co nn kk)
  · exact good_N N w st 10 d sr ju co nn kk hf (by decide) d 1 co true (by omega) (by omega) (by omega) hG (touchedO 10 d sr ju co nn kk (by decide))
  · exact good_N N w st 11 d sr ju co nn kk hf (by decide) d 1 co true (by omega) (by omega) (by omega) hG (touchedO 11 d sr ju co nn kk (by decide))
theorem c_Fault (b : Bld) (N : Nat) (ok : PrgG b N) (S : Nat → Prop) (A : Option Addr) (c : Nat) (w : World) (st : StT w) (sb : SlR S w A b.steps.length 7 (flatS b.steps)) (hG : 24 ≤ w.heap.size) :
  Calls Tryz.prog 247 #[.agg #[.int .i64 b.ln, .int .i64 b.cl, .int .i64 b.i0, .int .i64 b.ou, .slice A b.steps.length c]] w (Ret (fun v w' => v = .int .i64 (-1) ∧ Ch No w w')) := by
 have hln := ok.ln; have hn1 := ok.n1; have hi0 := ok.i0; have hou := ok.ou; have hlen := ok.len; have hact := ok.act; have hcl := ok.cl
 have hdl0 := cntG_drop_le ok.cn 0; rw [List.drop_zero] at hdl0
 refine calls_of_VC (args := [.agg #[.int .i64 b.ln, .int .i64 b.cl, .int .i64 b.i0, .int .i64 b.ou, .slice A b.steps.length c]]) Tryz.func247 rfl Tryz.ntmps247 rfl (Qe (Qb (Oq (Cj rfl) rfl ?_)))
 rintro _ w1 ⟨p1, rfl, N1⟩
 have c1 := N1.ch
 have e1 := N1.p; have z1 := N1.size
 have b1 := Bk.new N1
 refine Om (Qd rfl) rfl (Qf (Qa (Qe (Qb (Om (Qd rfl) rfl (Qf (Qa ?_)))))))
 refine Qe (Qe (Qb (Om (Qg υ98 rfl ς96 rfl rfl rfl) rfl (Om (Qh ι96 rfl (b1.cell rfl)) rfl (Om (Ra υ96 rfl) rfl (Om (Qc rfl) rfl (Qf ?_)))))))
 refine Qa (Qw ?_)
 have sb_1 := sb.keep c1
 have st_1 := st.keep c1
 have CH_1 := (Ch.refl (No) w).and c1
 refine Cp (σ := Nat × Int) (fun (i, sm) => [(1, .pointer (some ⟨p1, 0, none⟩)), (3, .int .i64 sm), (7, .slice A b.steps.length c), (8, .int .i64 b.steps.length), (9, .int .i64 i)]) (fun (i, sm) w' => i ≤ b.steps.length ∧ sm = cntS b.steps - cntS (b.steps.drop i) ∧ w1.heap.size ≤ w'.heap.size ∧ Bk w' p1 #[.int .i64 b.ln, .int .i64 b.cl, .int .i64 b.i0, .int .i64 b.ou, .slice A b.steps.length c] 98 ∧ SlR S w' A b.steps.length 7 (flatS b.steps) ∧ StT w' ∧ Ch (No) w w') (fun (i, sm) => b.steps.length - i) (0, 0) ?_ ⟨rfl, rfl, rfl, rfl, rfl, trivial⟩ ?_
 · exact ⟨(by omega), (by rw [List.drop_zero]; omega), (Nat.le_refl _), b1, sb_1, st_1, CH_1⟩
 rintro ⟨i, sm⟩ w2 ⟨hi, hsm, hsz2, b1_2, sb_2, st_2, CH_2⟩
 show VC _ _ _ _ [(1, .pointer (some ⟨p1, 0, none⟩)), (3, .int .i64 sm), (7, .slice A b.steps.length c), (8, .int .i64 b.steps.length), (9, .int .i64 i)] _
 have hdl := cntG_drop_le ok.cn i
 refine Qe (Qb (Om (Cs rfl rfl) rfl (Qf (Qa (Qe (Qj rfl (fun hc1 => ?_) (fun hc1 => ?_)))))))
 ·
  refine Qn (Qa (Qe (Qw (Qe ?_))))
  obtain ⟨s, hs⟩ : ∃ s, b.steps[i]? = some s := ⟨_, List.getElem?_eq_getElem (by omega)⟩
  have hsg := ok.st s (List.mem_of_getElem? hs)
  have hcd := cntS_drop hs
  have hdl1 := cntG_drop_le ok.cn (i + 1)
  have hcp := hsg.st.cnt.1
  have hcp2 := hsg.st.cnt.2
  have ks := sl_step sb_2 rfl hs
  refine Qb (Om (Qc rfl) rfl (Om (Cb υ96 ς135 rfl rfl (sb_2.ne (by omega)) (by omega) (by omega)) rfl (Om (Qr ι135 ς135 rfl rfl ks.1) rfl (Oq (Cc ζ135) rfl ?_))))
  rintro _ w3 ⟨p3, rfl, N3⟩
  have c3 := N3.ch
  have e3 := N3.p; have z3 := N3.size
  have b5 := Bk.new N3
  refine Om (Qd rfl) rfl (Oz (Cf ς135 rfl rfl rfl rfl b5 (Nat.le_of_ble_eq_true rfl)) rfl ?_)
  intro _ w4 Z4
  have c4 := Z4.ch; have z4 := Z4.size
  have b5_4 := Bk.put Z4
  refine Qf (Qa (Qe (Qe (Qb (Om (Qc rfl) rfl (Om (Rn.eqlF rfl rfl (by omega)) rfl (Om (Qc rfl) rfl ?_)))))))
  refine Om (Qr ι135 ς135 rfl rfl (b5_4.all' rfl)) rfl (Om (Qg υ98 rfl ς3 rfl rfl rfl) rfl ?_)
  have cc_2_4 : Ch No w2 w4 := (Ch.then (E := No) c3 c4 (by intro q h1 h2; rcases h2 with h2 | h2 <;> first | exact h2 | (exfalso; omega)))
  have b1_4 := b1_2.keep cc_2_4
  refine Om (Qh ι3 rfl (b1_4.cell rfl)) rfl ?_
  have st_4 := st_2.keep cc_2_4
  refine Oq (Qi Tryz.call276 rfl (good_okG _ _ _ ok.cl (by have := ok.n1; omega) hsg _ st_4 (by omega))) rfl ?_
  rintro _ w5 ⟨rfl, c5⟩
  have z5 := c5.size
  refine Om (Ro rfl) rfl (Om (Qm rfl rfl) rfl (Qf (Qa (Ca rfl (Qn (Qa (Qe ?_)))))))
  refine Qb (Om (Qc rfl) rfl (Om (Qg υ135 rfl ς3 rfl rfl rfl) rfl ?_))
  have b5_5 := b5_4.keep c5
  refine Om (Qh ι3 rfl (b5_5.cell rfl)) rfl ?_
  refine Om (Ce rfl rfl (by rw [IntKind.wrap_i64]; omega)) rfl ?_
  refine Om (Qd rfl) rfl (Qf (Qa (Qe (Qb (Om (Qc rfl) rfl (Om (Rb rfl rfl) rfl (Qf ?_)))))))
  refine Qa (Qj rfl (fun hc2 => ?_) (fun hc2 => ?_))
  ·
   omega
  ·
   refine Qn (Qo (Qa (Qb ?_)))
   refine Om (Ce rfl rfl (by rw [IntKind.wrap_i64]; omega)) rfl ?_
   refine Om (Qc rfl) rfl (Qf ?_)
   refine Ck (i + 1, _) (by first | omega | (dsimp only; omega)) ?_ ⟨rfl, rfl, rfl, rfl, rfl, trivial⟩
   have b1_5 := b1_4.keep c5
   have cc_2_5 : Ch No w2 w5 := ((Ch.then (E := No) c3 c4 (by intro q h1 h2; rcases h2 with h2 | h2 <;> first | exact h2 | (exfalso; omega))).and c5)
   have sb_5 := sb_2.keep cc_2_5
   have st_5 := st_4.keep c5
   have CH_5 := CH_2.and cc_2_5
   exact ⟨(by omega), (by omega), (by omega), b1_5, sb_5, st_5, CH_5⟩
 ·
  refine Cr (Qk (Qk (Qz (Qa (Qe (Qb (Om (Qd rfl) rfl ?_)))))))
  refine Qf (Qa (Qp (Qy rfl rfl (Ret.mk ?_))))
  exact ⟨rfl, CH_2⟩
theorem c_Check (b : Bld) (N : Nat) (ok : PrgG b N) (S : Nat → Prop) (A : Option Addr) (c : Nat) (w : World) (st : StT w) (sb : SlR S w A b.steps.length 7 (flatS b.steps)) (hG : 24 ≤ w.heap.size) :
  Calls Tryz.prog 198 #[.agg #[.int .i64 b.ln, .int .i64 b.cl, .int .i64 b.i0, .int .i64 b.ou, .slice A b.steps.length c]] w (Ret (fun v w' => v = .nilIface ∧ Ch No w w')) := by
 have hln := ok.ln; have hn1 := ok.n1; have hi0 := ok.i0; have hou := ok.ou; have hlen := ok.len; have hact := ok.act; have hcl := ok.cl
 have hdl0 := cntG_drop_le ok.cn 0; rw [List.drop_zero] at hdl0
 refine calls_of_VC (args := [.agg #[.int .i64 b.ln, .int .i64 b.cl, .int .i64 b.i0, .int .i64 b.ou, .slice A b.steps.length c]]) Tryz.func198 rfl Tryz.ntmps198 rfl (Qe (Qb (Oq (Cj rfl) rfl ?_)))
 rintro _ w1 ⟨p1, rfl, N1⟩
 have c1 := N1.ch
 have e1 := N1.p; have z1 := N1.size
 have b1 := Bk.new N1
 refine Om (Qd rfl) rfl (Qf (Qa (Qe (Qb (Om (Qg υ98 rfl ς3 rfl rfl rfl) rfl (Om (Qh ι3 rfl (b1.cell rfl)) rfl (Om (Rn.geqT rfl rfl (by omega)) rfl ?_)))))))
 refine Om (Qc rfl) rfl (Om (Qg υ98 rfl ς3 rfl rfl rfl) rfl (Om (Qh ι3 rfl (b1.cell rfl)) rfl (Om (Rn.leqT rfl rfl (by omega)) rfl (Om (Qt rfl rfl) rfl (Om (Qc rfl) rfl (Om (Qg υ98 rfl ς3 rfl rfl rfl) rfl (Om (Qh ι3 rfl (b1.cell rfl)) rfl ?_)))))))
 refine Om (Rn.geqT rfl rfl (by omega)) rfl (Om (Qt rfl rfl) rfl (Om (Qc rfl) rfl (Om (Qg υ98 rfl ς3 rfl rfl rfl) rfl (Om (Qh ι3 rfl (b1.cell rfl)) rfl (Om (Rn.leqT rfl rfl (by omega)) rfl (Om (Qt rfl rfl) rfl (Om (Qc rfl) rfl ?_)))))))
 refine Om (Qg υ98 rfl ς3 rfl rfl rfl) rfl (Om (Qh ι3 rfl (b1.cell rfl)) rfl (Om (Rn.geqT rfl rfl (by omega)) rfl (Om (Qt rfl rfl) rfl (Om (Qc rfl) rfl (Om (Qg υ98 rfl ς3 rfl rfl rfl) rfl (Om (Qh ι3 rfl (b1.cell rfl)) rfl (Om (Rn.geqT rfl rfl (by omega)) rfl ?_)))))))
 refine Om (Qt rfl rfl) rfl (Om (Qc rfl) rfl (Om (Qg υ98 rfl ς3 rfl rfl rfl) rfl (Om (Qh ι3 rfl (b1.cell rfl)) rfl (Om (Qg υ98 rfl ς3 rfl rfl rfl) rfl (Om (Qh ι3 rfl (b1.cell rfl)) rfl (Om (Qg υ98 rfl ς3 rfl rfl rfl) rfl (Om (Qh ι3 rfl (b1.cell rfl)) rfl ?_)))))))
 refine Om (Rf rfl rfl (by rw [IntKind.wrap_i64]; omega)) rfl ?_
 refine Om (Rn.leqT rfl rfl (by omega)) rfl (Om (Qt rfl rfl) rfl (Om (Qc rfl) rfl (Om (Qg υ98 rfl ς3 rfl rfl rfl) rfl (Om (Qh ι3 rfl (b1.cell rfl)) rfl (Om (Qg υ98 rfl ς3 rfl rfl rfl) rfl (Om (Qh ι3 rfl (b1.cell rfl)) rfl (Om (Qg υ98 rfl ς3 rfl rfl rfl) rfl ?_)))))))
 refine Om (Qh ι3 rfl (b1.cell rfl)) rfl ?_
 refine Om (Rf rfl rfl (by rw [IntKind.wrap_i64]; omega)) rfl ?_
 refine Om (Rn.leqT rfl rfl (by omega)) rfl (Om (Qt rfl rfl) rfl (Om (Qd rfl) rfl (Qf (Qa (Qe (Qe (Qb ?_)))))))
 refine Om (Qc rfl) rfl (Om (Ro rfl) rfl (Om (Qc rfl) rfl (Om (Qr ι98 ς98 rfl rfl (b1.all' rfl)) rfl ?_)))
 have st_1 := st.keep c1
 have sb_1 := sb.keep c1
 refine Oq (Qi Tryz.call247 rfl (c_Fault _ _ ok _ _ _ _ st_1 sb_1 (by omega))) rfl ?_
 rintro _ w2 ⟨rfl, c2⟩
 have z2 := c2.size
 refine Om (Rn.geqF rfl rfl (by omega)) rfl (Om (Qm rfl rfl) rfl (Qf (Qa (Ca rfl (Qn (Qa (Qe ?_)))))))
 refine Qb (Om (Qd rfl) rfl (Qf (Qa (Qp (Qy rfl rfl (Ret.mk ?_))))))
 have CH_2 := (Ch.refl (No) w).and (c1.trans c2)
 exact ⟨rfl, CH_2⟩
theorem c_Acts (b : Bld) (N : Nat) (ok : PrgG b N) (S : Nat → Prop) (A : Option Addr) (c : Nat) (w : World) (st : StT w) (sb : SlR S w A b.steps.length 7 (flatS b.steps)) (hG : 24 ≤ w.heap.size) :
  Calls Tryz.prog 164 #[.agg #[.int .i64 b.ln, .int .i64 b.cl, .int .i64 b.i0, .int .i64 b.ou, .slice A b.steps.length c]] w (Ret (fun v w' => v = .tuple #[.int .i64 (cntS b.steps), .nilIface] ∧ Ch No w w')) := by
 have hln := ok.ln; have hn1 := ok.n1; have hi0 := ok.i0; have hou := ok.ou; have hlen := ok.len; have hact := ok.act; have hcl := ok.cl
 have hdl0 := cntG_drop_le ok.cn 0; rw [List.drop_zero] at hdl0
 refine calls_of_VC (args := [.agg #[.int .i64 b.ln, .int .i64 b.cl, .int .i64 b.i0, .int .i64 b.ou, .slice A b.steps.length c]]) Tryz.func164 rfl Tryz.ntmps164 rfl (Qe (Qb (Oq (Cj rfl) rfl ?_)))
 rintro _ w1 ⟨p1, rfl, N1⟩
 have c1 := N1.ch
 have e1 := N1.p; have z1 := N1.size
 have b1 := Bk.new N1
 refine Om (Qd rfl) rfl (Om (Qd rfl) rfl (Qf (Qa (Qe (Qe (Qb (Om (Qr ι98 ς98 rfl rfl (b1.all' rfl)) rfl ?_)))))))
 have st_1 := st.keep c1
 have sb_1 := sb.keep c1
 refine Oq (Qi Tryz.call198 rfl (c_Check _ _ ok _ _ _ _ st_1 sb_1 (by omega))) rfl ?_
 rintro _ w2 ⟨rfl, c2⟩
 have z2 := c2.size
 refine Om (Qd rfl) rfl (Qf (Qa (Qe (Qb (Om (Qc rfl) rfl (Om (Cg υ28 rfl) rfl (Qf ?_)))))))
 refine Qa (Ca rfl (Qn (Qa (Qe (Qb (Om (Qd rfl) rfl (Qf ?_)))))))
 refine Qa (Qe (Qe (Qb (Om (Qg υ98 rfl ς96 rfl rfl rfl) rfl ?_))))
 have b1_2 := b1.keep c2
 refine Om (Qh ι96 rfl (b1_2.cell rfl)) rfl (Om (Ra υ96 rfl) rfl (Om (Qc rfl) rfl (Qf (Qa (Qw ?_)))))
 have sb_2 := sb_1.keep c2
 have CH_2 := (Ch.refl (No) w).and (c1.trans c2)
 refine Cp (σ := Nat × Int) (fun (i, sm) => [(1, .pointer (some ⟨p1, 0, none⟩)), (5, .int .i64 sm), (14, .slice A b.steps.length c), (15, .int .i64 b.steps.length), (16, .int .i64 i)]) (fun (i, sm) w' => i ≤ b.steps.length ∧ sm = cntS b.steps - cntS (b.steps.drop i) ∧ w2.heap.size ≤ w'.heap.size ∧ Bk w' p1 #[.int .i64 b.ln, .int .i64 b.cl, .int .i64 b.i0, .int .i64 b.ou, .slice A b.steps.length c] 98 ∧ SlR S w' A b.steps.length 7 (flatS b.steps) ∧ Ch (No) w w') (fun (i, sm) => b.steps.length - i) (0, 0) ?_ ⟨rfl, rfl, rfl, rfl, rfl, trivial⟩ ?_
 · exact ⟨(by omega), (by rw [List.drop_zero]; omega), (Nat.le_refl _), b1_2, sb_2, CH_2⟩
 rintro ⟨i, sm⟩ w3 ⟨hi, hsm, hsz3, b1_3, sb_3, CH_3⟩
 show VC _ _ _ _ [(1, .pointer (some ⟨p1, 0, none⟩)), (5, .int .i64 sm), (14, .slice A b.steps.length c), (15, .int .i64 b.steps.length), (16, .int .i64 i)] _
 have hdl := cntG_drop_le ok.cn i
 refine Qe (Qb (Om (Cs rfl rfl) rfl (Qf (Qa (Qe (Qj rfl (fun hc1 => ?_) (fun hc1 => ?_)))))))
 ·
  refine Qn (Qa (Qe (Qw (Qe ?_))))
  obtain ⟨s, hs⟩ : ∃ s, b.steps[i]? = some s := ⟨_, List.getElem?_eq_getElem (by omega)⟩
  have hsg := ok.st s (List.mem_of_getElem? hs)
  have hcd := cntS_drop hs
  have hdl1 := cntG_drop_le ok.cn (i + 1)
  have hcp := hsg.st.cnt.1
  have hcp2 := hsg.st.cnt.2
  have ks := sl_step sb_3 rfl hs
  refine Qb (Om (Cb υ96 ς135 rfl rfl (sb_3.ne (by omega)) (by omega) (by omega)) rfl (Om (Qr ι135 ς135 rfl rfl ks.1) rfl (Oq (Cc ζ135) rfl ?_)))
  rintro _ w4 ⟨p4, rfl, N4⟩
  have c4 := N4.ch
  have e4 := N4.p; have z4 := N4.size
  have b7 := Bk.new N4
  refine Oz (Cf ς135 rfl rfl rfl rfl b7 (Nat.le_of_ble_eq_true rfl)) rfl ?_
  intro _ w5 Z5
  have c5 := Z5.ch; have z5 := Z5.size
  have b7_5 := Bk.put Z5
  refine Qf (Qa (Qb (Om (Qc rfl) rfl (Om (Qg υ135 rfl ς3 rfl rfl rfl) rfl (Om (Qh ι3 rfl (b7_5.cell rfl)) rfl ?_)))))
  refine Om (Ce rfl rfl (by rw [IntKind.wrap_i64]; omega)) rfl ?_
  refine Om (Qd rfl) rfl (Qf (Qo (Qa (Qb ?_))))
  refine Om (Ce rfl rfl (by rw [IntKind.wrap_i64]; omega)) rfl ?_
  refine Om (Qc rfl) rfl (Qf ?_)
  refine Ck (i + 1, _) (by first | omega | (dsimp only; omega)) ?_ ⟨rfl, rfl, rfl, rfl, rfl, trivial⟩
  have cc_3_5 : Ch No w3 w5 := (Ch.then (E := No) c4 c5 (by intro q h1 h2; rcases h2 with h2 | h2 <;> first | exact h2 | (exfalso; omega)))
  have b1_5 := b1_3.keep cc_3_5
  have sb_5 := sb_3.keep cc_3_5
  have CH_5 := CH_3.and cc_3_5
  exact ⟨(by omega), (by omega), (by omega), b1_5, sb_5, CH_5⟩
 ·
  refine Cr (Qk (Qk (Qz (Qa (Qe (Qb (Om (Qc rfl) rfl ?_)))))))
  refine Om (Qd rfl) rfl (Om (Qd rfl) rfl (Qf (Qa (Qp (Cz rfl rfl rfl (Ret.mk ?_))))))
  have e0 : cntS (b.steps.drop i) = 0 := by rw [List.drop_of_length_le (by omega)]; rfl
  exact ⟨by rw [show sm = cntS b.steps by omega], CH_3⟩
end Go.Tm
