/- Lemmas of this claim, joined by program. Walks of functions: machines made, loaded, read. Walks of functions: a plan's transforms. What a program compiled deep computes, in plain Lean: the order's transform. What a program compiled deep computes: the induction over the order. Every length up to 4096 has a plan: bounds on what compiling builds, reckoned by the kernel. Every length up to 4096 has a plan: bounds for the planner's choice, by a table that the kernel reckons. Conditions: each lemma names its own. -/
import Derived.Test.YtpfglkohcfjelaaGreatDoorC12
import Derived.Test.YtpfglkohcfjelaaGreatDoorC09
import Derived.KernelRfl
set_option linter.all false
namespace Go.Tm
set_option maxRecDepth 100000
open Go.RowKit Go.Proofs
theorem CR.sub {e : TypeId} {w : World} {r : Nat} {A : Option Addr} {l c : Nat} {xs : List CB} (h : CR e w r A l c xs) {i j : Nat} (h1 : i ≤ j) (h2 : j ≤ l) (hc : l ≤ c) : SlR (At r) w (if c = i then A else A.map (·.add (i * 1))) (j - i) 1 (((xs.drop i).take (j - i)).map cxV) := by
  have := SlR.sub (Ow.sl h) h1 h2 hc
  rw [← List.map_drop, ← List.map_take] at this
  exact this
theorem Ow.r_pos {w : World} {r : Nat} {e : TypeId} {sz : Nat} {A : Option Addr} {l c : Nat} {cs : List Value} (h : Ow w r e sz A l c cs) (hl : 0 < l) : 0 < r := by
  obtain ⟨g, cur, _, rfl, _⟩ := Ow.open' h hl
  omega
theorem cx_one (l : List CB) : (l.map cxV).all Value.oneCell' = true := by
  rw [List.all_eq_true]
  intro v hv
  obtain ⟨z, _, rfl⟩ := List.mem_map.1 hv
  rfl
theorem encB_pos (b : Bld) : 0 < (encB b).length := by
  have := uintB_ne b.steps.length
  rw [encB, List.length_append, List.length_append]; omega
def Fil0 : Fil := ⟨none, 0, 0, ⟨0, 0, 0, 0, 0, 0, 0⟩, 0, []⟩
theorem fil0_ok {w : World} {m r : Nat} (hr : 0 < r) : FilR w m r Fil0 := ⟨Ow.nil _ _ _, by show ¬ 0 = r; omega, by show ¬ 0 = m + 1; omega, by unfold SmS; decide, fun h => absurd h (by decide)⟩
theorem inf33w86 : Inf Tryz.prog 33 (.complex .f64 0 0) 1 16 := ⟨Tryz.t33, Tryz.type33, rfl, rfl, rfl⟩
theorem inf135w86 : Inf Tryz.prog 135 (.agg #[.int .i64 0, .int .i64 0, .int .i64 0, .int .i64 0, .int .i64 0, .int .i64 0, .int .i64 0]) 7 56 := ⟨Tryz.t135, Tryz.type135, rfl, rfl, rfl⟩
theorem bld209_0_1_2_3w86 {v0_0 v0_1 v0_2 v0_3 v0_4 v1 v2 v3 : Value} (h : [v1, v2, v3].all Value.oneCell' = true) (w : World) : (Instr.build 209 ([(0, .agg #[v0_0, v0_1, v0_2, v0_3, v0_4]), (1, v1), (2, v2), (3, v3)] : List (Nat × Value)).toArray).run Tryz.prog w = .ok (.agg #[v0_0, v0_1, v0_2, v0_3, v0_4, v1, v2, v3, .int .i64 0, .int .i64 0, .int .i64 0, .slice none 0 0, .int .i64 0, .int .i64 0, .int .i64 0, .int .i64 0, .int .i64 0, .int .i64 0, .int .i64 0]) w := by
  simp only [List.all_cons, Bool.and_eq_true, List.all_nil, and_true] at h
  have hv1 := oneCell_cells (v := v1) (by simp_all)
  have hv2 := oneCell_cells (v := v2) (by simp_all)
  have hv3 := oneCell_cells (v := v3) (by simp_all)
  have h1 := fill_set (fun i => ([(0, 5), (5, 1), (6, 1), (7, 1), (8, 1), (9, 1), (10, 1), (11, 1), (12, 7)] : List (Nat × Nat))[i]?) [(0, .agg #[v0_0, v0_1, v0_2, v0_3, v0_4]), (1, v1), (2, v2), (3, v3)] [.int .i64 0, .int .i64 0, .int .i64 0, .int .i64 0, .slice none 0 0, .string ⟨#[]⟩, .slice none 0 0, .int .i64 0, .int .i64 0, .int .i64 0, .int .i64 0, .slice none 0 0, .int .i64 0, .int .i64 0, .int .i64 0, .int .i64 0, .int .i64 0, .int .i64 0, .int .i64 0] (by simp [okF, agg_cells, hv1, hv2, hv3, Nat.beq, Nat.ble])
  simp [setF, agg_cells, hv1, hv2, hv3] at h1
  simp [Instr.build, Tryz.runUnderlying209, Tryz.zeroValue209, ς3, ς9, ς31, ς98, ς135, agg_cells, h1]
set_option maxHeartbeats 2000000 in
theorem m_New (b : Bld) (N : Nat) (ok : PrgG b N) (S : Nat → Prop) (A : Option Addr) (c : Nat) (w : World) (st : StT w) (sb : SlR S w A b.steps.length 7 (flatS b.steps)) (hG : 24 ≤ w.heap.size) (okb : okB b) (hSb : ∀ y, S y → y < w.heap.size) (hne : 1 ≤ b.steps.length) :
  Calls Tryz.prog 129 #[.agg #[.int .i64 b.ln, .int .i64 b.cl, .int .i64 b.i0, .int .i64 b.ou, .slice A b.steps.length c]] w (Ret (fun v w' => ∃ m r rs SA sc CA, v = .tuple #[.pointer (some ⟨m, 0, none⟩), .nilIface] ∧ MacG w' m r b N SA sc ⟨(encB b).toArray⟩ CA (cntS b.steps) 0 0 0 Fil0 (List.replicate N (0, 0)) ∧ SlR (At rs) w' SA b.steps.length 7 (flatS b.steps) ∧ (w.heap.size ≤ m ∧ w.heap.size < r ∧ w.heap.size < rs ∧ ¬ rs = r ∧ ¬ rs = m + 1) ∧ Ch No w w')) := by
 have hln := ok.ln; have hn1 := ok.n1; have hi0 := ok.i0; have hou := ok.ou; have hlen := ok.len; have hact := ok.act; have hcl := ok.cl
 have hdl0 := cntG_drop_le ok.cn 0; rw [List.drop_zero] at hdl0
 have hep := encB_pos b
 refine calls_of_VC (args := [.agg #[.int .i64 b.ln, .int .i64 b.cl, .int .i64 b.i0, .int .i64 b.ou, .slice A b.steps.length c]]) Tryz.func129 rfl Tryz.ntmps129 rfl (Qe (Qb (Oq (Cj rfl) rfl ?_)))
 rintro _ w1 ⟨p1, rfl, N1⟩
 have c1 := N1.ch
 have e1 := N1.p; have z1 := N1.size
 have b1 := Bk.new N1
 refine Om (Qd rfl) rfl (Om (Qd rfl) rfl (Qf (Qa (Qe (Qb (Om (Qr ι98 ς98 rfl rfl (b1.all' rfl)) rfl ?_))))))
 have st_1 := st.keep c1
 have sb_1 := sb.keep c1
 refine Oq (Qi Tryz.call164 rfl (c_Acts _ _ ok _ _ _ _ st_1 sb_1 (by omega))) rfl ?_
 rintro _ w2 ⟨rfl, c2⟩
 have z2 := c2.size
 refine Om (Qc rfl) rfl (Om (Qq rfl rfl) rfl (Om (Qq rfl rfl) rfl (Om (Qd rfl) rfl (Om (Qd rfl) rfl (Qf (Qa (Qe ?_)))))))
 refine Qe (Qb (Om (Qc rfl) rfl (Om (Cg υ28 rfl) rfl (Qf (Qa (Ca rfl (Qn ?_)))))))
 refine Qa (Qe (Qb ?_))
 have b1_2 := b1.keep c2
 refine Om (Qr ι98 ς98 rfl rfl (b1_2.all' rfl)) rfl ?_
 have st_2 := st_1.keep c2
 have sb_2 := sb_1.keep c2
 refine Oq (Qi Tryz.call165 rfl (steps_Encode b okb S _ _ _ st_2 sb_2 (fun y hy => by have := hSb y hy; omega) (by omega))) rfl ?_
 rintro _ w3 ⟨re3, eA3, ec3, rfl, en3, yre3, hel3, c3⟩
 have z3 := c3.size
 refine Om (Qc rfl) rfl (Om (Qq rfl rfl) rfl (Om (Qq rfl rfl) rfl (Om (Qd rfl) rfl (Om (Qd rfl) rfl (Qf (Qa (Qe ?_)))))))
 refine Qe (Qb (Om (Qc rfl) rfl (Om (Cg υ28 rfl) rfl (Qf (Qa (Ca rfl (Qn ?_)))))))
 refine Qa (Qe (Qb (Om (Qg υ98 rfl ς96 rfl rfl rfl) rfl ?_)))
 have b1_3 := b1_2.keep c3
 refine Om (Qh ι96 rfl (b1_3.cell rfl)) rfl ?_
 have sb_3 := sb_2.keep c3
 refine Oq (Cq (S := _) υ96 inf135w86 rfl (by decide) rfl rfl (Ow.nil _ _ _) sb_3 (flatS_one _) (fun h => absurd h (by omega)) (by omega) (by simp only [maxLen]; omega)) rfl ?_
 rintro _ w4 ⟨r4, A4, k4, rfl, o4, c4, q4⟩
 have z4 := c4.size
 have y4 := o4.lt
 refine Om (Qg υ98 rfl ς96 rfl rfl rfl) rfl ?_
 have b1_4 := b1_3.to c4
 refine Oz (Rh ς96 rfl rfl rfl rfl b1_4 rfl) rfl ?_
 intro _ w5 Z5
 have c5 := Z5.ch; have z5 := Z5.size
 have b1_5 := Bk.put Z5
 refine Qf (Qa (Qe (Ci 10 [(0, true), (1, true), (2, true), (3, true), (4, true), (6, true), (5, false), (7, true), (8, false), (9, true)] (fun w1 w' => Ch (No) w1 w') mixed (by kernel_rfl) (fun _ _ => Ch.refl _ _) ?_)))
 intro w6 D6
 have c6 := Ch.of_drew D6; have z6 := c6.size
 have sb_4 := sb_3.to c4 (by first | exact fun _ _ _ _ => id | (intro q h1 h2 hx h3; have := hSb q h2; omega))
 have sb_5 := sb_4.to c5 (by first | exact fun _ _ _ _ => id | (intro q h1 h2 hx h3; have := hSb q h2; omega))
 have sb_6 := sb_5.keep c6
 have b1_6 := b1_5.keep c6
 have en_4 := en3.to c4
 have en_5 := en_4.to c5
 have en_6 := en_5.keep c6
 have rs_5 := o4.to c5
 have rs_6 := rs_5.keep c6
 refine Hm (fun w' hS => Qr ι98 ς98 rfl rfl ((b1_6.keep hS).all' rfl)) rfl (Hm (fun w' hS => Qc rfl) rfl (Hm (fun w' hS => Rn.bytes_string υ172 υ5 υ9 rfl hep (en_6.sl.keep hS)) rfl (Hm (fun w' hS => Qg υ98 rfl ς3 rfl rfl rfl) rfl (Hm (fun w' hS => Qh ι3 rfl ((b1_6.keep hS).cell rfl)) rfl (Hm (fun w' hS => Qc rfl) rfl (Hq (Wk.mkC υ31 inf33w86 rfl rfl (by omega) (by omega) (by omega)) rfl ?_))))))
 rintro _ w7 ⟨p7, rfl, o7, c7, e7, z7⟩
 have RD_7 := (Ch.refl (No) w6).and c7
 refine ⟨RD_7, ?_⟩
 refine Hm (fun w' hS => Cl rfl (bld209_0_1_2_3w86 rfl)) rfl (Hq (Cj rfl) rfl ?_)
 rintro _ w8 ⟨p8, rfl, N8⟩
 have c8 := N8.ch
 have e8 := N8.p; have z8 := N8.size
 have b35 := Bk.new N8
 have RD_8 := RD_7.and c8
 refine ⟨RD_8, ?_⟩
 refine Hm (fun w' hS => Qd rfl) rfl (Cn (Om (Qd rfl) rfl (Qf (Qx (Qa (Qp (Cz rfl rfl rfl ?_)))))))
 refine Ret.mk ?_
 have hN : b.cl.toNat = N := by omega
 have row_8 := o7.keep c8
 have row9 := row_8; have bk9 := b35; rw [hN] at row9 bk9; rw [Nat.zero_add] at bk9
 have rs_8 := rs_6.keep (c7.trans c8)
 have rs9 := rs_8; rw [Nat.zero_add, List.nil_append] at rs9
 have yrs := Ow.r_pos rs9 (by omega)
 have CH_3 := (Ch.refl (No) w).and (c1.trans (c2.trans c3))
 have CH_4 : Ch (No) w w4 := CH_3.then c4
 have CH_5 : Ch (No) w w5 := CH_4.then c5
 have CH_8 := CH_5.and (c6.trans (c7.trans c8))
 exact ⟨_, _, _, _, _, _, rfl, ⟨bk9, row9, by omega, fil0_ok (by omega)⟩, rs9.sl, ⟨by omega, by omega, by omega, by omega, by omega⟩, CH_8⟩
set_option maxHeartbeats 1000000 in
theorem m_Load (m r : Nat) (b : Bld) (N : Nat) (SA : Option Addr) (sc : Nat) (bs : ByteArray) (CA : Option Addr) (ac dn st at_ : Int) (F : Fil) (xs : List CB) (w : World) (mr : MacG w m r b N SA sc bs CA ac dn st at_ F xs) (ok : PrgG b N) (SX : Nat → Prop) (X : Option Addr) (n xc : Nat) (ys : List CB) (hn : (n : Int) = b.ln) (sx : SlR SX w X n 1 (ys.map cxV)) (hX : ∀ q, SX q → ¬ MS m r q) :
  Calls Tryz.prog 132 #[.pointer (some ⟨m, 0, none⟩), .slice X n xc] w (Ret (fun v w' => v = .nilIface ∧ MacG w' m r b N SA sc bs CA ac 0 0 0 F ((List.replicate N (0, 0)).take b.i0.toNat ++ ys ++ (List.replicate N (0, 0)).drop (b.i0.toNat + n)) ∧ Ch (MS m r) w w')) := by
 obtain ⟨bk, row, ne, fil⟩ := id mr
 have yr := Ow.lt row; have ym := bk.lt; have fn1 := fil.n1; have fn2 := fil.n2; have fy := Ow.lt fil.ow
 have hln := ok.ln; have hn1 := ok.n1; have hi0 := ok.i0; have hou := ok.ou; have hcl := ok.cl
 refine calls_of_VC (args := [.pointer (some ⟨m, 0, none⟩), .slice X n xc]) Tryz.func132 rfl Tryz.ntmps132 rfl (Qe (Qb (Om (Qd rfl) rfl (Qf (Qa (Qe (Qe ?_)))))))
 refine Qb (Om (Qc rfl) rfl (Om (Ra υ31 rfl) rfl (Om (Qc rfl) rfl (Om (Ql rfl) rfl (Om (Qg υ209 rfl ς98 rfl rfl rfl) rfl (Om (Qg υ98 rfl ς3 rfl rfl rfl) rfl (Om (Qh ι3 rfl (bk.cell rfl)) rfl ?_)))))))
 refine Om (Rn.neq rfl rfl) rfl (Qf (Qa (Qj rfl (fun hc1 => ?_) (fun hc1 => ?_))))
 ·
  omega
 ·
  refine Qn (Qa (Qe (Qb (Om (Qc rfl) rfl (Om (Ql rfl) rfl (Om (Qg υ209 rfl ς31 rfl rfl rfl) rfl (Om (Qh ι31 rfl (bk.cell rfl)) rfl ?_)))))))
  refine Oz (Wk.clearC υ31 inf33w86 rfl row (by omega)) rfl ?_
  rintro _ w1 ⟨row1, c1, z1⟩
  have yr1 := Ow.lt row1
  have z1 := c1.size
  refine Qf (Qa (Qe (Ci 12 [(0, true), (1, true), (2, true), (3, true), (4, true), (5, true), (6, true), (7, true), (8, true), (9, true), (10, true), (11, false)] (fun w1 w' => Ch (At r) w1 w') mixed (by kernel_rfl) (fun _ _ => Ch.refl _ _) ?_)))
  intro w2 D2
  have c2 := Ch.of_drew D2; have z2 := c2.size
  have bk_1 := bk.to c1
  have bk_2 := bk_1.keep c2
  have row_2 := row1.keep c2
  have sx_1 := sx.to c1 (fun _ _ h2 _ h3 => hX _ h2 (by first | exact .inr h3 | exact .inl h3 | exact h3))
  have sx_2 := sx_1.keep c2
  refine Hm (fun w' hS => Qc rfl) rfl (Hm (fun w' hS => Ql rfl) rfl (Hm (fun w' hS => Qg υ209 rfl ς31 rfl rfl rfl) rfl (Hm (fun w' hS => Qh ι31 rfl ((bk_2.to hS).cell rfl)) rfl (Hm (fun w' hS => Qc rfl) rfl (Hm (fun w' hS => Ql rfl) rfl (Hm (fun w' hS => Qg υ209 rfl ς98 rfl rfl rfl) rfl (Hm (fun w' hS => Qg υ98 rfl ς3 rfl rfl rfl) rfl ?_)))))))
  refine Hm (fun w' hS => Qh ι3 rfl ((bk_2.to hS).cell rfl)) rfl (Hm (fun w' hS => Rn.sliceLo υ31 ς33 rfl rfl (by omega) (by omega) (by omega)) rfl (Hm (fun w' hS => Qc rfl) rfl (Hq (Wk.copyC υ31 inf33w86 rfl rfl row_2 sx_2 (by omega) (by omega)) rfl ?_)))
  rintro _ w3 ⟨rfl, row3, c3, z3⟩
  have yr3 := Ow.lt row3
  have z3 := c3.size
  have RD_3 : Ch (At r) w2 w3 := (Ch.refl (At r) w2).then c3
  refine ⟨RD_3, ?_⟩
  refine Cn (Qf (Qx (Qa (Qe (Qb (Om (Qc rfl) rfl (Om (Qc rfl) rfl ?_)))))))
  refine Om (Qc rfl) rfl (Om (Ql rfl) rfl (Om (Qg υ209 rfl ς3 rfl rfl rfl) rfl ?_))
  have bk_3 := bk_2.to c3
  refine Oz (Rh ς3 rfl rfl rfl rfl bk_3 rfl) rfl ?_
  intro _ w4 Z4
  have c4 := Z4.ch; have z4 := Z4.size
  have bk_4 := Bk.put Z4
  refine Om (Ql rfl) rfl (Om (Qg υ209 rfl ς3 rfl rfl rfl) rfl (Oz (Rh ς3 rfl rfl rfl rfl bk_4 rfl) rfl ?_))
  intro _ w5 Z5
  have c5 := Z5.ch; have z5 := Z5.size
  have bk_5 := Bk.put Z5
  refine Om (Ql rfl) rfl (Om (Qg υ209 rfl ς3 rfl rfl rfl) rfl (Oz (Rh ς3 rfl rfl rfl rfl bk_5 rfl) rfl ?_))
  intro _ w6 Z6
  have c6 := Z6.ch; have z6 := Z6.size
  have bk_6 := Bk.put Z6
  refine Qf (Qa (Qe (Qb (Om (Qd rfl) rfl (Qf (Qa (Qp ?_)))))))
  refine Qy rfl rfl (Ret.mk ?_)
  have row_4 := row3.to c4
  have row_5 := row_4.to c5
  have row_6 := row_5.to c6
  have fil_1 := fil.to c1
  have fil_2 := fil_1.keep c2
  have fil_3 := fil_2.to c3
  have fil_4 := fil_3.to c4
  have fil_5 := fil_4.to c5
  have fil_6 := fil_5.to c6
  have CH_1 : Ch (MS m r) w w1 := (Ch.refl (MS m r) w).then c1
  have CH_2 := CH_1.and c2
  have CH_3 : Ch (MS m r) w w3 := CH_2.then c3
  have CH_4 : Ch (MS m r) w w4 := CH_3.then c4
  have CH_5 : Ch (MS m r) w w5 := CH_4.then c5
  have CH_6 : Ch (MS m r) w w6 := CH_5.then c6
  exact ⟨rfl, ⟨bk_6, row_6, ne, fil_6⟩, CH_6⟩
set_option maxHeartbeats 1000000 in
theorem m_Out (m r : Nat) (b : Bld) (N : Nat) (SA : Option Addr) (sc : Nat) (bs : ByteArray) (CA : Option Addr) (ac st at_ : Int) (F : Fil) (xs : List CB) (w : World) (mr : MacG w m r b N SA sc bs CA ac ac st at_ F xs) (ok : PrgG b N) (hac : 0 ≤ ac ∧ ac ≤ 1000000000) :
  Calls Tryz.prog 135 #[.pointer (some ⟨m, 0, none⟩)] w (Ret (fun v w' => ∃ r' A' c', v = .tuple #[.slice A' b.ln.toNat c', .nilIface] ∧ CR 33 w' r' A' b.ln.toNat c' ((xs.drop b.ou.toNat).take b.ln.toNat) ∧ w.heap.size < r' ∧ Ch No w w')) := by
 obtain ⟨bk, row, ne, fil⟩ := id mr
 have yr := Ow.lt row; have ym := bk.lt; have fn1 := fil.n1; have fn2 := fil.n2; have fy := Ow.lt fil.ow
 have hln := ok.ln; have hn1 := ok.n1; have hi0 := ok.i0; have hou := ok.ou; have hcl := ok.cl
 refine calls_of_VC (args := [.pointer (some ⟨m, 0, none⟩)]) Tryz.func135 rfl Tryz.ntmps135 rfl (Qe (Qb (Om (Qd rfl) rfl (Om (Qd rfl) rfl (Qf (Qa (Qe ?_)))))))
 refine Qe (Qb (Om (Qc rfl) rfl (Oq (Qi Tryz.call133 rfl (m_Left _ _ _ _ _ _ _ _ _ _ _ _ _ bk (by omega) (by omega))) rfl ?_)))
 rintro _ w1 ⟨rfl, c1⟩
 have z1 := c1.size
 refine Om (Rb rfl rfl) rfl (Qf (Qa (Qj rfl (fun hc1 => ?_) (fun hc1 => ?_))))
 ·
  omega
 ·
  refine Qn (Qa (Qe (Qb (Om (Qc rfl) rfl (Om (Ql rfl) rfl (Om (Qg υ209 rfl ς98 rfl rfl rfl) rfl (Om (Qg υ98 rfl ς3 rfl rfl rfl) rfl ?_)))))))
  have bk_1 := bk.keep c1
  refine Om (Qh ι3 rfl (bk_1.cell rfl)) rfl (Om (Qd rfl) rfl (Qf (Qa (Qe (Ci 15 [(0, true), (1, true), (2, true), (3, true), (4, true), (5, true), (6, true), (7, true), (8, true), (9, true), (10, true), (11, true), (12, true), (13, false), (14, true)] (fun w1 w' => Ch (At 0) w1 w') mixed (by kernel_rfl) (fun _ _ => Ch.refl _ _) ?_)))))
  intro w2 D2
  have c2 := Ch.of_drew D2; have z2 := c2.size
  have bk_2 := bk_1.keep c2
  have row_2 := row.keep (c1.trans c2)
  refine Hm (fun w' hS => Qc rfl) rfl (Hm (fun w' hS => Ql rfl) rfl (Hm (fun w' hS => Qg υ209 rfl ς31 rfl rfl rfl) rfl (Hm (fun w' hS => Qh ι31 rfl ((bk_2.to hS).cell rfl)) rfl (Hm (fun w' hS => Qc rfl) rfl (Hm (fun w' hS => Qc rfl) rfl (Hm (fun w' hS => Qc rfl) rfl (Hm (fun w' hS => Ql rfl) rfl ?_)))))))
  refine Hm (fun w' hS => Qg υ209 rfl ς98 rfl rfl rfl) rfl (Hm (fun w' hS => Qg υ98 rfl ς3 rfl rfl rfl) rfl (Hm (fun w' hS => Qh ι3 rfl ((bk_2.to hS).cell rfl)) rfl ?_))
  refine Hm (fun w' hS => Ce rfl rfl (by rw [IntKind.wrap_i64]; omega)) rfl ?_
  refine Hm (fun w' hS => Rn.sliceLH υ31 ς33 rfl rfl rfl (by omega) (by omega) (by omega)) rfl ?_
  refine Hq (Cq (S := At r) υ31 inf33w86 rfl (by decide) rfl rfl (Ow.nil _ _ _) (CR.sub row_2 (i := b.ou.toNat) (j := (b.ou + b.ln).toNat) (by omega) (by omega) (Nat.le_refl _)) (cx_one _) (fun h => absurd h (by omega)) (by omega) (by simp only [maxLen]; omega)) rfl ?_
  rintro _ w3 ⟨r3, A3, k3, rfl, ou3, c3, q3⟩
  have z3 := c3.size
  have RD_3 : Ch (At 0) w2 w3 := (Ch.refl (At 0) w2).then c3
  refine ⟨RD_3, ?_⟩
  refine Hm (fun w' hS => Qd rfl) rfl (Cn (Om (Qd rfl) rfl (Qf (Qx (Qa (Qp (Cz rfl rfl rfl ?_)))))))
  refine Ret.mk ?_
  have hl : 0 + ((b.ou + b.ln).toNat - b.ou.toNat) = b.ln.toNat := by omega
  have ou9 := ou3; rw [hl, List.nil_append, show (b.ou + b.ln).toNat - b.ou.toNat = b.ln.toNat by omega] at ou9
  have yo := Ow.r_pos ou9 (by omega)
  have CH_2 := (Ch.refl (No) w).and (c1.trans c2)
  have CH_3 : Ch (No) w w3 := CH_2.then c3
  exact ⟨_, _, _, by rw [hl], ou9, by omega, CH_3⟩
end Go.Tm
namespace Go.Tm
set_option maxRecDepth 100000
open Go.RowKit Go.Proofs
def Upto (f : Cx → Cx) (ys zs : List CB) (j : Nat) : Prop := ∀ i, i < j → cx (zs.getD i (0, 0)) = f (cx (ys.getD i (0, 0)))
theorem set_getD {zs : List CB} {i j : Nat} {z d : CB} (hj : j < zs.length) : (zs.set j z).getD i d = if i = j then z else zs.getD i d := by
  simp only [List.getD, List.getElem?_set]
  by_cases h : j = i
  · subst h; simp [hj]
  · have : ¬ i = j := fun e => h e.symm
    simp [h, this]
theorem Upto.zero (f : Cx → Cx) (ys zs : List CB) : Upto f ys zs 0 := fun i h => absurd h (Nat.not_lt_zero i)
theorem Upto.step {f : Cx → Cx} {ys zs : List CB} {j : Nat} {z : CB} (h : Upto f ys zs j) (hj : j < zs.length) (hz : cx z = f (cx (ys.getD j (0, 0)))) : Upto f ys (zs.set j z) (j + 1) := by
  intro i hi
  rw [set_getD hj]
  by_cases e : i = j
  · subst e; rw [if_pos rfl]; exact hz
  · rw [if_neg e]; exact h i (by omega)
theorem Upto.all {f : Cx → Cx} {ys zs : List CB} {n : Nat} (h : Upto f ys zs n) (h1 : ys.length = n) (h2 : zs.length = n) : zs.map cx = (ys.map cx).map f := by
  apply List.ext_getElem
  · simp [h1, h2]
  · intro i hi hi2
    simp only [List.length_map] at hi
    have := h i (by omega)
    simp only [List.getD, List.getElem?_eq_getElem hi, List.getElem?_eq_getElem (show i < ys.length by omega), Option.getD_some] at this
    simpa using this
def loadC (N off : Nat) (zs : List Cx) : List Cx := (List.replicate N z0).take off ++ zs ++ (List.replicate N z0).drop (off + zs.length)
theorem load_map (N off n : Nat) (ys : List CB) (h : ys.length = n) : ((List.replicate N (0, 0)).take off ++ ys ++ (List.replicate N (0, 0)).drop (off + n)).map cx = loadC N off (ys.map cx) := by
  subst h
  simp [loadC, z0]
def fwdG (b : Bld) (zs : List Cx) : List Cx := ((runG b.steps (loadC b.cl.toNat b.i0.toNat zs)).drop b.ou.toNat).take b.ln.toNat
def invG (b : Bld) (zs : List Cx) : List Cx := ((fwdG b (zs.map conjC)).map conjC).map fun z => overC z b.ln
theorem inf33w87 : Inf Tryz.prog 33 (.complex .f64 0 0) 1 16 := ⟨Tryz.t33, Tryz.type33, rfl, rfl, rfl⟩
theorem inf135w87 : Inf Tryz.prog 135 (.agg #[.int .i64 0, .int .i64 0, .int .i64 0, .int .i64 0, .int .i64 0, .int .i64 0, .int .i64 0]) 7 56 := ⟨Tryz.t135, Tryz.type135, rfl, rfl, rfl⟩
theorem bld161_0_1_2w87 {v0 v1 v2 : Value} (h : [v0, v1, v2].all Value.oneCell' = true) (w : World) : (Instr.build 161 ([(0, v0), (1, v1), (2, v2)] : List (Nat × Value)).toArray).run Tryz.prog w = .ok (.agg #[v0, v1, v2]) w := by
  simp only [List.all_cons, Bool.and_eq_true, List.all_nil, and_true] at h
  have hv0 := oneCell_cells (v := v0) (by simp_all)
  have hv1 := oneCell_cells (v := v1) (by simp_all)
  have hv2 := oneCell_cells (v := v2) (by simp_all)
  have h1 := fill_set (fun i => ([(0, 1), (1, 1), (2, 1)] : List (Nat × Nat))[i]?) [(0, v0), (1, v1), (2, v2)] [.pointer none, .bool false, .pointer none] (by simp [okF, agg_cells, hv0, hv1, hv2, Nat.beq, Nat.ble])
  simp [setF, agg_cells, hv0, hv1, hv2] at h1
  simp [Instr.build, Tryz.runUnderlying161, Tryz.zeroValue161, ς4, Tryz.sizeOf26, ς155, agg_cells, h1]
theorem p_Length (lo hi p : Nat) (P : Pln) (w : World) (pl : PlnR lo hi w p P) (hh : hi ≤ w.heap.size)  :
  Calls Tryz.prog 60 #[.pointer (some ⟨p, 0, none⟩)] w (Ret (fun v w' => v = .int .i64 P.b.ln ∧ w = w')) := by
 obtain ⟨oA, oC, sA, sC, bp, pk, ps⟩ := id pl.ex; have hpa := pl.at_
 refine calls_of_VC (args := [.pointer (some ⟨p, 0, none⟩)]) Tryz.func60 rfl Tryz.ntmps60 rfl (Qe (Qb (Om (Qd rfl) rfl (Qf (Qa (Qe (Qb ?_)))))))
 refine Om (Qc rfl) rfl (Om (Ql rfl) rfl (Om (Qg Tryz.underlying131 rfl ς98 rfl rfl rfl) rfl (Om (Qg υ98 rfl ς3 rfl rfl rfl) rfl (Om (Qh ι3 rfl (bp.cell rfl)) rfl (Om (Qd rfl) rfl (Qf (Qa ?_)))))))
 refine Qp (Qy rfl rfl (Ret.mk ?_))
 exact ⟨rfl, rfl⟩
theorem p_Program (lo hi p : Nat) (P : Pln) (w : World) (pl : PlnR lo hi w p P) (hh : hi ≤ w.heap.size) (hne : 1 ≤ P.b.steps.length) (hlen : P.b.steps.length ≤ 65536) :
  Calls Tryz.prog 130 #[.pointer (some ⟨p, 0, none⟩)] w (Ret (fun v w' => ∃ rs A c, v = .agg #[.int .i64 P.b.ln, .int .i64 P.b.cl, .int .i64 P.b.i0, .int .i64 P.b.ou, .slice A P.b.steps.length c] ∧ SlR (At rs) w' A P.b.steps.length 7 (flatS P.b.steps) ∧ w.heap.size < rs ∧ rs ≤ w'.heap.size ∧ Ch No w w')) := by
 obtain ⟨oA, oC, sA, sC, bp, pk, ps⟩ := id pl.ex; have hpa := pl.at_
 refine calls_of_VC (args := [.pointer (some ⟨p, 0, none⟩)]) Tryz.func130 rfl Tryz.ntmps130 rfl (Qe (Qb (Oq (Cc ζ98) rfl ?_)))
 rintro _ w1 ⟨p1, rfl, N1⟩
 have c1 := N1.ch
 have e1 := N1.p; have z1 := N1.size
 have b2 := Bk.new N1
 refine Qf (Qa (Qe (Qb (Om (Qc rfl) rfl (Om (Ql rfl) rfl (Om (Qg Tryz.underlying131 rfl ς98 rfl rfl rfl) rfl ?_))))))
 have bp_1 := bp.keep c1
 refine Om (Qr ι98 ς98 rfl rfl (bp_1.part 5 rfl)) rfl (Oq (Cc ζ98) rfl ?_)
 rintro _ w2 ⟨p2, rfl, N2⟩
 have c2 := N2.ch
 have e2 := N2.p; have z2 := N2.size
 have b3 := Bk.new N2
 refine Oz (Cf ς98 rfl rfl rfl rfl b3 (Nat.le_of_ble_eq_true rfl)) rfl ?_
 intro _ w3 Z3
 have c3 := Z3.ch; have z3 := Z3.size
 have b3_3 := Bk.put Z3
 refine Qf (Qa (Qe (Qb (Om (Qg υ98 rfl ς96 rfl rfl rfl) rfl (Om (Qh ι96 rfl (b3_3.cell rfl)) rfl ?_)))))
 have cc_0_3 : Ch No w w3 := (Ch.then (E := No) (c1.and c2) c3 (by intro q h1 h2; rcases h2 with h2 | h2 <;> first | exact h2 | (exfalso; omega)))
 have ps_3 := ps.keep cc_0_3
 refine Oq (Cq (S := _) υ96 inf135w87 rfl (by decide) rfl rfl (Ow.nil _ _ _) ps_3 (flatS_one _) (fun h => absurd h (by omega)) (by omega) (by simp only [maxLen]; omega)) rfl ?_
 rintro _ w4 ⟨r4, A4, k4, rfl, o4, c4, q4⟩
 have z4 := c4.size
 have y4 := o4.lt
 refine Om (Qg υ98 rfl ς96 rfl rfl rfl) rfl ?_
 have b3_4 := b3_3.to c4
 refine Oz (Rh ς96 rfl rfl rfl rfl b3_4 rfl) rfl ?_
 intro _ w5 Z5
 have c5 := Z5.ch; have z5 := Z5.size
 have b3_5 := Bk.put Z5
 refine Qf (Qa (Qe (Qb (Om (Qr ι98 ς98 rfl rfl (b3_5.all' rfl)) rfl ?_))))
 have cc_1_3 : Ch No w1 w3 := (Ch.then (E := No) c2 c3 (by intro q h1 h2; rcases h2 with h2 | h2 <;> first | exact h2 | (exfalso; omega)))
 have b2_3 := b2.keep cc_1_3
 have b2_4 := b2_3.to c4
 have b2_5 := b2_4.to c5
 refine Oz (Cf ς98 rfl rfl rfl rfl b2_5 (Nat.le_of_ble_eq_true rfl)) rfl ?_
 intro _ w6 Z6
 have c6 := Z6.ch; have z6 := Z6.size
 have b2_6 := Bk.put Z6
 refine Qf (Qa (Qp (Rk rfl rfl ι98 ς98 rfl (b2_6.all' rfl) (Ret.mk ?_))))
 have rs_5 := o4.to c5
 have rs_6 := rs_5.to c6
 have rs9 := rs_6; rw [Nat.zero_add, List.nil_append] at rs9
 have yrs := Ow.r_pos rs9 (by omega); have yr2 := rs9.lt
 have CH_3 := (Ch.refl (No) w).and cc_0_3
 have CH_4 : Ch (No) w w4 := CH_3.then c4
 have CH_5 : Ch (No) w w5 := CH_4.then c5
 have CH_6 : Ch (No) w w6 := CH_5.then c6
 exact ⟨_, _, _, congrArg (fun l => Value.agg #[.int .i64 P.b.ln, .int .i64 P.b.cl, .int .i64 P.b.i0, .int .i64 P.b.ou, .slice A4 l k4]) (Nat.zero_add P.b.steps.length), rs9.sl, by omega, by omega, CH_6⟩
theorem p_conj (SX : Nat → Prop) (X : Option Addr) (n xc : Nat) (ys : List CB) (w : World) (sx : SlR SX w X n 1 (ys.map cxV)) (hX : ∀ q, SX q → q < w.heap.size) (hn : n ≤ 16384)  :
  Calls Tryz.prog 131 #[.slice X n xc] w (Ret (fun v w' => ∃ q zs, v = .slice (some ⟨q, 0, none⟩) n n ∧ CR 33 w' (q + 1) (some ⟨q, 0, none⟩) n n zs ∧ zs.map cx = (ys.map cx).map conjC ∧ w.heap.size ≤ q ∧ Ch No w w')) := by
 have hyl : ys.length = n := by have := sx.len; simpa using this
 refine calls_of_VC (args := [.slice X n xc]) Tryz.func131 rfl Tryz.ntmps131 rfl (Qe (Qb (Om (Qd rfl) rfl (Qf (Qa (Qe (Qb ?_)))))))
 refine Om (Qc rfl) rfl (Om (Ra υ31 rfl) rfl (Oq (Wk.mkC υ31 inf33w87 rfl rfl (by omega) (by omega) (by omega)) rfl ?_))
 rintro _ w1 ⟨p1, rfl, o1, c1, e1, z1⟩
 refine Om (Qd rfl) rfl (Qf (Qa (Qe (Qe (Qb (Om (Qc rfl) rfl (Om (Ra υ31 rfl) rfl ?_)))))))
 refine Om (Qc rfl) rfl (Qf (Qa (Qw ?_)))
 have sx_1 := sx.keep c1
 have CH_1 := (Ch.refl (No) w).and c1
 refine Cp (σ := Nat × List CB) (fun (j, zs) => [(3, .slice (some ⟨p1, 0, none⟩) n n), (9, .slice X n xc), (10, .int .i64 n), (11, .int .i64 j)]) (fun (j, zs) w' => j ≤ n ∧ Upto conjC ys zs j ∧ w1.heap.size ≤ w'.heap.size ∧ CR 33 w' (p1 + 1) (some ⟨p1, 0, none⟩) n n zs ∧ SlR SX w' X n 1 (ys.map cxV) ∧ Ch (No) w w') (fun (j, zs) => n - j) (0, List.replicate n (0, 0)) ?_ ⟨rfl, rfl, rfl, rfl, trivial⟩ ?_
 · exact ⟨(by omega), (Upto.zero _ _ _), (Nat.le_refl _), o1, sx_1, CH_1⟩
 rintro ⟨j, zs⟩ w2 ⟨hj, hu, hsz2, row_2, sx_2, CH_2⟩
 show VC _ _ _ _ [(3, .slice (some ⟨p1, 0, none⟩) n n), (9, .slice X n xc), (10, .int .i64 n), (11, .int .i64 j)] _
 have hzl := CR.len row_2
 refine Qe (Qb (Om (Cs rfl rfl) rfl (Qf (Qa (Qe (Qj rfl (fun hc1 => ?_) (fun hc1 => ?_)))))))
 ·
  refine Qn (Qa (Qe (Qw (Qe (Qb (Om (Qc rfl) rfl (Om (Cb υ31 ς33 rfl rfl (sx_2.ne (by omega)) (by omega) (by omega)) rfl ?_)))))))
  refine Om (Qh ι33 rfl (sx_2.getC (by omega) (by omega))) rfl (Om (Qd rfl) rfl (Om (Qd rfl) rfl (Qf (Qa (Qb (Om (Qc rfl) rfl (Om (Qc rfl) rfl ?_)))))))
  refine Om (Qc rfl) rfl (Oq (Qi Tryz.call78 rfl (cplx_Conj _ _ _)) rfl ?_)
  rintro _ w3 ⟨p3, q3, rfl, F3, c3⟩
  have z3 := c3.size
  have row_3 := row_2.keep c3
  refine Om (Cb υ31 ς33 rfl rfl (row_3.sl.ne (by omega)) (by omega) (by omega)) rfl (Oz (Rl ς33 rfl rfl (by omega) row_3) rfl ?_)
  rintro _ w4 ⟨o4, c4, z4⟩
  have y4 := o4.lt
  refine Qf (Qo (Qa (Qb ?_)))
  refine Om (Ce rfl rfl (by rw [IntKind.wrap_i64]; omega)) rfl ?_
  refine Om (Qc rfl) rfl (Qf ?_)
  refine Ck (j + 1, zs.set j (p3, q3)) (by first | omega | (dsimp only; omega)) ?_ ⟨rfl, rfl, rfl, rfl, trivial⟩
  have sx_3 := sx_2.keep c3
  have sx_4 := sx_3.to c4 (by first | exact fun _ _ _ _ => id | (intro q h1 h2 hx h3; have := hX q h2; omega))
  have CH_3 := CH_2.and c3
  have CH_4 : Ch (No) w w4 := CH_3.then c4
  exact ⟨(by omega), (hu.step (by omega) (by rw [F3, Int.toNat_natCast])), (by omega), o4, sx_4, CH_4⟩
 ·
  refine Cr (Qk (Qk (Qz (Qa (Qe (Qb (Om (Qc rfl) rfl ?_)))))))
  refine Om (Qd rfl) rfl (Qf (Qa (Qp (Qy rfl rfl (Ret.mk ?_)))))
  have e : j = n := by omega
  rw [e] at hu
  exact ⟨_, _, rfl, row_2, hu.all hyl hzl, by omega, CH_2⟩
set_option maxHeartbeats 1000000 in
theorem p_Begin0 (lo hi p : Nat) (P : Pln) (SX : Nat → Prop) (X : Option Addr) (n xc : Nat) (ys : List CB) (w : World) (sx : SlR SX w X n 1 (ys.map cxV)) (hX : ∀ q, SX q → q < w.heap.size) (pl : PlnR lo hi w p P) (hh : hi ≤ w.heap.size) (N : Nat) (ok : PrgG P.b N) (okb : okB P.b) (hne : 1 ≤ P.b.steps.length) (hn : (n : Int) = P.b.ln) (st : StT w) (hG : 24 ≤ w.heap.size)  :
  Calls Tryz.prog 93 #[.pointer (some ⟨p, 0, none⟩), .slice X n xc, .bool false] w (Ret (fun v w' => ∃ q m r rs SA sc CA xs, v = .tuple #[.pointer (some ⟨q, 0, none⟩), .nilIface] ∧ Bk w' q #[.pointer (some ⟨p, 0, none⟩), .bool false, .pointer (some ⟨m, 0, none⟩)] 161 ∧ MacG w' m r P.b N SA sc ⟨(encB P.b).toArray⟩ CA (cntS P.b.steps) 0 0 0 Fil0 xs ∧ xs.map cx = loadC N P.b.i0.toNat (ys.map cx) ∧ SlR (At rs) w' SA P.b.steps.length 7 (flatS P.b.steps) ∧ (w.heap.size ≤ q ∧ w.heap.size ≤ m ∧ w.heap.size < r ∧ w.heap.size < rs ∧ ¬ rs = r ∧ ¬ rs = m + 1 ∧ ¬ q = m ∧ ¬ r = q + 1) ∧ Ch No w w')) := by
 have hln := ok.ln; have hn1 := ok.n1; have hcl := ok.cl; have hlen := ok.len
 have hyl : ys.length = n := by have := sx.len; simpa using this
 refine calls_of_VC (args := [.pointer (some ⟨p, 0, none⟩), .slice X n xc, .bool false]) Tryz.func93 rfl Tryz.ntmps93 rfl (Qe (Qb (Om (Qd rfl) rfl (Om (Qd rfl) rfl (Qf (Qa (Qe ?_)))))))
 refine Qe (Qb (Om (Qc rfl) rfl (Om (Ra υ31 rfl) rfl (Om (Qc rfl) rfl (Oq (Qi Tryz.call60 rfl (p_Length _ _ _ _ _ pl (by omega))) rfl ?_)))))
 rintro _ _ ⟨rfl, rfl⟩
 refine Om (Rn.neq rfl rfl) rfl (Qf (Qa (Qj rfl (fun hc1 => ?_) (fun hc1 => ?_))))
 ·
  omega
 ·
  refine Qn (Qa (Qe (Qb (Om (Qc rfl) rfl (Oq (Qi Tryz.call130 rfl (p_Program _ _ _ _ _ pl (by omega) hne hlen)) rfl ?_)))))
  rintro _ w1 ⟨r1, A1, k1, rfl, pg1, yr1, yr21, c1⟩
  have z1 := c1.size
  have st_1 := st.keep c1
  refine Oq (Qi Tryz.call129 rfl (m_New _ _ ok _ _ _ _ st_1 pg1 (by omega) okb (fun y hy => by omega) hne)) rfl ?_
  rintro _ w2 ⟨m2, r2, rs2, sA2, sc2, cA2, rfl, mac2, ss2, hb2, c2⟩
  have ym2 := mac2.bk.lt; have yr2 := Ow.lt mac2.row
  have z2 := c2.size
  refine Om (Qc rfl) rfl (Om (Qq rfl rfl) rfl (Om (Qq rfl rfl) rfl (Om (Qd rfl) rfl (Om (Qd rfl) rfl (Qf (Qa (Qe ?_)))))))
  refine Qe (Qb (Om (Qc rfl) rfl (Om (Cg υ28 rfl) rfl (Qf (Qa (Ca rfl (Qn ?_)))))))
  refine Qa (Qe (Qe (Qb (Om (Qc rfl) rfl (Qf (Qa (Ca rfl ?_)))))))
  refine Qn (Qa (Qe (Qe (Qb (Om (Qc rfl) rfl (Om (Qc rfl) rfl ?_))))))
  have sx_2 := sx.keep (c1.trans c2)
  refine Oq (Qi Tryz.call132 rfl (m_Load _ _ _ _ _ _ _ _ _ _ _ _ _ _ _ mac2 ok _ _ n _ _ hn sx_2 (fun q hq hm => by have := hX q hq; omega))) rfl ?_
  rintro _ w3 ⟨rfl, mac3, c3⟩
  have z3 := c3.size
  refine Om (Qd rfl) rfl (Qf (Qa (Qe (Qb (Om (Qc rfl) rfl (Om (Cg υ28 rfl) rfl (Qf ?_)))))))
  refine Qa (Ca rfl (Qn (Qa (Qe (Qb (Om (Qc rfl) rfl (Om (Qc rfl) rfl ?_)))))))
  refine Om (Qc rfl) rfl (Om (Cl rfl (bld161_0_1_2w87 rfl)) rfl (Oq (Cj rfl) rfl ?_))
  rintro _ w4 ⟨p4, rfl, N4⟩
  have c4 := N4.ch
  have e4 := N4.p; have z4 := N4.size
  have b39 := Bk.new N4
  refine Om (Qd rfl) rfl (Om (Qd rfl) rfl (Qf (Qa (Qp (Cz rfl rfl rfl (Ret.mk ?_))))))
  obtain ⟨hb1, hb2, hb3, hb4, hb5⟩ := hb2
  have mac_4 := mac3.keep c4
  have ss_3 := ss2.to c3
  have ss_4 := ss_3.keep c4
  have CH_2 := (Ch.refl (No) w).and (c1.trans c2)
  have CH_3 : Ch (No) w w3 := CH_2.then c3
  have CH_4 := CH_3.and c4
  exact ⟨_, _, _, _, _, _, _, _, rfl, b39, mac_4, load_map _ _ _ _ hyl, ss_4, ⟨by omega, by omega, by omega, by omega, by omega, by omega, by omega, by omega⟩, CH_4⟩
set_option maxHeartbeats 1000000 in
theorem p_Begin1 (lo hi p : Nat) (P : Pln) (SX : Nat → Prop) (X : Option Addr) (n xc : Nat) (ys : List CB) (w : World) (sx : SlR SX w X n 1 (ys.map cxV)) (hX : ∀ q, SX q → q < w.heap.size) (pl : PlnR lo hi w p P) (hh : hi ≤ w.heap.size) (N : Nat) (ok : PrgG P.b N) (okb : okB P.b) (hne : 1 ≤ P.b.steps.length) (hn : (n : Int) = P.b.ln) (st : StT w) (hG : 24 ≤ w.heap.size)  :
  Calls Tryz.prog 93 #[.pointer (some ⟨p, 0, none⟩), .slice X n xc, .bool true] w (Ret (fun v w' => ∃ q m r rs SA sc CA xs, v = .tuple #[.pointer (some ⟨q, 0, none⟩), .nilIface] ∧ Bk w' q #[.pointer (some ⟨p, 0, none⟩), .bool true, .pointer (some ⟨m, 0, none⟩)] 161 ∧ MacG w' m r P.b N SA sc ⟨(encB P.b).toArray⟩ CA (cntS P.b.steps) 0 0 0 Fil0 xs ∧ xs.map cx = loadC N P.b.i0.toNat ((ys.map cx).map conjC) ∧ SlR (At rs) w' SA P.b.steps.length 7 (flatS P.b.steps) ∧ (w.heap.size ≤ q ∧ w.heap.size ≤ m ∧ w.heap.size < r ∧ w.heap.size < rs ∧ ¬ rs = r ∧ ¬ rs = m + 1 ∧ ¬ q = m ∧ ¬ r = q + 1) ∧ Ch No w w')) := by
 have hln := ok.ln; have hn1 := ok.n1; have hcl := ok.cl; have hlen := ok.len
 have hyl : ys.length = n := by have := sx.len; simpa using this
 refine calls_of_VC (args := [.pointer (some ⟨p, 0, none⟩), .slice X n xc, .bool true]) Tryz.func93 rfl Tryz.ntmps93 rfl (Qe (Qb (Om (Qd rfl) rfl (Om (Qd rfl) rfl (Qf (Qa (Qe ?_)))))))
 refine Qe (Qb (Om (Qc rfl) rfl (Om (Ra υ31 rfl) rfl (Om (Qc rfl) rfl (Oq (Qi Tryz.call60 rfl (p_Length _ _ _ _ _ pl (by omega))) rfl ?_)))))
 rintro _ _ ⟨rfl, rfl⟩
 refine Om (Rn.neq rfl rfl) rfl (Qf (Qa (Qj rfl (fun hc1 => ?_) (fun hc1 => ?_))))
 ·
  omega
 ·
  refine Qn (Qa (Qe (Qb (Om (Qc rfl) rfl (Oq (Qi Tryz.call130 rfl (p_Program _ _ _ _ _ pl (by omega) hne hlen)) rfl ?_)))))
  rintro _ w1 ⟨r1, A1, k1, rfl, pg1, yr1, yr21, c1⟩
  have z1 := c1.size
  have st_1 := st.keep c1
  refine Oq (Qi Tryz.call129 rfl (m_New _ _ ok _ _ _ _ st_1 pg1 (by omega) okb (fun y hy => by omega) hne)) rfl ?_
  rintro _ w2 ⟨m2, r2, rs2, sA2, sc2, cA2, rfl, mac2, ss2, hb2, c2⟩
  have ym2 := mac2.bk.lt; have yr2 := Ow.lt mac2.row
  have z2 := c2.size
  refine Om (Qc rfl) rfl (Om (Qq rfl rfl) rfl (Om (Qq rfl rfl) rfl (Om (Qd rfl) rfl (Om (Qd rfl) rfl (Qf (Qa (Qe ?_)))))))
  refine Qe (Qb (Om (Qc rfl) rfl (Om (Cg υ28 rfl) rfl (Qf (Qa (Ca rfl (Qn ?_)))))))
  refine Qa (Qe (Qe (Qb (Om (Qc rfl) rfl (Qf (Qa (Cw rfl ?_)))))))
  refine Qb (Om (Qc rfl) rfl ?_)
  have sx_2 := sx.keep (c1.trans c2)
  refine Oq (Qi Tryz.call131 rfl (p_conj _ _ _ _ _ _ sx_2 (fun q hq => by have := hX q hq; omega) (by omega))) rfl ?_
  rintro _ w3 ⟨q3, zs3, rfl, cj3, hz3, e3, c3⟩
  have ycj3 := Ow.lt cj3
  have z3 := c3.size
  refine Om (Qd rfl) rfl (Qf (Qa (Qe (Qe (Qb (Om (Qc rfl) rfl (Om (Qc rfl) rfl ?_)))))))
  have mac_3 := mac2.keep c3
  refine Oq (Qi Tryz.call132 rfl (m_Load _ _ _ _ _ _ _ _ _ _ _ _ _ _ _ mac_3 ok _ _ n _ _ hn cj3.sl (fun q hq hm => by omega))) rfl ?_
  rintro _ w4 ⟨rfl, mac4, c4⟩
  have z4 := c4.size
  refine Om (Qd rfl) rfl (Qf (Qa (Qe (Qb (Om (Qc rfl) rfl (Om (Cg υ28 rfl) rfl (Qf ?_)))))))
  refine Qa (Ca rfl (Qn (Qa (Qe (Qb (Om (Qc rfl) rfl (Om (Qc rfl) rfl ?_)))))))
  refine Om (Qc rfl) rfl (Om (Cl rfl (bld161_0_1_2w87 rfl)) rfl (Oq (Cj rfl) rfl ?_))
  rintro _ w5 ⟨p5, rfl, N5⟩
  have c5 := N5.ch
  have e5 := N5.p; have z5 := N5.size
  have b39 := Bk.new N5
  refine Om (Qd rfl) rfl (Om (Qd rfl) rfl (Qf (Qa (Qp (Cz rfl rfl rfl (Ret.mk ?_))))))
  obtain ⟨hb1, hb2, hb3, hb4, hb5⟩ := hb2
  have mac_5 := mac4.keep c5
  have ss_3 := ss2.keep c3
  have ss_4 := ss_3.to c4
  have ss_5 := ss_4.keep c5
  have CH_3 := (Ch.refl (No) w).and (c1.trans (c2.trans c3))
  have CH_4 : Ch (No) w w4 := CH_3.then c4
  have CH_5 := CH_4.and c5
  exact ⟨_, _, _, _, _, _, _, _, rfl, b39, mac_5, (by rw [load_map _ _ _ _ (CR.len cj3), hz3]), ss_5, ⟨by omega, by omega, by omega, by omega, by omega, by omega, by omega, by omega⟩, CH_5⟩
theorem r_Left (q p m r : Nat) (b : Bld) (N : Nat) (SA : Option Addr) (sc : Nat) (bs : ByteArray) (CA : Option Addr) (ac dn sn at_ : Int) (F : Fil) (xs : List CB) (w : World) (I : Bool) (rb : Bk w q #[.pointer (some ⟨p, 0, none⟩), .bool I, .pointer (some ⟨m, 0, none⟩)] 161) (mac : MacG w m r b N SA sc bs CA ac dn sn at_ F xs) (hac : 0 ≤ ac ∧ ac ≤ 1000000000) (hdn : 0 ≤ dn ∧ dn ≤ 1000000000) :
  Calls Tryz.prog 94 #[.pointer (some ⟨q, 0, none⟩)] w (Ret (fun v w' => v = .int .i64 (ac - dn) ∧ Ch No w w')) := by
 refine calls_of_VC (args := [.pointer (some ⟨q, 0, none⟩)]) Tryz.func94 rfl Tryz.ntmps94 rfl (Qe (Qb (Om (Qd rfl) rfl (Qf (Qa (Qe (Qb ?_)))))))
 refine Om (Qc rfl) rfl (Om (Ql rfl) rfl (Om (Qg υ161 rfl ς155 rfl rfl rfl) rfl (Om (Qh ι155 rfl (rb.cell rfl)) rfl (Oq (Qi Tryz.call133 rfl (m_Left _ _ _ _ _ _ _ _ _ _ _ _ _ mac.bk (by omega) (by omega))) rfl ?_))))
 rintro _ w1 ⟨rfl, c1⟩
 have z1 := c1.size
 refine Om (Qd rfl) rfl (Qf (Qa (Qp (Qy rfl rfl (Ret.mk ?_)))))
 have CH_1 := (Ch.refl (No) w).and c1
 exact ⟨rfl, CH_1⟩
theorem r_Do (q p m r : Nat) (b : Bld) (N : Nat) (SA : Option Addr) (sc : Nat) (bs : ByteArray) (CA : Option Addr) (ac : Int) (F : Fil) (xs : List CB) (w : World) (I : Bool) (rb : Bk w q #[.pointer (some ⟨p, 0, none⟩), .bool I, .pointer (some ⟨m, 0, none⟩)] 161) (mac : MacG w m r b N SA sc bs CA ac 0 0 0 F xs) (hN : N ≤ 1000000) (hac : ac = cntS b.steps) (hac1 : 1 ≤ ac) (hac2 : ac ≤ 100000000) (hok : ∀ s ∈ b.steps, StepG s N) (hl : b.steps.length ≤ 1000000) (S : Nat → Prop) (hS : ∀ q, S q → ¬ MS m r q) (ss : SlR S w SA b.steps.length 7 (flatS b.steps)) (z : Int) (hz : ac = z) :
  Calls Tryz.prog 95 #[.pointer (some ⟨q, 0, none⟩), .int .i64 z] w (Ret (fun v w' => v = .tuple #[.int .i64 ac, .nilIface] ∧ ∃ F ys, MacG w' m r b N SA sc bs CA ac ac b.steps.length 0 F ys ∧ ys.map cx = runG b.steps (xs.map cx) ∧ Ch (MS m r) w w')) := by
 refine calls_of_VC (args := [.pointer (some ⟨q, 0, none⟩), .int .i64 z]) Tryz.func95 rfl Tryz.ntmps95 rfl ?_
 subst hz
 refine Qe (Qb (Om (Qd rfl) rfl (Om (Qd rfl) rfl (Qf (Qa (Qe (Qb ?_)))))))
 refine Om (Qc rfl) rfl (Om (Ql rfl) rfl (Om (Qg υ161 rfl ς155 rfl rfl rfl) rfl (Om (Qh ι155 rfl (rb.cell rfl)) rfl (Om (Qc rfl) rfl (Oq (Qi Tryz.call134 rfl (mG_Run m r b N SA sc bs CA ac _ xs _ mac (by omega) hac hac1 hac2 hok hl S hS ss)) rfl ?_)))))
 rintro _ w1 ⟨rfl, F1, ys1, mac1, hy1, c1⟩
 have z1 := c1.size
 refine Om (Qq rfl rfl) rfl (Om (Qq rfl rfl) rfl (Om (Qd rfl) rfl (Om (Qd rfl) rfl (Qf (Qa (Qp (Cz rfl rfl rfl ?_)))))))
 refine Ret.mk ?_
 have CH_1 : Ch (MS m r) w w1 := (Ch.refl (MS m r) w).then c1
 exact ⟨rfl, _, _, mac1, hy1, CH_1⟩
set_option maxHeartbeats 1000000 in
theorem r_Result0 (q p m r : Nat) (b : Bld) (N : Nat) (SA : Option Addr) (sc : Nat) (bs : ByteArray) (CA : Option Addr) (ac : Int) (F : Fil) (xs : List CB) (w : World) (rb : Bk w q #[.pointer (some ⟨p, 0, none⟩), .bool false, .pointer (some ⟨m, 0, none⟩)] 161) (mac : MacG w m r b N SA sc bs CA ac ac b.steps.length 0 F xs) (ok : PrgG b N) (hac : 0 ≤ ac ∧ ac ≤ 1000000000) :
  Calls Tryz.prog 96 #[.pointer (some ⟨q, 0, none⟩)] w (Ret (fun v w' => ∃ r' A' c' zs, v = .tuple #[.slice A' b.ln.toNat c', .nilIface] ∧ CR 33 w' r' A' b.ln.toNat c' zs ∧ zs.map cx = ((xs.map cx).drop b.ou.toNat).take b.ln.toNat ∧ w.heap.size < r' ∧ Ch No w w')) := by
 have hln := ok.ln
 refine calls_of_VC (args := [.pointer (some ⟨q, 0, none⟩)]) Tryz.func96 rfl Tryz.ntmps96 rfl (Qe (Qb (Om (Qd rfl) rfl (Om (Qd rfl) rfl (Qf (Qa (Qe ?_)))))))
 refine Qb (Om (Qc rfl) rfl (Om (Ql rfl) rfl (Om (Qg υ161 rfl ς155 rfl rfl rfl) rfl (Om (Qh ι155 rfl (rb.cell rfl)) rfl (Oq (Qi Tryz.call135 rfl (m_Out _ _ _ _ _ _ _ _ _ _ _ _ _ _ mac ok (by omega))) rfl ?_)))))
 rintro _ w1 ⟨r1, A1, k1, rfl, out1, yo1, c1⟩
 have z1 := c1.size
 refine Om (Qc rfl) rfl (Om (Qq rfl rfl) rfl (Om (Qq rfl rfl) rfl (Om (Qd rfl) rfl (Om (Qd rfl) rfl (Qf (Qa (Qe ?_)))))))
 refine Qe (Qb (Om (Qc rfl) rfl (Om (Cg υ28 rfl) rfl (Om (Qc rfl) rfl (Om (Qc rfl) rfl (Om (Ql rfl) rfl (Om (Qg υ161 rfl ς4 rfl rfl rfl) rfl ?_)))))))
 have rb_1 := rb.keep c1
 refine Om (Qh ι4 rfl (rb_1.cell rfl)) rfl (Om (Ro rfl) rfl (Om (Qm rfl rfl) rfl (Qf (Qa (Cw rfl (Qe (Qb ?_)))))))
 refine Om (Qc rfl) rfl (Om (Qc rfl) rfl (Om (Qd rfl) rfl (Om (Qd rfl) rfl (Qf (Qa (Qp (Qu ?_)))))))
 refine Cz rfl rfl rfl (Ret.mk ?_)
 have CH_1 := (Ch.refl (No) w).and c1
 exact ⟨_, _, _, _, rfl, out1, by rw [List.map_take, List.map_drop], by omega, CH_1⟩
set_option maxHeartbeats 1000000 in
theorem r_Result1 (q p m r : Nat) (b : Bld) (N : Nat) (SA : Option Addr) (sc : Nat) (bs : ByteArray) (CA : Option Addr) (ac : Int) (F : Fil) (xs : List CB) (w : World) (rb : Bk w q #[.pointer (some ⟨p, 0, none⟩), .bool true, .pointer (some ⟨m, 0, none⟩)] 161) (mac : MacG w m r b N SA sc bs CA ac ac b.steps.length 0 F xs) (ok : PrgG b N) (hac : 0 ≤ ac ∧ ac ≤ 1000000000) :
  Calls Tryz.prog 96 #[.pointer (some ⟨q, 0, none⟩)] w (Ret (fun v w' => ∃ r' A' c' zs, v = .tuple #[.slice A' b.ln.toNat c', .nilIface] ∧ CR 33 w' r' A' b.ln.toNat c' zs ∧ zs.map cx = ((((xs.map cx).drop b.ou.toNat).take b.ln.toNat).map conjC).map (fun z => overC z b.ln) ∧ w.heap.size < r' ∧ Ch No w w')) := by
 have hln := ok.ln
 refine calls_of_VC (args := [.pointer (some ⟨q, 0, none⟩)]) Tryz.func96 rfl Tryz.ntmps96 rfl (Qe (Qb (Om (Qd rfl) rfl (Om (Qd rfl) rfl (Qf (Qa (Qe ?_)))))))
 refine Qb (Om (Qc rfl) rfl (Om (Ql rfl) rfl (Om (Qg υ161 rfl ς155 rfl rfl rfl) rfl (Om (Qh ι155 rfl (rb.cell rfl)) rfl (Oq (Qi Tryz.call135 rfl (m_Out _ _ _ _ _ _ _ _ _ _ _ _ _ _ mac ok (by omega))) rfl ?_)))))
 rintro _ w1 ⟨r1, A1, k1, rfl, out1, yo1, c1⟩
 have z1 := c1.size
 refine Om (Qc rfl) rfl (Om (Qq rfl rfl) rfl (Om (Qq rfl rfl) rfl (Om (Qd rfl) rfl (Om (Qd rfl) rfl (Qf (Qa (Qe ?_)))))))
 refine Qe (Qb (Om (Qc rfl) rfl (Om (Cg υ28 rfl) rfl (Om (Qc rfl) rfl (Om (Qc rfl) rfl (Om (Ql rfl) rfl (Om (Qg υ161 rfl ς4 rfl rfl rfl) rfl ?_)))))))
 have rb_1 := rb.keep c1
 refine Om (Qh ι4 rfl (rb_1.cell rfl)) rfl (Om (Ro rfl) rfl (Om (Qm rfl rfl) rfl (Qf (Qa (Ca rfl (Qn (Qa ?_)))))))
 refine Qe (Qb (Om (Qc rfl) rfl ?_))
 refine Oq (Qi Tryz.call131 rfl (p_conj _ _ _ _ _ _ out1.sl (fun q hq => by have := (out1).lt; omega) (by omega))) rfl ?_
 rintro _ w2 ⟨q2, zs2, rfl, cj2, hz2, e2, c2⟩
 have ycj2 := Ow.lt cj2
 have z2 := c2.size
 refine Om (Qd rfl) rfl (Qf (Qa (Qe (Qe (Qb (Om (Qc rfl) rfl (Om (Ra υ31 rfl) rfl ?_)))))))
 refine Om (Qc rfl) rfl (Qf (Qa (Qw ?_)))
 have CH_2 := (Ch.refl (No) w).and (c1.trans c2)
 refine Cp (σ := Nat × List CB) (fun (j, zs) => [(4, .slice (some ⟨q2, 0, none⟩) b.ln.toNat b.ln.toNat), (29, .slice (some ⟨q2, 0, none⟩) b.ln.toNat b.ln.toNat), (30, .int .i64 (b.ln.toNat : Nat)), (31, .int .i64 j)]) (fun (j, zs) w' => j ≤ b.ln.toNat ∧ Upto (fun z => overC z b.ln) zs2 zs j ∧ (∀ i, j ≤ i → zs.getD i (0, 0) = zs2.getD i (0, 0)) ∧ w2.heap.size ≤ w'.heap.size ∧ CR 33 w' (q2 + 1) (some ⟨q2, 0, none⟩) b.ln.toNat b.ln.toNat zs ∧ Ch (No) w w') (fun (j, zs) => b.ln.toNat - j) (0, zs2) ?_ ⟨rfl, rfl, rfl, rfl, trivial⟩ ?_
 · exact ⟨(by omega), (Upto.zero _ _ _), (fun i _ => rfl), (Nat.le_refl _), cj2, CH_2⟩
 rintro ⟨j, zs⟩ w3 ⟨hj, hu, hsm, hsz3, cj_3, CH_3⟩
 show VC _ _ _ _ [(4, .slice (some ⟨q2, 0, none⟩) b.ln.toNat b.ln.toNat), (29, .slice (some ⟨q2, 0, none⟩) b.ln.toNat b.ln.toNat), (30, .int .i64 (b.ln.toNat : Nat)), (31, .int .i64 j)] _
 have hzl := CR.len cj_3
 have hlc : ((b.ln.toNat : Nat) : Int) = b.ln := by omega
 refine Qe (Qb (Om (Cs rfl rfl) rfl (Qf (Qa (Qe (Qj rfl (fun hc1 => ?_) (fun hc1 => ?_)))))))
 ·
  refine Qn (Qa (Qe (Qw (Qe (Qb (Om (Qc rfl) rfl (Om (Cb υ31 ς33 rfl rfl (cj_3.sl.ne (by omega)) (by omega) (by omega)) rfl ?_)))))))
  refine Om (Qh ι33 rfl (cj_3.sl.getC (by omega) (by omega))) rfl (Om (Qd rfl) rfl (Om (Qd rfl) rfl (Qf (Qa (Qb (Om (Qc rfl) rfl (Om (Qc rfl) rfl ?_)))))))
  refine Om (Qc rfl) rfl (Om (Qc rfl) rfl (Om (Ra υ31 rfl) rfl (Oq (Qi Tryz.call136 rfl (cplx_Over _ _ _ _)) rfl ?_)))
  rintro _ w4 ⟨p4, q4, rfl, F4, c4⟩
  have z4 := c4.size
  have cj_4 := cj_3.keep c4
  refine Om (Cb υ31 ς33 rfl rfl (cj_4.sl.ne (by omega)) (by omega) (by omega)) rfl (Oz (Rl ς33 rfl rfl (by omega) cj_4) rfl ?_)
  rintro _ w5 ⟨o5, c5, z5⟩
  have y5 := o5.lt
  refine Qf (Qo (Qa (Qb ?_)))
  refine Om (Ce rfl rfl (by rw [IntKind.wrap_i64]; omega)) rfl ?_
  refine Om (Qc rfl) rfl (Qf ?_)
  refine Ck (j + 1, zs.set j (p4, q4)) (by first | omega | (dsimp only; omega)) ?_ ⟨rfl, rfl, rfl, rfl, trivial⟩
  have CH_4 := CH_3.and c4
  have CH_5 : Ch (No) w w5 := CH_4.then c5
  exact ⟨(by omega), (hu.step (by omega) (by rw [F4, Int.toNat_natCast, hlc, ← hsm j (Nat.le_refl _)])), (fun i hi => by rw [set_getD (by omega), if_neg (by omega)]; exact hsm i (by omega)), (by omega), o5, CH_5⟩
 ·
  refine Cr (Qk (Qk (Qz (Qa (Qe (Qb (Om (Qc rfl) rfl ?_)))))))
  refine Om (Qd rfl) rfl (Om (Qd rfl) rfl (Qf (Qa (Qp (Cz rfl rfl rfl (Ret.mk ?_))))))
  have e : j = b.ln.toNat := by omega
  rw [e] at hu
  have hz9 := hu.all (CR.len cj2) (CR.len cj_3)
  have y9 := Ow.lt cj_3
  exact ⟨_, _, _, _, rfl, cj_3, by rw [hz9, hz2, List.map_take, List.map_drop], by omega, CH_3⟩
set_option maxHeartbeats 1000000 in
theorem p_whole0 (lo hi p : Nat) (P : Pln) (SX : Nat → Prop) (X : Option Addr) (n xc : Nat) (ys : List CB) (w : World) (sx : SlR SX w X n 1 (ys.map cxV)) (hX : ∀ q, SX q → q < w.heap.size) (pl : PlnR lo hi w p P) (hh : hi ≤ w.heap.size) (N : Nat) (ok : PrgG P.b N) (okb : okB P.b) (hne : 1 ≤ P.b.steps.length) (hn : (n : Int) = P.b.ln) (st : StT w) (hG : 24 ≤ w.heap.size) (hac1 : 1 ≤ cntS P.b.steps)  :
  Calls Tryz.prog 49 #[.pointer (some ⟨p, 0, none⟩), .slice X n xc, .bool false] w (Ret (fun v w' => ∃ r' A' c' zs, v = .tuple #[.slice A' P.b.ln.toNat c', .nilIface] ∧ CR 33 w' r' A' P.b.ln.toNat c' zs ∧ zs.map cx = fwdG P.b (ys.map cx) ∧ w.heap.size < r' ∧ Ch No w w')) := by
 have hln := ok.ln; have hn1 := ok.n1; have hcl := ok.cl; have hlen := ok.len
 have hyl : ys.length = n := by have := sx.len; simpa using this
 refine calls_of_VC (args := [.pointer (some ⟨p, 0, none⟩), .slice X n xc, .bool false]) Tryz.func49 rfl Tryz.ntmps49 rfl (Qe (Qb (Om (Qd rfl) rfl (Om (Qd rfl) rfl (Qf (Qa (Qe ?_)))))))
 refine Qb (Om (Qc rfl) rfl (Om (Qc rfl) rfl (Om (Qc rfl) rfl (Oq (Qi Tryz.call93 rfl (p_Begin0 _ _ _ _ _ _ _ _ _ _ sx hX pl (by omega) _ ok okb hne hn st (by omega))) rfl ?_))))
 rintro _ w1 ⟨q1, m1, r1, rs1, sA1, sc1, cA1, xs1, rfl, rb1, mac1, hx1, ss1, hb1, c1⟩
 obtain ⟨hb1, hb2, hb3, hb4, hb5, hb6, hb7, hb8⟩ := hb1
 have yq1 := rb1.lt; have ym1 := mac1.bk.lt; have yr1 := Ow.lt mac1.row
 have hS : ∀ y, At rs1 y → ¬ MS m1 r1 y := fun y h1 h2 => by omega
 have hok := ok.ok; have hac2 : cntS P.b.steps ≤ 100000000 := by have := ok.act; omega
 have z1 := c1.size
 refine Om (Qc rfl) rfl (Om (Qq rfl rfl) rfl (Om (Qq rfl rfl) rfl (Om (Qd rfl) rfl (Om (Qd rfl) rfl (Qf (Qa (Qe ?_)))))))
 refine Qe (Qb (Om (Qc rfl) rfl (Om (Cg υ28 rfl) rfl (Qf (Qa (Ca rfl (Qn ?_)))))))
 refine Qa (Qe (Qe (Qb (Om (Qc rfl) rfl (Oq (Qi κ94 rfl (r_Left _ _ _ _ _ _ _ _ _ _ _ _ _ _ _ _ _ _ rb1 mac1 (by omega) (by omega))) rfl ?_)))))
 rintro _ w2 ⟨rfl, c2⟩
 have z2 := c2.size
 refine Om (Rb rfl rfl) rfl (Qf (Qa (Qj rfl (fun hc1 => ?_) (fun hc1 => ?_))))
 ·
  refine Qe (Qb (Om (Qc rfl) rfl (Om (Qc rfl) rfl ?_)))
  have rb_2 := rb1.keep c2
  have mac_2 := mac1.keep c2
  refine Oq (Qi κ94 rfl (r_Left _ _ _ _ _ _ _ _ _ _ _ _ _ _ _ _ _ _ rb_2 mac_2 (by omega) (by omega))) rfl ?_
  rintro _ w3 ⟨rfl, c3⟩
  have z3 := c3.size
  have rb_3 := rb_2.keep c3
  have mac_3 := mac_2.keep c3
  have ss_3 := ss1.keep (c2.trans c3)
  refine Oq (Qi Tryz.call95 rfl (r_Do _ _ _ _ _ _ _ _ _ _ _ _ _ _ _ rb_3 mac_3 (by omega) rfl hac1 hac2 hok (by omega) _ hS ss_3 _ (by omega))) rfl ?_
  rintro _ w4 ⟨rfl, F4, ys4, mac4, hy4, c4⟩
  have z4 := c4.size
  refine Om (Qc rfl) rfl (Om (Qq rfl rfl) rfl (Om (Qq rfl rfl) rfl (Om (Qd rfl) rfl (Om (Qd rfl) rfl (Qf (Qa (Qe ?_)))))))
  refine Qb (Om (Qc rfl) rfl (Om (Cg υ28 rfl) rfl (Qf (Qa (Ca rfl (Qn (Qa ?_)))))))
  refine Qe (Qb (Om (Qc rfl) rfl ?_))
  have rb_4 := rb_3.to c4
  refine Oq (Qi Tryz.call96 rfl (r_Result0 _ _ _ _ _ _ _ _ _ _ _ _ _ _ rb_4 mac4 ok (by omega))) rfl ?_
  rintro _ w5 ⟨r5, A5, k5, zs5, rfl, out5, hz5, yo5, c5⟩
  have z5 := c5.size
  refine Om (Qq rfl rfl) rfl (Om (Qq rfl rfl) rfl (Om (Qd rfl) rfl (Om (Qd rfl) rfl (Qf (Qa (Qp (Cz rfl rfl rfl ?_)))))))
  refine Ret.mk ?_
  have CH_3 := (Ch.refl (No) w).and (c1.trans (c2.trans c3))
  have CH_4 : Ch (No) w w4 := CH_3.then c4
  have CH_5 := CH_4.and c5
  exact ⟨_, _, _, _, rfl, out5, by rw [hz5, hy4, hx1, show N = P.b.cl.toNat by omega]; rfl, by omega, CH_5⟩
 ·
  omega
set_option maxHeartbeats 1000000 in
theorem p_whole1 (lo hi p : Nat) (P : Pln) (SX : Nat → Prop) (X : Option Addr) (n xc : Nat) (ys : List CB) (w : World) (sx : SlR SX w X n 1 (ys.map cxV)) (hX : ∀ q, SX q → q < w.heap.size) (pl : PlnR lo hi w p P) (hh : hi ≤ w.heap.size) (N : Nat) (ok : PrgG P.b N) (okb : okB P.b) (hne : 1 ≤ P.b.steps.length) (hn : (n : Int) = P.b.ln) (st : StT w) (hG : 24 ≤ w.heap.size) (hac1 : 1 ≤ cntS P.b.steps)  :
  Calls Tryz.prog 49 #[.pointer (some ⟨p, 0, none⟩), .slice X n xc, .bool true] w (Ret (fun v w' => ∃ r' A' c' zs, v = .tuple #[.slice A' P.b.ln.toNat c', .nilIface] ∧ CR 33 w' r' A' P.b.ln.toNat c' zs ∧ zs.map cx = invG P.b (ys.map cx) ∧ w.heap.size < r' ∧ Ch No w w')) := by
 have hln := ok.ln; have hn1 := ok.n1; have hcl := ok.cl; have hlen := ok.len
 have hyl : ys.length = n := by have := sx.len; simpa using this
 refine calls_of_VC (args := [.pointer (some ⟨p, 0, none⟩), .slice X n xc, .bool true]) Tryz.func49 rfl Tryz.ntmps49 rfl (Qe (Qb (Om (Qd rfl) rfl (Om (Qd rfl) rfl (Qf (Qa (Qe ?_)))))))
 refine Qb (Om (Qc rfl) rfl (Om (Qc rfl) rfl (Om (Qc rfl) rfl (Oq (Qi Tryz.call93 rfl (p_Begin1 _ _ _ _ _ _ _ _ _ _ sx hX pl (by omega) _ ok okb hne hn st (by omega))) rfl ?_))))
 rintro _ w1 ⟨q1, m1, r1, rs1, sA1, sc1, cA1, xs1, rfl, rb1, mac1, hx1, ss1, hb1, c1⟩
 obtain ⟨hb1, hb2, hb3, hb4, hb5, hb6, hb7, hb8⟩ := hb1
 have yq1 := rb1.lt; have ym1 := mac1.bk.lt; have yr1 := Ow.lt mac1.row
 have hS : ∀ y, At rs1 y → ¬ MS m1 r1 y := fun y h1 h2 => by omega
 have hok := ok.ok; have hac2 : cntS P.b.steps ≤ 100000000 := by have := ok.act; omega
 have z1 := c1.size
 refine Om (Qc rfl) rfl (Om (Qq rfl rfl) rfl (Om (Qq rfl rfl) rfl (Om (Qd rfl) rfl (Om (Qd rfl) rfl (Qf (Qa (Qe ?_)))))))
 refine Qe (Qb (Om (Qc rfl) rfl (Om (Cg υ28 rfl) rfl (Qf (Qa (Ca rfl (Qn ?_)))))))
 refine Qa (Qe (Qe (Qb (Om (Qc rfl) rfl (Oq (Qi κ94 rfl (r_Left _ _ _ _ _ _ _ _ _ _ _ _ _ _ _ _ _ _ rb1 mac1 (by omega) (by omega))) rfl ?_)))))
 rintro _ w2 ⟨rfl, c2⟩
 have z2 := c2.size
 refine Om (Rb rfl rfl) rfl (Qf (Qa (Qj rfl (fun hc1 => ?_) (fun hc1 => ?_))))
 ·
  refine Qe (Qb (Om (Qc rfl) rfl (Om (Qc rfl) rfl ?_)))
  have rb_2 := rb1.keep c2
  have mac_2 := mac1.keep c2
  refine Oq (Qi κ94 rfl (r_Left _ _ _ _ _ _ _ _ _ _ _ _ _ _ _ _ _ _ rb_2 mac_2 (by omega) (by omega))) rfl ?_
  rintro _ w3 ⟨rfl, c3⟩
  have z3 := c3.size
  have rb_3 := rb_2.keep c3
  have mac_3 := mac_2.keep c3
  have ss_3 := ss1.keep (c2.trans c3)
  refine Oq (Qi Tryz.call95 rfl (r_Do _ _ _ _ _ _ _ _ _ _ _ _ _ _ _ rb_3 mac_3 (by omega) rfl hac1 hac2 hok (by omega) _ hS ss_3 _ (by omega))) rfl ?_
  rintro _ w4 ⟨rfl, F4, ys4, mac4, hy4, c4⟩
  have z4 := c4.size
  refine Om (Qc rfl) rfl (Om (Qq rfl rfl) rfl (Om (Qq rfl rfl) rfl (Om (Qd rfl) rfl (Om (Qd rfl) rfl (Qf (Qa (Qe ?_)))))))
  refine Qb (Om (Qc rfl) rfl (Om (Cg υ28 rfl) rfl (Qf (Qa (Ca rfl (Qn (Qa ?_)))))))
  refine Qe (Qb (Om (Qc rfl) rfl ?_))
  have rb_4 := rb_3.to c4
  refine Oq (Qi Tryz.call96 rfl (r_Result1 _ _ _ _ _ _ _ _ _ _ _ _ _ _ rb_4 mac4 ok (by omega))) rfl ?_
  rintro _ w5 ⟨r5, A5, k5, zs5, rfl, out5, hz5, yo5, c5⟩
  have z5 := c5.size
  refine Om (Qq rfl rfl) rfl (Om (Qq rfl rfl) rfl (Om (Qd rfl) rfl (Om (Qd rfl) rfl (Qf (Qa (Qp (Cz rfl rfl rfl ?_)))))))
  refine Ret.mk ?_
  have CH_3 := (Ch.refl (No) w).and (c1.trans (c2.trans c3))
  have CH_4 : Ch (No) w w4 := CH_3.then c4
  have CH_5 := CH_4.and c5
  exact ⟨_, _, _, _, rfl, out5, by rw [hz5, hy4, hx1, show N = P.b.cl.toNat by omega]; rfl, by omega, CH_5⟩
 ·
  omega
theorem p_Forward (lo hi p : Nat) (P : Pln) (SX : Nat → Prop) (X : Option Addr) (n xc : Nat) (ys : List CB) (w : World) (sx : SlR SX w X n 1 (ys.map cxV)) (hX : ∀ q, SX q → q < w.heap.size) (pl : PlnR lo hi w p P) (hh : hi ≤ w.heap.size) (N : Nat) (ok : PrgG P.b N) (okb : okB P.b) (hne : 1 ≤ P.b.steps.length) (hn : (n : Int) = P.b.ln) (st : StT w) (hG : 24 ≤ w.heap.size) (hac1 : 1 ≤ cntS P.b.steps)  :
  Calls Tryz.prog 15 #[.pointer (some ⟨p, 0, none⟩), .slice X n xc] w (Ret (fun v w' => ∃ r' A' c' zs, v = .tuple #[.slice A' P.b.ln.toNat c', .nilIface] ∧ CR 33 w' r' A' P.b.ln.toNat c' zs ∧ zs.map cx = fwdG P.b (ys.map cx) ∧ w.heap.size < r' ∧ Ch No w w')) := by
 refine calls_of_VC (args := [.pointer (some ⟨p, 0, none⟩), .slice X n xc]) Tryz.func15 rfl Tryz.ntmps15 rfl (Qe (Qb (Om (Qd rfl) rfl (Om (Qd rfl) rfl (Qf (Qa (Qe ?_)))))))
 refine Qb (Om (Qc rfl) rfl (Om (Qc rfl) rfl (Oq (Qi Tryz.call49 rfl (p_whole0 _ _ _ _ _ _ _ _ _ _ sx hX pl (by omega) _ ok okb hne hn st (by omega) hac1)) rfl ?_)))
 rintro _ w1 ⟨r1, A1, k1, zs1, rfl, out1, hz1, yo1, c1⟩
 have z1 := c1.size
 refine Om (Qq rfl rfl) rfl (Om (Qq rfl rfl) rfl (Om (Qd rfl) rfl (Om (Qd rfl) rfl (Qf (Qa (Qp (Cz rfl rfl rfl ?_)))))))
 refine Ret.mk ?_
 have CH_1 := (Ch.refl (No) w).and c1
 exact ⟨_, _, _, _, rfl, out1, hz1, by omega, CH_1⟩
theorem p_Inverse (lo hi p : Nat) (P : Pln) (SX : Nat → Prop) (X : Option Addr) (n xc : Nat) (ys : List CB) (w : World) (sx : SlR SX w X n 1 (ys.map cxV)) (hX : ∀ q, SX q → q < w.heap.size) (pl : PlnR lo hi w p P) (hh : hi ≤ w.heap.size) (N : Nat) (ok : PrgG P.b N) (okb : okB P.b) (hne : 1 ≤ P.b.steps.length) (hn : (n : Int) = P.b.ln) (st : StT w) (hG : 24 ≤ w.heap.size) (hac1 : 1 ≤ cntS P.b.steps)  :
  Calls Tryz.prog 16 #[.pointer (some ⟨p, 0, none⟩), .slice X n xc] w (Ret (fun v w' => ∃ r' A' c' zs, v = .tuple #[.slice A' P.b.ln.toNat c', .nilIface] ∧ CR 33 w' r' A' P.b.ln.toNat c' zs ∧ zs.map cx = invG P.b (ys.map cx) ∧ w.heap.size < r' ∧ Ch No w w')) := by
 refine calls_of_VC (args := [.pointer (some ⟨p, 0, none⟩), .slice X n xc]) Tryz.func16 rfl Tryz.ntmps16 rfl (Qe (Qb (Om (Qd rfl) rfl (Om (Qd rfl) rfl (Qf (Qa (Qe ?_)))))))
 refine Qb (Om (Qc rfl) rfl (Om (Qc rfl) rfl (Oq (Qi Tryz.call49 rfl (p_whole1 _ _ _ _ _ _ _ _ _ _ sx hX pl (by omega) _ ok okb hne hn st (by omega) hac1)) rfl ?_)))
 rintro _ w1 ⟨r1, A1, k1, zs1, rfl, out1, hz1, yo1, c1⟩
 have z1 := c1.size
 refine Om (Qq rfl rfl) rfl (Om (Qq rfl rfl) rfl (Om (Qd rfl) rfl (Om (Qd rfl) rfl (Qf (Qa (Qp (Cz rfl rfl rfl ?_)))))))
 refine Ret.mk ?_
 have CH_1 := (Ch.refl (No) w).and c1
 exact ⟨_, _, _, _, rfl, out1, hz1, by omega, CH_1⟩
end Go.Tm
namespace Go.Tm
def trT (a b : Nat) (TA TB : (Nat → Cx) → Nat → Cx) (x : Nat → Cx) (i : Nat) : Cx :=
  TA (fun j => twistF (TB (fun l => x (j + a * l)) (i % b)) (a * b) (j * (i % b) % (a * b))) (i / b)
def trB (n m : Nat) (R : (Nat → Cx) → Nat → Cx) (x : Nat → Cx) (k : Nat) : Cx :=
  mulC (overC (conjC (R (fun i => conjC (mulC (R (fun j => if j < n then mulC (x j) (chirpF n j) else z0) i) (R (otherF n m) i))) k)) (m : Int)) (chirpF n k)
def trM : Ord → (Nat → Cx) → Nat → Cx
  | .mk k n ks, x =>
    if k = 1 then fun i => directG n.toNat i x
    else if k = 2 then fun i => (flyG ((List.range n.toNat).map x)).getD i z0
    else if k = 3 then
      match ks with
      | [a, b] => trT a.len.toNat b.len.toNat (trM a) (trM b) x
      | _ => x
    else
      match ks with
      | [a] => trB n.toNat a.len.toNat (trM a) x
      | _ => x
theorem trM_direct (n : Int) : trM (.mk 1 n []) = fun x i => directG n.toNat i x := by funext x; unfold trM; rw [if_pos rfl]
theorem trM_fly (n : Int) : trM (.mk 2 n []) = fun x i => (flyG ((List.range n.toNat).map x)).getD i z0 := by funext x; unfold trM; rw [if_neg (by decide), if_pos rfl]
theorem trM_times (n : Int) (a b : Ord) : trM (.mk 3 n [a, b]) = trT a.len.toNat b.len.toNat (trM a) (trM b) := by funext x; rw [trM, if_neg (by decide), if_neg (by decide), if_pos rfl]
theorem trM_blue (n : Int) (a : Ord) : trM (.mk 4 n [a]) = trB n.toNat a.len.toNat (trM a) := by funext x; rw [trM, if_neg (by decide), if_neg (by decide), if_neg (by decide)]
theorem sumG_congr {n k : Nat} {x y : Nat → Cx} : ∀ j, (∀ i, i ≤ j → x i = y i) → sumG n k x j = sumG n k y j
  | 0, h => h 0 (Nat.le_refl _)
  | j + 1, h => by
    unfold sumG
    rw [sumG_congr j fun i hi => h i (by omega), h (j + 1) (Nat.le_refl _)]
theorem directG_congr {n k : Nat} {x y : Nat → Cx} (hn : 1 ≤ n) (h : ∀ i, i < n → x i = y i) : directG n k x = directG n k y := sumG_congr _ fun i hi => h i (by omega)
theorem mapr_congr {n : Nat} {x y : Nat → Cx} (h : ∀ i, i < n → x i = y i) : (List.range n).map x = (List.range n).map y := List.map_congr_left fun i hi => h i (List.mem_range.1 hi)
def Loc (n : Nat) (T : (Nat → Cx) → Nat → Cx) : Prop := ∀ x y : Nat → Cx, (∀ j, j < n → x j = y j) → ∀ k, T x k = T y k
theorem trT_loc {a b : Nat} {TA TB : (Nat → Cx) → Nat → Cx} (ha : Loc a TA) (hb : Loc b TB) : Loc (a * b) (trT a b TA TB) := by
  intro x y h k
  unfold trT
  refine ha _ _ (fun j hj => ?_) _
  rw [hb _ _ (fun l hl => h (j + a * l) ?_) (k % b)]
  have h1 : a * (l + 1) ≤ a * b := Nat.mul_le_mul_left a hl
  rw [Nat.mul_succ] at h1
  omega
theorem trB_loc {n m : Nat} {R : (Nat → Cx) → Nat → Cx} (hR : Loc m R) : Loc n (trB n m R) := by
  intro x y h k
  unfold trB
  rw [hR _ _ (fun i hi => ?_) k]
  rw [hR _ _ (fun j hj => ?_) i]
  by_cases e : j < n
  · rw [if_pos e, if_pos e, h j e]
  · rw [if_neg e, if_neg e]
theorem trM_loc {o : Ord} (h : GO o) : Loc (sl o).toNat (trM o) := by
  induction h with
  | @direct n h1 h2 =>
    intro x y h k
    rw [trM_direct]
    exact directG_congr (by omega) h
  | @fly n h1 h2 =>
    intro x y h k
    rw [trM_fly]
    show (flyG _).getD k z0 = (flyG _).getD k z0
    rw [mapr_congr (n := n.toNat) h]
  | @times a b ga gb h2 h3 h4 ia ib =>
    intro x y h k
    rw [trM_times]
    rw [← len_sl (show a.len ≠ 0 by omega)] at ia
    rw [← len_sl (show b.len ≠ 0 by omega)] at ib
    refine trT_loc ia ib x y (fun j hj => h j ?_) k
    have : (sl (.mk 3 0 [a, b])) = a.len * b.len := rfl
    rw [this, Int.toNat_mul (by omega) (by omega)]; exact hj
  | @blue n a h1 h2 ga h3 ia =>
    intro x y h k
    rw [trM_blue]
    rw [← len_sl (show a.len ≠ 0 by omega)] at ia
    exact trB_loc ia x y h k
def gd (c : List Cx) (i : Nat) : Cx := c.getD i z0
theorem gd_set {c : List Cx} {i j : Nat} {z : Cx} (hj : j < c.length) : gd (c.set j z) i = if i = j then z else gd c i := by
  simp only [gd, List.getD, List.getElem?_set]
  by_cases h : j = i
  · subst h; simp [hj]
  · have : ¬ i = j := fun e => h e.symm
    simp [h, this]
theorem acts_simple {s : Stp} {c : List Cx} {D : Nat → Nat} {f : Nat → Cx} : ∀ n, (∀ i, i < n → D i < c.length) → (∀ i j, i < j → j < n → D i ≠ D j) → (∀ i, i < n → ∀ c' : List Cx, c'.length = c.length → (∀ q, (∀ j, j < i → q ≠ D j) → gd c' q = gd c q) → actG s i c' = c'.set (D i) (f i)) →
    (actsG s c n).length = c.length ∧ (∀ i, i < n → gd (actsG s c n) (D i) = f i) ∧ ∀ q, (∀ i, i < n → q ≠ D i) → gd (actsG s c n) q = gd c q
  | 0, _, _, _ => ⟨rfl, fun i hi => absurd hi (Nat.not_lt_zero i), fun _ _ => rfl⟩
  | n + 1, h1, h2, h3 => by
    obtain ⟨a1, a2, a3⟩ := acts_simple n (fun i hi => h1 i (by omega)) (fun i j hij hj => h2 i j hij (by omega)) (fun i hi => h3 i (by omega))
    have e : actsG s c (n + 1) = (actsG s c n).set (D n) (f n) := h3 n (by omega) _ a1 a3
    have hl : D n < (actsG s c n).length := by rw [a1]; exact h1 n (by omega)
    refine ⟨by rw [e, List.length_set, a1], fun i hi => ?_, fun q hq => ?_⟩
    · rw [e, gd_set hl]
      by_cases p : i = n
      · subst p; rw [if_pos rfl]
      · rw [if_neg (h2 i n (by omega) (by omega)), a2 i (by omega)]
    · rw [e, gd_set hl, if_neg (hq n (by omega)), a3 q fun i hi => hq i (by omega)]
def Eff (s : Stp) (N : Int) (Φ : (Nat → Cx) → (Nat → Cx) → Prop) : Prop := ∀ c : List Cx, N ≤ (c.length : Int) → (runG [s] c).length = c.length ∧ Φ (gd c) (gd (runG [s] c))
theorem Eff.simple {s : Stp} {N : Int} {Φ : (Nat → Cx) → (Nat → Cx) → Prop} {n : Nat} (hn : s.count.toNat = n) (D : Nat → Nat) (f : (Nat → Cx) → Nat → Cx) (h1 : ∀ i, i < n → (D i : Int) < N) (h2 : ∀ i j, i < j → j < n → D i ≠ D j) (h3 : ∀ i, i < n → ∀ c c' : List Cx, (∀ q, (∀ j, j < i → q ≠ D j) → gd c' q = gd c q) → actG s i c' = c'.set (D i) (f (gd c) i)) (h4 : ∀ c c', (∀ i, i < n → c' (D i) = f c i) → (∀ q, (∀ i, i < n → q ≠ D i) → c' q = c q) → Φ c c') : Eff s N Φ := by
  intro c hc
  have e : runG [s] c = actsG s c n := by show actsG s c s.count.toNat = _; rw [hn]
  obtain ⟨a1, a2, a3⟩ := acts_simple (s := s) (c := c) (D := D) (f := f (gd c)) n (fun i hi => by have := h1 i hi; omega) h2 fun i hi c' _ hq => h3 i hi c c' hq
  rw [e]
  exact ⟨a1, h4 _ _ a2 a3⟩
def Wr (d n : Nat) (f : (Nat → Cx) → Nat → Cx) (c c' : Nat → Cx) : Prop := (∀ i, i < n → c' (d + i) = f c i) ∧ ∀ q, (q < d ∨ d + n ≤ q) → c' q = c q
theorem Eff.row {s : Stp} {N : Int} {d n : Nat} (f : (Nat → Cx) → Nat → Cx) (hn : s.count.toNat = n) (h1 : ((d + n : Nat) : Int) ≤ N) (h3 : ∀ i, i < n → ∀ c c' : List Cx, (∀ q, (∀ j, j < i → q ≠ d + j) → gd c' q = gd c q) → actG s i c' = c'.set (d + i) (f (gd c) i)) : Eff s N (Wr d n f) :=
  Eff.simple hn (fun i => d + i) f (fun i hi => by omega) (fun i j hij _ => by omega) h3 fun c c' a b => ⟨a, fun q hq => b q fun i hi => by omega⟩
section
variable {N : Int} {d s J n m k r : Nat}
theorem eff_gather (hx : s + (n - 1) * J < d ∨ d + n ≤ s) (h1 : ((d + n : Nat) : Int) ≤ N) : Eff (gatherS d s J n) N (Wr d n fun c i => c (s + i * J)) :=
  Eff.row _ (by simp [gatherS]) h1 fun i hi c c' hq => by
    have e : actG (gatherS d s J n) i c' = c'.set (d + i) (gd c' (s + i * J)) := by simp [actG, gatherS, gd]
    have hm : i * J ≤ (n - 1) * J := Nat.mul_le_mul_right J (by omega)
    rw [e, hq _ fun j hj => by omega]
theorem eff_zero (h1 : ((d + n : Nat) : Int) ≤ N) : Eff (zeroS d n) N (Wr d n fun _ _ => z0) :=
  Eff.row _ (by simp [zeroS]) h1 fun i hi c c' hq => by simp [actG, zeroS]
theorem eff_twist (h1 : ((d + m : Nat) : Int) ≤ N) : Eff (twistS d m n k) N (Wr d m fun c i => twistF (c (d + i)) n (k * i % n)) :=
  Eff.row _ (by simp [twistS]) h1 fun i hi c c' hq => by
    have e : actG (twistS d m n k) i c' = c'.set (d + i) (twistF (gd c' (d + i)) n (k * i % n)) := by simp [actG, twistS, gd]
    rw [e, hq _ fun j hj => by omega]
theorem eff_direct (hn : 1 ≤ n) (hx : s + (n - 1) * J < d ∨ d + n ≤ s) (h1 : ((d + n : Nat) : Int) ≤ N) : Eff (directS ⟨s, J, d⟩ n) N (Wr d n fun c i => directG n i fun j => c (s + j * J)) :=
  Eff.row _ (by simp [directS]) h1 fun i hi c c' hq => by
    have e : actG (directS ⟨s, J, d⟩ n) i c' = c'.set (d + i) (directG n i fun j => gd c' (s + j * J)) := by simp [actG, directS, gd]
    rw [e, directG_congr hn fun q hq2 => hq (s + q * J) fun j hj => by
      have hm : q * J ≤ (n - 1) * J := Nat.mul_le_mul_right J (by omega)
      omega]
theorem eff_chirp (h1 : ((d + m : Nat) : Int) ≤ N) : Eff (chirpS d m n) N (Wr d m fun c i => mulC (c (d + i)) (chirpF n i)) :=
  Eff.row _ (by simp [chirpS]) h1 fun i hi c c' hq => by
    have e : actG (chirpS d m n) i c' = c'.set (d + i) (mulC (gd c' (d + i)) (chirpF n i)) := by simp [actG, chirpS, gd]
    rw [e, hq _ fun j hj => by omega]
theorem eff_fill (h1 : ((d + m : Nat) : Int) ≤ N) : Eff (fillS d m n) N (Wr d m fun _ i => otherF n m i) :=
  Eff.row _ (by simp [fillS]) h1 fun i hi c c' hq => by simp [actG, fillS]
theorem eff_times (hx : s + n ≤ d ∨ d + n ≤ s) (h1 : ((d + n : Nat) : Int) ≤ N) : Eff (tmsS d s n) N (Wr d n fun c i => mulC (c (d + i)) (c (s + i))) :=
  Eff.row _ (by simp [tmsS]) h1 fun i hi c c' hq => by
    have e : actG (tmsS d s n) i c' = c'.set (d + i) (mulC (gd c' (d + i)) (gd c' (s + i))) := by simp [actG, tmsS, gd]
    rw [e, hq (d + i) fun j hj => by omega, hq (s + i) fun j hj => by omega]
theorem eff_conj (h1 : ((d + n : Nat) : Int) ≤ N) : Eff (conjS d n) N (Wr d n fun c i => conjC (c (d + i))) :=
  Eff.row _ (by simp [conjS]) h1 fun i hi c c' hq => by
    have e : actG (conjS d n) i c' = c'.set (d + i) (conjC (gd c' (d + i))) := by simp [actG, conjS, gd]
    rw [e, hq _ fun j hj => by omega]
theorem eff_over (h1 : ((d + n : Nat) : Int) ≤ N) : Eff (overS d n m) N (Wr d n fun c i => overC (c (d + i)) (m : Int)) :=
  Eff.row _ (by simp [overS]) h1 fun i hi c c' hq => by
    have e : actG (overS d n m) i c' = c'.set (d + i) (overC (gd c' (d + i)) (m : Int)) := by simp [actG, overS, gd]
    rw [e, hq _ fun j hj => by omega]
theorem eff_scatter (hJ : 1 ≤ J) (hx : s + n ≤ d ∨ d + (n - 1) * J < s) (h1 : ∀ i, i < n → ((d + i * J : Nat) : Int) < N) : Eff (scatterS d s J n) N (fun c c' => (∀ i, i < n → c' (d + i * J) = c (s + i)) ∧ ∀ q, (∀ i, i < n → q ≠ d + i * J) → c' q = c q) :=
  Eff.simple (n := n) (by simp [scatterS]) (fun i => d + i * J) (fun c i => c (s + i)) h1 (fun i j hij _ e => by
    have h2 : (i + 1) * J ≤ j * J := Nat.mul_le_mul_right J hij
    rw [Nat.succ_mul] at h2
    omega) (fun i hi c c' hq => by
    have e : actG (scatterS d s J n) i c' = c'.set (d + i * J) (gd c' (s + i)) := by simp [actG, scatterS, gd]
    rw [e, hq _ fun j hj => by
      have hm : j * J ≤ (n - 1) * J := Nat.mul_le_mul_right J (by omega)
      omega]) fun c c' a b => ⟨a, b⟩
theorem putN_gd {c : List Cx} {u v : Nat} {ys : List Cx} (hv : 1 ≤ v) : ∀ n, (∀ q, q < n → u + q * v < c.length) → (putN c u v ys n).length = c.length ∧ (∀ q, q < n → gd (putN c u v ys n) (u + q * v) = ys.getD q z0) ∧ ∀ p, (∀ q, q < n → p ≠ u + q * v) → gd (putN c u v ys n) p = gd c p
  | 0, _ => ⟨rfl, fun i hi => absurd hi (Nat.not_lt_zero i), fun _ _ => rfl⟩
  | n + 1, h => by
    obtain ⟨a1, a2, a3⟩ := putN_gd (c := c) (u := u) (ys := ys) hv n fun q hq => h q (by omega)
    have hl : u + n * v < (putN c u v ys n).length := by rw [a1]; exact h n (by omega)
    refine ⟨?_, fun q hq => ?_, fun p hp => ?_⟩
    · show ((putN c u v ys n).set _ _).length = _
      rw [List.length_set, a1]
    · show gd ((putN c u v ys n).set _ _) _ = _
      rw [gd_set hl]
      by_cases e : q = n
      · subst e; rw [if_pos rfl]
      · have h2 : (q + 1) * v ≤ n * v := Nat.mul_le_mul_right v (by omega)
        rw [Nat.succ_mul] at h2
        rw [if_neg (by omega), a2 q (by omega)]
    · show gd ((putN c u v ys n).set _ _) _ = _
      rw [gd_set hl, if_neg (hp n (by omega)), a3 p fun q hq => hp q (by omega)]
theorem grid_ne {i i' q q' J : Nat} (h : i < i') (hi : i' < J) : i + q * J ≠ i' + q' * J := by
  intro e
  have h1 : (i + q * J) % J = i := by rw [Nat.add_mul_mod_self_right, Nat.mod_eq_of_lt (by omega)]
  have h2 : (i' + q' * J) % J = i' := by rw [Nat.add_mul_mod_self_right, Nat.mod_eq_of_lt hi]
  rw [e, h2] at h1
  omega
theorem acts_fly {c : List Cx} (hJ : 1 ≤ J) : ∀ n, n ≤ J → (∀ i, i < n → ∀ q, q < r → d + i + q * J < c.length) →
    (actsG (flyS d J m r) c n).length = c.length ∧ (∀ i, i < n → ∀ q, q < r → gd (actsG (flyS d J m r) c n) (d + i + q * J) = (flyG ((List.range r).map fun q => gd c (d + i + q * J))).getD q z0) ∧ ∀ p, (∀ i, i < n → ∀ q, q < r → p ≠ d + i + q * J) → gd (actsG (flyS d J m r) c n) p = gd c p
  | 0, _, _ => ⟨rfl, fun i hi => absurd hi (Nat.not_lt_zero i), fun _ _ => rfl⟩
  | n + 1, hn, h => by
    obtain ⟨a1, a2, a3⟩ := acts_fly (c := c) hJ n (by omega) fun i hi => h i (by omega)
    have e : actsG (flyS d J m r) c (n + 1) = putN (actsG (flyS d J m r) c n) (d + n) J (flyG ((List.range r).map fun q => gd c (d + n + q * J))) r := by
      show actG _ _ _ = _
      have e2 : actG (flyS d J m r) n (actsG (flyS d J m r) c n) = putN (actsG (flyS d J m r) c n) (d + n) J (flyG ((List.range r).map fun q => gd (actsG (flyS d J m r) c n) (d + n + q * J))) r := by simp [actG, flyS, gd]
      rw [e2, mapr_congr (y := fun q => gd c (d + n + q * J)) fun q hq => a3 _ fun i hi q' hq' e => grid_ne (q := q') (q' := q) hi (show n < J by omega) (by omega)]
    obtain ⟨b1, b2, b3⟩ := putN_gd (c := actsG (flyS d J m r) c n) (u := d + n) (ys := flyG ((List.range r).map fun q => gd c (d + n + q * J))) hJ r fun q hq => by rw [a1]; exact h n (by omega) q hq
    rw [e]
    refine ⟨b1.trans a1, fun i hi q hq => ?_, fun p hp => ?_⟩
    · by_cases p : i = n
      · subst p; exact b2 q hq
      · rw [b3 _ fun q' hq' e => grid_ne (q := q) (q' := q') (show i < n by omega) (show n < J by omega) (by omega)]
        exact a2 i (by omega) q hq
    · rw [b3 _ (hp n (by omega)), a3 p fun i hi => hp i (by omega)]
theorem eff_fly (hJ : 1 ≤ J) (hm : m ≤ J) (h1 : ∀ i, i < m → ∀ q, q < r → ((d + i + q * J : Nat) : Int) < N) : Eff (flyS d J m r) N (fun c c' => (∀ i, i < m → ∀ q, q < r → c' (d + i + q * J) = (flyG ((List.range r).map fun q => c (d + i + q * J))).getD q z0) ∧ ∀ p, (∀ i, i < m → ∀ q, q < r → p ≠ d + i + q * J) → c' p = c p) := by
  intro c hc
  have e : runG [flyS d J m r] c = actsG (flyS d J m r) c m := by show actsG _ c (flyS d J m r).count.toNat = _; simp [flyS]
  rw [e]
  exact acts_fly hJ m hm fun i hi q hq => by have := h1 i hi q hq; omega
end
def Runs (b b' : Bld) (Φ : (Nat → Cx) → (Nat → Cx) → Prop) : Prop :=
  b'.full = false → b.full = false ∧ b.cl ≤ b'.cl ∧ ∃ L, b'.steps = b.steps ++ L ∧ ∀ c : List Cx, b'.cl ≤ (c.length : Int) → (runG L c).length = c.length ∧ Φ (gd c) (gd (runG L c))
theorem Runs.mono {b b' : Bld} {Φ Ψ : (Nat → Cx) → (Nat → Cx) → Prop} (h : Runs b b' Φ) (hm : ∀ c c', Φ c c' → Ψ c c') : Runs b b' Ψ := fun hf => by
  obtain ⟨h1, h2, L, h3, h4⟩ := h hf
  exact ⟨h1, h2, L, h3, fun c hc => ⟨(h4 c hc).1, hm _ _ (h4 c hc).2⟩⟩
theorem Runs.refl (b : Bld) : Runs b b (fun c c' => c' = c) := fun hf => ⟨hf, Int.le_refl _, [], by simp, fun c _ => ⟨rfl, rfl⟩⟩
theorem Runs.trans {a b c : Bld} {Φ Ψ : (Nat → Cx) → (Nat → Cx) → Prop} (h : Runs a b Φ) (g : Runs b c Ψ) : Runs a c (fun x z => ∃ y, Φ x y ∧ Ψ y z) := fun hf => by
  obtain ⟨g1, g2, M, g3, g4⟩ := g hf
  obtain ⟨h1, h2, L, h3, h4⟩ := h g1
  refine ⟨h1, Int.le_trans h2 g2, L ++ M, by rw [g3, h3, List.append_assoc], fun x hx => ?_⟩
  have e : runG (L ++ M) x = runG M (runG L x) := List.foldl_append
  obtain ⟨k1, k2⟩ := h4 x (by omega)
  obtain ⟨k3, k4⟩ := g4 (runG L x) (by rw [k1]; exact hx)
  rw [e]
  exact ⟨k3.trans k1, _, k2, k4⟩
theorem Runs.add {b : Bld} {s : Stp} {Φ : (Nat → Cx) → (Nat → Cx) → Prop} (h : Eff s b.cl Φ) : Runs b (b.add s) Φ := fun hf => by
  by_cases hb : b.full = true
  · rw [add_full hb, hb] at hf; cases hf
  · have hb : b.full = false := by simpa using hb
    refine ⟨hb, by rw [add_cl]; exact Int.le_refl _, [s], by rw [add_not hb], fun c hc => h c ?_⟩
    rw [add_cl] at hc; exact hc
theorem Runs.region (b : Bld) (n : Int) : Runs b (b.region n) (fun c c' => c' = c) := fun hf => by
  have h2 := region_cl b n
  refine ⟨?_, h2, [], by simp [Bld.region], fun c _ => ⟨rfl, rfl⟩⟩
  have h1 := full_false hf
  have h3 : (b.region n).steps = b.steps := rfl
  have h4 : (b.region n).acts = b.acts := rfl
  rw [h3, h4] at h1
  simp only [Bld.full, Bool.or_eq_false_iff, decide_eq_false_iff_not]
  omega
theorem Runs.back {b r : Bld} {Φ : (Nat → Cx) → (Nat → Cx) → Prop} {f : Int} (h : Runs b r Φ) : Runs b { r with fr := f } Φ := fun hf => h hf
theorem Runs.fold {F : Bld → Nat → Bld} {I : Nat → (Nat → Cx) → (Nat → Cx) → Prop} {Q : Bld → Prop} (h0 : ∀ c, I 0 c c) (hQ : ∀ b j, Q b → Q (F b j)) : ∀ n, (∀ j, j < n → ∀ b, Q b → Runs b (F b j) (fun c c' => ∀ c0, I j c0 c → I (j + 1) c0 c')) → ∀ b, Q b → Q ((List.range n).foldl F b) ∧ Runs b ((List.range n).foldl F b) (I n)
  | 0, _, b, hb => ⟨hb, (Runs.refl b).mono fun c c' e => by rw [e]; exact h0 c⟩
  | n + 1, hF, b, hb => by
    obtain ⟨q, k⟩ := Runs.fold h0 hQ n (fun j hj => hF j (by omega)) b hb
    rw [List.range_succ, List.foldl_append]
    refine ⟨hQ _ _ q, (k.trans (hF n (by omega) _ q)).mono ?_⟩
    rintro c c' ⟨y, h1, h2⟩
    exact h2 c h1
def Tr1 (n : Nat) (T : (Nat → Cx) → Nat → Cx) (s J d f : Nat) (c c' : Nat → Cx) : Prop :=
  (∀ k, k < n → c' (d + k) = T (fun j => c (s + j * J)) k) ∧ ∀ q, q < f → (q < d ∨ d + n ≤ q) → c' q = c q
def DeepTr (R : Inst → Bld → Bld) (L : Int) (T : (Nat → Cx) → Nat → Cx) : Prop := ∀ (s J d : Nat) (b : Bld), BdOk b → InsOk ⟨s, J, d⟩ L b.fr → Runs b (R ⟨s, J, d⟩ b) (Tr1 L.toNat T s J d b.fr.toNat)
structure Fq (f : Int) (b : Bld) : Prop where
  ok : BdOk b
  fr : b.fr = f
theorem Fq.kp {f : Int} {b c : Bld} (h : Fq f b) (k : Kp b c) : Fq f c := ⟨k.ok, k.fr.trans h.fr⟩
end Go.Tm
namespace Go.Tm
theorem Fq.add {f : Int} {b : Bld} (h : Fq f b) (s : Stp) : Fq f (b.add s) := h.kp ((Kp.refl h.ok).add s)
theorem Fq.rek {f : Int} {b : Bld} {R : Inst → Bld → Bld} (h : Fq f b) (hK : Keeps R) (x : Inst) : Fq f (R x b) := h.kp (hK x b h.ok)
theorem Fq.le {f : Int} {b : Bld} (h : Fq f b) : f ≤ b.cl := by have := h.ok.f1; rw [h.fr] at this; exact this
theorem Fq.region {f : Int} {b : Bld} (h : Fq f b) {n : Int} (h0 : 0 ≤ n) (h1 : f + n ≤ 400000) : Fq (f + n) (b.region n) := ⟨h.ok.region h0 (by rw [h.fr]; exact h1), by rw [region_fr, h.fr]⟩
def IJ (A B : Nat) (TB : (Nat → Cx) → Nat → Cx) (s J t F j : Nat) (c m : Nat → Cx) : Prop :=
  (∀ i, i < j → ∀ k, k < B → m (t + i * B + k) = twistF (TB (fun l => c (s + (i + A * l) * J)) k) (A * B) (i * k % (A * B))) ∧ ∀ q, q < F → (q < t ∨ t + j * B ≤ q) → m q = c q
theorem timesJ_runs {RB : Inst → Bld → Bld} {TB : (Nat → Cx) → Nat → Cx} {A B s J d t f0 F : Nat} (hR : DeepTr RB B TB) (hK : Keeps RB) (hL : Loc B TB) (hx : InsOk ⟨s, J, d⟩ ((A : Int) * B) f0) (hA : 2 ≤ A) (hB : 2 ≤ B) (hf0 : f0 ≤ 262144) (hff : f0 ≤ F) (htF : t + A * B ≤ F) (hdis : s + (A * B - 1) * J < t ∨ t + A * B ≤ s) (j : Nat) (hj : j < A) (b : Bld) (hb : Fq F b) :
    Runs b (timesJ RB ⟨s, J, d⟩ A B t b j) (fun m m' => ∀ c, IJ A B TB s J t F j c m → IJ A B TB s J t F (j + 1) c m') := by
  have hAB : 1 ≤ A * B := Nat.mul_le_mul (show 1 ≤ A by omega) (show 1 ≤ B by omega)
  have ec : ((A : Int) * B - 1) * J = (((A * B - 1) * J : Nat) : Int) := by
    rw [Int.natCast_mul, Int.natCast_sub hAB, Int.natCast_mul]; rfl
  have hp := hx.part (f' := F) (t := t) (j := j) (by omega) (by omega) ⟨by omega, by omega⟩ (by omega) (by omega) (by omega) (by rw [← Int.natCast_mul]; omega) (by simp only; rw [ec, ← Int.natCast_mul]; omega)
  have e : (⟨(s : Int) + j * J, (J : Int) * A, (t : Int) + j * B⟩ : Inst) = ⟨((s + j * J : Nat) : Int), ((J * A : Nat) : Int), ((t + j * B : Nat) : Int)⟩ := by
    rw [Int.natCast_add, Int.natCast_add, Int.natCast_mul, Int.natCast_mul, Int.natCast_mul]
  have hp' : InsOk ⟨((s + j * J : Nat) : Int), ((J * A : Nat) : Int), ((t + j * B : Nat) : Int)⟩ (B : Int) F := by rw [← e]; exact hp
  have r1 := hR (s + j * J) (J * A) (t + j * B) b hb.ok (by rw [hb.fr]; exact hp')
  rw [hb.fr] at r1
  simp only [Int.toNat_natCast] at r1
  have q2 := hb.rek hK ⟨((s + j * J : Nat) : Int), ((J * A : Nat) : Int), ((t + j * B : Nat) : Int)⟩
  have hcl := q2.le
  have hjB : (j + 1) * B ≤ A * B := Nat.mul_le_mul_right B hj
  rw [Nat.succ_mul] at hjB
  have hsl := hx.sL
  simp only at hsl
  rw [ec] at hsl
  -- what the part reads
  have key : ∀ c m y : Nat → Cx, IJ A B TB s J t F j c m → Tr1 B TB (s + j * J) (J * A) (t + j * B) F m y → (∀ k, k < B → y (t + j * B + k) = TB (fun l => c (s + (j + A * l) * J)) k) ∧ (∀ i, i < j → ∀ k, k < B → y (t + i * B + k) = twistF (TB (fun l => c (s + (i + A * l) * J)) k) (A * B) (i * k % (A * B))) ∧ ∀ q, q < F → (q < t ∨ t + (j + 1) * B ≤ q) → y q = c q := by
    rintro c m y ⟨i1, i2⟩ ⟨y1, y2⟩
    refine ⟨fun k hk => ?_, fun i hi k hk => ?_, fun q hq hd => ?_⟩
    · rw [y1 k hk]
      refine hL _ _ (fun l hl => ?_) k
      have e1 : l * (J * A) = A * l * J := by rw [Nat.mul_comm J A, ← Nat.mul_assoc, Nat.mul_comm l A]
      have e2 : s + j * J + l * (J * A) = s + (j + A * l) * J := by rw [Nat.add_mul, e1, Nat.add_assoc]
      have e3 : A * (l + 1) ≤ A * B := Nat.mul_le_mul_left A hl
      rw [Nat.mul_succ] at e3
      have e4 : (j + A * l) * J ≤ (A * B - 1) * J := Nat.mul_le_mul_right J (by omega)
      show m (s + j * J + l * (J * A)) = _
      rw [e2]
      exact i2 _ (by omega) (by omega)
    · have h3 : (i + 1) * B ≤ j * B := Nat.mul_le_mul_right B hi
      rw [Nat.succ_mul] at h3
      rw [y2 _ (by omega) (by omega)]
      exact i1 i hi k hk
    · rw [Nat.succ_mul] at hd
      rw [y2 q hq (by omega)]
      exact i2 q hq (by omega)
  unfold timesJ
  simp only
  rw [e]
  by_cases h0 : j = 0
  · subst h0
    rw [if_neg (by omega)]
    refine r1.mono ?_
    intro m y hy c hI
    obtain ⟨k1, k2, k3⟩ := key c m y hI hy
    refine ⟨fun i hi k hk => ?_, k3⟩
    obtain rfl : i = 0 := by omega
    rw [k1 k hk, Nat.zero_mul, Nat.zero_mod, twistF, if_pos rfl]
  · rw [if_pos (by omega)]
    have et : twistS ((t : Int) + j * B) B ((A : Int) * B) j = twistS ((t + j * B : Nat) : Int) (B : Nat) ((A * B : Nat) : Int) (j : Nat) := by
      rw [Int.natCast_add, Int.natCast_mul, Int.natCast_mul]
    rw [et]
    refine (r1.trans (Runs.add (eff_twist (by omega)))).mono ?_
    rintro m m' ⟨y, hy, w1, w2⟩ c hI
    obtain ⟨k1, k2, k3⟩ := key c m y hI hy
    refine ⟨fun i hi k hk => ?_, fun q hq hd => ?_⟩
    · by_cases p : i = j
      · subst p
        rw [w1 k hk]
        simp only
        rw [k1 k hk]
      · have h3 : (i + 1) * B ≤ j * B := Nat.mul_le_mul_right B (by omega)
        rw [Nat.succ_mul] at h3
        rw [w2 _ (by omega)]
        exact k2 i (by omega) k hk
    · have hd2 := hd
      rw [Nat.succ_mul] at hd2
      rw [w2 q (by omega)]
      exact k3 q hq hd
def IK (A B : Nat) (TA : (Nat → Cx) → Nat → Cx) (t z d k : Nat) (c m : Nat → Cx) : Prop :=
  (∀ i, i < k → ∀ q, q < A → m (d + i + q * B) = TA (fun j => c (t + i + j * B)) q) ∧ ∀ p, p < z → (∀ i, i < k → ∀ q, q < A → p ≠ d + i + q * B) → m p = c p
theorem timesK_runs {RA : Inst → Bld → Bld} {TA : (Nat → Cx) → Nat → Cx} {A B t z d F : Nat} {x : Inst} (hxd : x.dst = (d : Nat)) (hR : DeepTr RA A TA) (hK : Keeps RA) (hL : Loc A TA) (hA : 2 ≤ A) (hB : 2 ≤ B) (hB2 : B ≤ 16384) (htz : t + A * B ≤ z) (hzF : z + A ≤ F) (hdt : d + A * B ≤ t) (k : Nat) (hk : k < B) (b : Bld) (hb : Fq F b) :
    Runs b (timesK RA x A B t z b k) (fun m m' => ∀ c, IK A B TA t z d k c m → IK A B TA t z d (k + 1) c m') := by
  have e0 : (A - 1) * B + B = A * B := by rw [← Nat.succ_mul]; congr 1; omega
  have ec : ((A : Int) - 1) * B = (((A - 1) * B : Nat) : Int) := by
    rw [Int.natCast_mul, Int.natCast_sub (by omega)]; rfl
  have e : (⟨(t : Int) + k, (B : Int), (z : Int)⟩ : Inst) = ⟨((t + k : Nat) : Int), (B : Nat), (z : Nat)⟩ := by rw [Int.natCast_add]
  have hp : InsOk ⟨((t + k : Nat) : Int), (B : Nat), (z : Nat)⟩ (A : Int) F := ⟨by simp only; omega, by simp only; omega, by simp only; omega, by simp only; rw [ec]; omega, by simp only; omega, by simp only; omega, .inl (by simp only; rw [ec]; omega)⟩
  have r1 := hR (t + k) B z b hb.ok (by rw [hb.fr]; exact hp)
  rw [hb.fr] at r1
  simp only [Int.toNat_natCast] at r1
  have q2 := hb.rek hK ⟨((t + k : Nat) : Int), (B : Nat), (z : Nat)⟩
  have hcl := q2.le
  have es : scatterS (x.dst + k) z B A = scatterS ((d + k : Nat) : Int) (z : Nat) (B : Nat) (A : Nat) := by rw [hxd, Int.natCast_add]
  have hin : ∀ i q : Nat, i < B → q < A → i + q * B < A * B := fun i q hi hq => by
    have : (q + 1) * B ≤ A * B := Nat.mul_le_mul_right B hq
    rw [Nat.succ_mul] at this; omega
  unfold timesK
  rw [e, es]
  refine (r1.trans (Runs.add (eff_scatter (by omega) (.inr (by omega)) fun i hi => by have := hin k i hk hi; omega))).mono ?_
  rintro m m' ⟨y, ⟨y1, y2⟩, w1, w2⟩ c ⟨i1, i2⟩
  have hy : ∀ p, p < z → y p = m p := fun p hp => y2 p (by omega) (.inl hp)
  refine ⟨fun i hi q hq => ?_, fun p hp hd => ?_⟩
  · by_cases h : i = k
    · subst h
      rw [w1 q hq, y1 q hq]
      refine hL _ _ (fun j hj => i2 _ ?_ fun i' hi' q' hq' => ?_) q
      · have := hin i j hk hj; omega
      · have h1 := hin i' q' (by omega) hq'; omega
    · rw [w2 _ fun q' hq' e => grid_ne (i := i) (i' := k) (q := q) (q' := q') (J := B) (by omega) hk (by omega)]
      rw [hy _ (by have := hin i q (by omega) hq; omega)]
      exact i1 i (by omega) q hq
  · rw [w2 p fun q' hq' => hd k (by omega) q' hq', hy p hp]
    exact i2 p hp fun i hi => hd i (by omega)
theorem deep_tr {o : Ord} (h : GO o) : DeepTr (deepM o) (sl o) (trM o) := by
  have D : ∀ {o : Ord} (x : Inst) {b : Bld} {Φ : (Nat → Cx) → (Nat → Cx) → Prop}, (b.full = false → Runs b (deepM o x b) Φ) → Runs b (deepM o x b) Φ := by
    intro o x b Φ h hf
    by_cases hb : b.full = true
    · rw [deepM_full hb, hb] at hf; cases hf
    · exact h (by simpa using hb) hf
  have hnat : ∀ {n : Int}, 0 ≤ n → ∃ m : Nat, n = m := fun {n} h => ⟨n.toNat, by omega⟩
  induction h with
  | @direct n h1 h2 =>
    intro s J d b hb hx
    obtain ⟨n, rfl⟩ := hnat (n := n) (by omega)
    obtain ⟨s0, j1, j2, sL, d0, dL, dis⟩ : InsOk ⟨s, J, d⟩ (n : Int) b.fr := hx
    have ec : ((n : Int) - 1) * J = (((n - 1) * J : Nat) : Int) := by rw [Int.natCast_mul, Int.natCast_sub (by omega)]; rfl
    simp only at sL dL dis
    rw [ec] at sL dis
    have hf1 := hb.f1
    refine D _ fun hf => ?_
    rw [deepM_direct hf rfl]
    refine Runs.back ((Runs.add (eff_direct (by omega) (by omega) (by show _ ≤ b.cl; omega))).mono ?_)
    rintro c c' ⟨w1, w2⟩
    show Tr1 (n : Int).toNat _ s J d b.fr.toNat c c'
    rw [trM_direct]
    simp only [Int.toNat_natCast]
    exact ⟨fun k hk => w1 k hk, fun q _ hq => w2 q hq⟩
  | @fly n h1 h2 =>
    intro s J d b hb hx
    obtain ⟨n, rfl⟩ := hnat (n := n) (by omega)
    obtain ⟨s0, j1, j2, sL, d0, dL, dis⟩ : InsOk ⟨s, J, d⟩ (n : Int) b.fr := hx
    have ec : ((n : Int) - 1) * J = (((n - 1) * J : Nat) : Int) := by rw [Int.natCast_mul, Int.natCast_sub (by omega)]; rfl
    simp only at sL dL dis
    rw [ec] at sL dis
    have hf1 := hb.f1
    refine D _ fun hf => ?_
    rw [deepM_fly hf rfl]
    have r1 : Runs b (b.add (gatherS (d : Nat) (s : Nat) (J : Nat) (n : Nat))) _ := Runs.add (eff_gather (by omega) (by show _ ≤ b.cl; omega))
    have r2 : Runs (b.add (gatherS (d : Nat) (s : Nat) (J : Nat) (n : Nat))) ((b.add (gatherS (d : Nat) (s : Nat) (J : Nat) (n : Nat))).add (flyS (d : Nat) ((1 : Nat) : Int) ((1 : Nat) : Int) (n : Nat))) _ := Runs.add (eff_fly (by omega) (by omega) fun i hi q hq => by rw [add_cl]; omega)
    refine Runs.back ((r1.trans r2).mono ?_)
    rintro c c' ⟨y, ⟨w1, w2⟩, v1, v2⟩
    show Tr1 (n : Int).toNat _ s J d b.fr.toNat c c'
    rw [trM_fly]
    simp only [Int.toNat_natCast]
    refine ⟨fun k hk => ?_, fun q _ hq => ?_⟩
    · have := v1 0 (by omega) k hk
      rw [show d + 0 + k * 1 = d + k by omega] at this
      rw [this, mapr_congr (y := fun j => c (s + j * J)) fun q hq => by rw [show d + 0 + q * 1 = d + q by omega]; exact w1 q hq]
    · rw [v2 q fun i hi q' hq' => by omega, w2 q hq]
  | @times a b ga gb h2 h3 h4 ia ib =>
    intro s J d c hc hx
    have hx0 : InsOk ⟨s, J, d⟩ (a.len * b.len) c.fr := hx
    have ka := deepM_keeps ga
    have kb := deepM_keeps gb
    have la := trM_loc ga
    have lb := trM_loc gb
    rw [← len_sl (show a.len ≠ 0 by omega)] at ia la
    rw [← len_sl (show b.len ≠ 0 by omega)] at ib lb
    have hsz : (sl (.mk 3 0 [a, b])).toNat = a.len.toNat * b.len.toNat := by
      show (a.len * b.len).toNat = _
      rw [Int.toNat_mul (by omega) (by omega)]
    have hlb := len_bd b
    refine D _ fun hf => ?_
    rw [deepM_times hf rfl rfl, hsz]
    have hcl := (full_false hf).2.1
    have hfr := hc.f1
    have hf0 := hc.f0
    obtain ⟨f, hfe⟩ := hnat hf0
    obtain ⟨A, hA⟩ := hnat (show 0 ≤ a.len by omega)
    obtain ⟨B, hB⟩ := hnat (show 0 ≤ b.len by omega)
    rw [hA, hB, hfe] at hx0
    rw [hA] at ia la
    rw [hB] at ib lb
    rw [trM_times, hA, hB, hfe]
    simp only [Int.toNat_natCast] at la lb ⊢
    have hx1 := hx0
    obtain ⟨s0, j1, j2, sL, d0, dL, dis⟩ := hx1
    have hA2 : 2 ≤ A := by omega
    have hB2 : 2 ≤ B := by omega
    have hAB : 1 ≤ A * B := Nat.mul_le_mul (show 1 ≤ A by omega) (show 1 ≤ B by omega)
    have hAB4 : A * B ≤ 16384 := by
      rw [hA, hB] at h4
      have : ((A * B : Nat) : Int) ≤ 16384 := by rw [Int.natCast_mul]; exact h4
      omega
    have e0 : (A - 1) * B + B = A * B := by rw [← Nat.succ_mul]; congr 1; omega
    have hAl : A * 2 ≤ A * B := Nat.mul_le_mul_left A hB2
    have ec : ((A : Int) * B - 1) * J = (((A * B - 1) * J : Nat) : Int) := by
      rw [Int.natCast_mul, Int.natCast_sub hAB, Int.natCast_mul]; rfl
    simp only at sL dL dis
    rw [ec] at sL dis
    rw [← Int.natCast_mul] at dL dis
    have hin : ∀ i q : Nat, i < B → q < A → i + q * B < A * B := fun i q hi hq => by
      have : (q + 1) * B ≤ A * B := Nat.mul_le_mul_right B hq
      rw [Nat.succ_mul] at this; omega
    have hkq : ∀ k, k < A * B → k % B < B ∧ k / B < A ∧ k % B + k / B * B = k := fun k hk => by
      refine ⟨Nat.mod_lt _ (by omega), Nat.div_lt_of_lt_mul (by rw [Nat.mul_comm]; exact hk), ?_⟩
      have := Nat.mod_add_div k B
      rw [Nat.mul_comm B] at this
      exact this
    refine Runs.back ?_
    unfold timesM
    by_cases hk : a.kind = 2
    · rw [if_pos (by simpa using hk)]
      have har : trM a = fun x i => (flyG ((List.range A).map x)).getD i z0 := by
        have hl := len_sl (show a.len ≠ 0 by omega)
        cases ga with
        | @fly n p1 p2 =>
          have e1 : sl (.mk 2 n []) = n := rfl
          rw [trM_fly, show n.toNat = A by omega]
        | direct _ _ => exact absurd (show (1 : Int) = 2 from hk) (by decide)
        | times _ _ _ _ _ => exact absurd (show (3 : Int) = 2 from hk) (by decide)
        | blue _ _ _ _ => exact absurd (show (4 : Int) = 2 from hk) (by decide)
      obtain ⟨q1, r1⟩ := Runs.fold (Q := Fq f) (F := timesJ (deepM b) ⟨s, J, d⟩ A B d) (I := IJ A B (trM b) s J d f) (fun c => ⟨fun i hi => absurd hi (Nat.not_lt_zero i), fun _ _ _ => rfl⟩) (fun e j he => he.kp (timesJ_keeps kb _ _ _ _ e j he.ok)) A (fun j hj e he => timesJ_runs ib kb lb hx0 hA2 hB2 (by omega) (Nat.le_refl _) (by omega) (by omega) j hj e he) c ⟨hc, hfe⟩
      have hq := q1.le
      simp only [Int.toNat_natCast]
      refine (r1.trans (Runs.add (eff_fly (J := B) (m := B) (r := A) (by omega) (Nat.le_refl _) fun i hi q hq => by have := hin i q hi hq; omega))).mono ?_
      rintro m m' ⟨y, ⟨i1, i2⟩, v1, v2⟩
      refine ⟨fun k hk => ?_, fun q hq hd => ?_⟩
      · obtain ⟨e1, e2, e3⟩ := hkq k hk
        have := v1 (k % B) e1 (k / B) e2
        rw [show d + k % B + k / B * B = d + k by omega] at this
        rw [this]
        unfold trT
        rw [har, mapr_congr fun q hq => ?_]
        rw [show d + k % B + q * B = d + q * B + k % B by omega]
        exact i1 q hq (k % B) e1
      · rw [v2 q fun i hi q' hq' => by have := hin i q' hi hq'; omega]
        exact i2 q hq hd
    · rw [if_neg (by simpa using hk)]
      simp only
      have hr : Fq ((f + A * B + A : Nat) : Int) ((c.region ((A : Int) * B)).region A) := by
        have h9 : ((A : Int) * B) = ((A * B : Nat) : Int) := (Int.natCast_mul ..).symm
        have := ((⟨hc, hfe⟩ : Fq f c).region (n := (A : Int) * B) (by rw [h9]; omega) (by rw [h9]; omega)).region (n := (A : Int)) (by omega) (by rw [h9]; omega)
        rw [h9, ← Int.natCast_add, ← Int.natCast_add] at this
        rw [h9]; exact this
      have ez : (f : Int) + (A : Int) * B = ((f + A * B : Nat) : Int) := by rw [Int.natCast_add, Int.natCast_mul]
      rw [hfe, ez]
      obtain ⟨q1, r1⟩ := Runs.fold (Q := Fq ((f + A * B + A : Nat) : Int)) (F := timesJ (deepM b) ⟨s, J, d⟩ A B f) (I := IJ A B (trM b) s J f (f + A * B + A)) (fun c => ⟨fun i hi => absurd hi (Nat.not_lt_zero i), fun _ _ _ => rfl⟩) (fun e j he => he.kp (timesJ_keeps kb _ _ _ _ e j he.ok)) A (fun j hj e he => timesJ_runs ib kb lb hx0 hA2 hB2 (by omega) (by omega) (by omega) (by omega) j hj e he) _ hr
      obtain ⟨q2, r2⟩ := Runs.fold (Q := Fq ((f + A * B + A : Nat) : Int)) (F := timesK (deepM a) ⟨s, J, d⟩ A B f ((f + A * B : Nat) : Int)) (I := IK A B (trM a) f (f + A * B) d) (fun c => ⟨fun i hi => absurd hi (Nat.not_lt_zero i), fun _ _ _ => rfl⟩) (fun e j he => he.kp (timesK_keeps ka _ _ _ _ _ e j he.ok)) B (fun j hj e he => timesK_runs rfl ia ka la hA2 hB2 (by omega) (Nat.le_refl _) (Nat.le_refl _) (by omega) j hj e he) _ q1
      simp only [Int.toNat_natCast]
      refine ((((Runs.region c ((A : Int) * B)).trans (Runs.region _ (A : Int))).trans r1).trans r2).mono ?_
      rintro m m' ⟨y2, ⟨y1, ⟨y0, rfl, rfl⟩, j1, j2⟩, k1, k2⟩
      refine ⟨fun k hk => ?_, fun q hq hd => ?_⟩
      · obtain ⟨e1, e2, e3⟩ := hkq k hk
        have := k1 (k % B) e1 (k / B) e2
        rw [show d + k % B + k / B * B = d + k by omega] at this
        rw [this]
        unfold trT
        refine la _ _ (fun j hj => ?_) _
        rw [show f + k % B + j * B = f + j * B + k % B by omega]
        exact j1 j hj (k % B) e1
      · rw [k2 q (by omega) fun i hi q' hq' => by have := hin i q' hi hq'; omega]
        exact j2 q (by omega) (.inl hq)
  | @blue n a h1 h2 ga h3 ia =>
    intro s J d c hc hx
    have hx0 : InsOk ⟨s, J, d⟩ n c.fr := hx
    have ka := deepM_keeps ga
    have la := trM_loc ga
    have hm := len_bd a
    rw [← len_sl (show a.len ≠ 0 by omega)] at ia la
    refine D _ fun hf => ?_
    rw [deepM_blue hf rfl rfl]
    have hcl := (full_false hf).2.1
    have hfr := hc.f1
    have hf0 := hc.f0
    obtain ⟨f, hfe⟩ := hnat hf0
    obtain ⟨M, hM⟩ := hnat (show 0 ≤ a.len by omega)
    obtain ⟨n, rfl⟩ := hnat (n := n) (by omega)
    obtain ⟨s0, j1, j2, sL, d0, dL, dis⟩ := hx0
    have ec : ((n : Int) - 1) * J = (((n - 1) * J : Nat) : Int) := by rw [Int.natCast_mul, Int.natCast_sub (by omega)]; rfl
    simp only at sL dL dis
    rw [ec] at sL dis
    refine Runs.back ?_
    show Runs c (blueM (deepM a) (n : Int) a.len ⟨s, J, d⟩ c) (Tr1 (n : Int).toNat (trM (.mk 4 n [a])) s J d c.fr.toNat)
    rw [trM_blue, hM, hfe]
    rw [hM] at ia la
    simp only [Int.toNat_natCast] at la ⊢
    unfold blueM
    simp only [Blu.of, Blu.first, Blu.fill, Blu.second, Blu.last, Bld.adds, List.foldl_cons, List.foldl_nil]
    rw [hfe, show (f : Int) + M = ((f + M : Nat) : Int) from (Int.natCast_add ..).symm, show ((f + M : Nat) : Int) + M = ((f + M + M : Nat) : Int) from (Int.natCast_add ..).symm, show ((f + M + M : Nat) : Int) + M = ((f + M + M + M : Nat) : Int) from (Int.natCast_add ..).symm, show (f : Int) + n = ((f + n : Nat) : Int) from (Int.natCast_add ..).symm, show (M : Int) - n = ((M - n : Nat) : Int) from (Int.natCast_sub (by omega)).symm]
    have hr := ((((⟨hc, hfe⟩ : Fq f c).region (n := (M : Int)) (by omega) (by omega)).region (n := (M : Int)) (by omega) (by omega)).region (n := (M : Int)) (by omega) (by omega)).region (n := (M : Int)) (by omega) (by omega)
    rw [← Int.natCast_add, ← Int.natCast_add, ← Int.natCast_add, ← Int.natCast_add] at hr
    have r0 := (((Runs.region c (M : Int)).trans (Runs.region _ (M : Int))).trans (Runs.region _ (M : Int))).trans (Runs.region _ (M : Int))
    generalize (((c.region (M : Int)).region (M : Int)).region (M : Int)).region (M : Int) = c0 at hr r0 ⊢
    have ii : ∀ u p : Nat, u + M ≤ f + M + M + M + M → p + M ≤ f + M + M + M + M → (u + M ≤ p ∨ p + M ≤ u) → InsOk ⟨(u : Nat), ((1 : Nat) : Int), (p : Nat)⟩ (M : Int) ((f + M + M + M + M : Nat) : Int) := fun u p a3 a4 a5 => ⟨by simp only; omega, by simp only; omega, by simp only; omega, by simp only; omega, by simp only; omega, by simp only; omega, by simp only; omega⟩
    have tr : ∀ (u p : Nat) (e : Bld), Fq ((f + M + M + M + M : Nat) : Int) e → u + M ≤ f + M + M + M + M → p + M ≤ f + M + M + M + M → (u + M ≤ p ∨ p + M ≤ u) → Runs e (deepM a ⟨(u : Nat), 1, (p : Nat)⟩ e) (Tr1 M (trM a) u 1 p (f + M + M + M + M)) := fun u p e he a3 a4 a5 => by
      have := ia u 1 p e he.ok (by rw [he.fr]; exact ii u p a3 a4 a5)
      rw [he.fr] at this
      have h9 : Runs e (deepM a ⟨(u : Nat), ((1 : Nat) : Int), (p : Nat)⟩ e) (Tr1 M (trM a) u 1 p (f + M + M + M + M)) := by simpa only [Int.toNat_natCast] using this
      exact h9
    have hl0 := hr.le
    have q1 := hr.add (gatherS (f : Nat) (s : Nat) (J : Nat) (n : Nat))
    have a1 := Runs.add (eff_gather (N := c0.cl) (d := f) (s := s) (J := J) (n := n) (by omega) (by omega))
    have hl1 := q1.le
    have q2 := q1.add (zeroS ((f + n : Nat) : Int) ((M - n : Nat) : Int))
    have a2 := Runs.add (b := c0.add (gatherS (f : Nat) (s : Nat) (J : Nat) (n : Nat))) (eff_zero (d := f + n) (n := M - n) (by omega))
    have hl2 := q2.le
    have q3 := q2.add (chirpS (f : Nat) (n : Nat) (n : Nat))
    have a3 := Runs.add (b := (c0.add (gatherS (f : Nat) (s : Nat) (J : Nat) (n : Nat))).add (zeroS ((f + n : Nat) : Int) ((M - n : Nat) : Int))) (eff_chirp (d := f) (m := n) (n := n) (by omega))
    have r3 := ((r0.trans a1).trans a2).trans a3
    clear a1 a2 a3 q1 q2 hl1 hl2 r0
    generalize ((c0.add (gatherS (f : Nat) (s : Nat) (J : Nat) (n : Nat))).add (zeroS ((f + n : Nat) : Int) ((M - n : Nat) : Int))).add (chirpS (f : Nat) (n : Nat) (n : Nat)) = c3 at r3 q3 ⊢
    have r4 := r3.trans (tr f (f + M + M) c3 q3 (by omega) (by omega) (by omega))
    have q4 := q3.rek ka ⟨(f : Nat), 1, ((f + M + M : Nat) : Int)⟩
    clear r3 q3
    generalize deepM a ⟨(f : Nat), 1, ((f + M + M : Nat) : Int)⟩ c3 = c4 at r4 q4 ⊢
    have hl4 := q4.le
    have r5 := r4.trans (Runs.add (eff_fill (N := c4.cl) (d := f + M) (m := M) (n := n) (by omega)))
    have q5 := q4.add (fillS ((f + M : Nat) : Int) (M : Nat) (n : Nat))
    clear r4 q4 hl4
    generalize c4.add (fillS ((f + M : Nat) : Int) (M : Nat) (n : Nat)) = c5 at r5 q5 ⊢
    have r6 := r5.trans (tr (f + M) (f + M + M + M) c5 q5 (by omega) (by omega) (by omega))
    have q6 := q5.rek ka ⟨((f + M : Nat) : Int), 1, ((f + M + M + M : Nat) : Int)⟩
    clear r5 q5
    generalize deepM a ⟨((f + M : Nat) : Int), 1, ((f + M + M + M : Nat) : Int)⟩ c5 = c6 at r6 q6 ⊢
    have hl6 := q6.le
    have r7 := r6.trans (Runs.add (eff_times (N := c6.cl) (d := f + M + M) (s := f + M + M + M) (n := M) (by omega) (by omega)))
    have q7 := q6.add (tmsS ((f + M + M : Nat) : Int) ((f + M + M + M : Nat) : Int) (M : Nat))
    clear r6 q6 hl6
    generalize c6.add (tmsS ((f + M + M : Nat) : Int) ((f + M + M + M : Nat) : Int) (M : Nat)) = c7 at r7 q7 ⊢
    have hl7 := q7.le
    have r8 := r7.trans (Runs.add (eff_conj (N := c7.cl) (d := f + M + M) (n := M) (by omega)))
    have q8 := q7.add (conjS ((f + M + M : Nat) : Int) (M : Nat))
    clear r7 q7 hl7
    generalize c7.add (conjS ((f + M + M : Nat) : Int) (M : Nat)) = c8 at r8 q8 ⊢
    have r9 := r8.trans (tr (f + M + M) f c8 q8 (by omega) (by omega) (by omega))
    have q9 := q8.rek ka ⟨((f + M + M : Nat) : Int), 1, (f : Nat)⟩
    clear r8 q8
    generalize deepM a ⟨((f + M + M : Nat) : Int), 1, (f : Nat)⟩ c8 = c9 at r9 q9 ⊢
    have hl9 := q9.le
    have q10 := q9.add (conjS (f : Nat) (n : Nat))
    have r10 := r9.trans (Runs.add (eff_conj (N := c9.cl) (d := f) (n := n) (by omega)))
    clear r9 q9 hl9
    generalize c9.add (conjS (f : Nat) (n : Nat)) = c10 at r10 q10 ⊢
    have hl10 := q10.le
    have q11 := q10.add (overS (f : Nat) (n : Nat) (M : Nat))
    have r11 := r10.trans (Runs.add (eff_over (N := c10.cl) (d := f) (n := n) (m := M) (by omega)))
    clear r10 q10 hl10
    generalize c10.add (overS (f : Nat) (n : Nat) (M : Nat)) = c11 at r11 q11 ⊢
    have hl11 := q11.le
    have q12 := q11.add (gatherS (d : Nat) (f : Nat) ((1 : Nat) : Int) (n : Nat))
    have r12 := r11.trans (Runs.add (eff_gather (N := c11.cl) (d := d) (s := f) (J := 1) (n := n) (by omega) (by omega)))
    clear r11 q11 hl11
    have hl12 := q12.le
    have r13 := r12.trans (Runs.add (b := c11.add (gatherS (d : Nat) (f : Nat) ((1 : Nat) : Int) (n : Nat))) (eff_chirp (d := d) (m := n) (n := n) (by omega)))
    refine Runs.mono r13 ?_
    clear r13 r12 q12 hl12 tr ii
    rintro m m' ⟨g12, ⟨g11, ⟨g10, ⟨g9, ⟨g8, ⟨g7, ⟨g6, ⟨g5, ⟨g4, ⟨g3, ⟨g2, ⟨g1, ⟨g0, ⟨x3, ⟨x2, ⟨x1, rfl, rfl⟩, rfl⟩, rfl⟩, w1⟩, w2⟩, w3⟩, w4⟩, w5⟩, w6⟩, w7⟩, w8⟩, w9⟩, w10⟩, w11⟩, w12⟩, w13⟩
    simp only [Wr] at w1 w2 w3 w5 w7 w8 w10 w11 w12 w13
    have hU : ∀ j, j < M → g3 (f + j * 1) = if j < n then mulC (g0 (s + j * J)) (chirpF n j) else z0 := fun j hj => by
      rw [Nat.mul_one]
      by_cases h : j < n
      · rw [if_pos h, w3.1 j h, w2.2 _ (by omega), w1.1 j h]
      · rw [if_neg h, w3.2 _ (by omega), show f + j = f + n + (j - n) by omega, w2.1 _ (by omega)]
    have hP : ∀ i, i < M → g6 (f + M + M + i) = trM a (fun j => if j < n then mulC (g0 (s + j * J)) (chirpF n j) else z0) i := fun i hi => by
      rw [w6.2 _ (by omega) (by omega), w5.2 _ (by omega), w4.1 i hi]
      exact la _ _ hU i
    have hQ : ∀ i, i < M → g6 (f + M + M + M + i) = trM a (otherF n M) i := fun i hi => by
      rw [w6.1 i hi]
      exact la _ _ (fun j hj => by rw [Nat.mul_one, w5.1 j hj]) i
    have hR : ∀ k, k < M → g9 (f + k) = trM a (fun i => conjC (mulC (trM a (fun j => if j < n then mulC (g0 (s + j * J)) (chirpF n j) else z0) i) (trM a (otherF n M) i))) k := fun k hk => by
      rw [w9.1 k hk]
      refine la _ _ (fun i hi => ?_) k
      rw [Nat.mul_one, w8.1 i hi]
      rw [w7.1 i hi]
      rw [hP i hi, hQ i hi]
    refine ⟨fun k hk => ?_, fun q hq hd => ?_⟩
    · rw [w13.1 k hk]
      rw [w12.1 k hk]
      rw [Nat.mul_one, w11.1 k hk]
      rw [w10.1 k hk]
      rw [hR k (by omega)]
      rfl
    · rw [w13.2 q hd, w12.2 q hd, w11.2 q (by omega), w10.2 q (by omega), w9.2 q (by omega) (by omega), w8.2 q (by omega), w7.2 q (by omega), w6.2 q (by omega) (by omega), w5.2 q (by omega), w4.2 q (by omega) (by omega), w3.2 q (by omega), w2.2 q (by omega), w1.2 q (by omega)]
end Go.Tm
namespace Go.Tm
structure Grow (b r : Bld) (s a c : Int) : Prop where
  st : (r.steps.length : Int) ≤ b.steps.length + s
  ac : r.acts ≤ b.acts + a
  cl : r.cl ≤ b.cl ∨ r.cl ≤ b.fr + c
  fr : r.fr = b.fr
theorem Grow.refl (b : Bld) : Grow b b 0 0 0 := ⟨by omega, by omega, .inl (Int.le_refl _), rfl⟩
theorem Grow.mono {b r : Bld} {s a c s' a' c' : Int} (h : Grow b r s a c) (h1 : s ≤ s') (h2 : a ≤ a') (h3 : c ≤ c') : Grow b r s' a' c' := by
  obtain ⟨e1, e2, e3, e4⟩ := h
  exact ⟨by omega, by omega, by omega, e4⟩
theorem Grow.then {b r t : Bld} {s a c s' a' : Int} (h : Grow b r s a c) (g : Grow r t s' a' c) : Grow b t (s + s') (a + a') c := by
  obtain ⟨e1, e2, e3, e4⟩ := h
  obtain ⟨f1, f2, f3, f4⟩ := g
  rw [e4] at f3 f4
  exact ⟨by omega, by omega, by omega, f4⟩
theorem actsM_le {s : Stp} {k : Int} (h0 : 0 ≤ k) (h : s.count ≤ k) : actsM s ≤ k := by unfold actsM; split <;> omega
theorem Grow.add (b : Bld) (x : Stp) {k : Int} (h0 : 0 ≤ k) (h : x.count ≤ k) : Grow b (b.add x) 1 k 0 := by
  have := actsM_le h0 h
  by_cases hf : b.full = true
  · rw [add_full hf]; exact (Grow.refl b).mono (by omega) h0 (Int.le_refl _)
  · rw [add_not (by simpa using hf)]
    exact ⟨by simp, by simp only; omega, .inl (Int.le_refl _), rfl⟩
theorem Grow.and {b r : Bld} {s a c : Int} (h : Grow b r s a c) (x : Stp) {k : Int} (hc : 0 ≤ c) (h0 : 0 ≤ k) (hk : x.count ≤ k) : Grow b (r.add x) (s + 1) (a + k) c := h.then ((Grow.add r x h0 hk).mono (Int.le_refl _) (Int.le_refl _) hc)
def DG (R : Inst → Bld → Bld) (s a c : Int) : Prop := ∀ x b, Grow b (R x b) s a c
theorem foldl_grow {F : Bld → Nat → Bld} {s a c : Int} (hc : 0 ≤ c) (hF : ∀ b j, Grow b (F b j) s a c) : ∀ (l : List Nat) (b : Bld), Grow b (l.foldl F b) (l.length * s) (l.length * a) c
  | [], b => (Grow.refl b).mono (by simp) (by simp) hc
  | j :: t, b => by
    have h1 := (hF b j).then (foldl_grow hc hF t (F b j))
    have e1 : ((j :: t).length : Int) * s = s + t.length * s := by rw [List.length_cons]; push_cast; rw [Int.add_mul, Int.one_mul, Int.add_comm]
    have e2 : ((j :: t).length : Int) * a = a + t.length * a := by rw [List.length_cons]; push_cast; rw [Int.add_mul, Int.one_mul, Int.add_comm]
    rw [e1, e2]
    exact h1
theorem Grow.fr0 {b r : Bld} {s a c : Int} (h : Grow b r s a c) : Grow b { r with fr := b.fr } s a c := ⟨h.st, h.ac, h.cl, rfl⟩
theorem deep_full_or {o : Ord} {s a c : Int} (hs : 0 ≤ s) (ha : 0 ≤ a) (hc : 0 ≤ c) (h : ∀ x b, b.full = false → Grow b (deepM o x b) s a c) : DG (deepM o) s a c := by
  intro x b
  by_cases hf : b.full = true
  · rw [deepM_full hf]; exact (Grow.refl b).mono hs ha hc
  · exact h x b (by simpa using hf)
theorem dg_direct {n : Int} (h : 0 ≤ n) : DG (deepM (.mk 1 n [])) 1 n 0 :=
  deep_full_or (by omega) h (by omega) fun x b hf => by
    rw [deepM_direct hf rfl]
    exact (Grow.add b (directS x n) h (Int.le_refl _)).fr0
theorem dg_fly {n : Int} (h : 0 ≤ n) : DG (deepM (.mk 2 n [])) 2 (n + 1) 0 :=
  deep_full_or (by omega) (by omega) (by omega) fun x b hf => by
    rw [deepM_fly hf rfl]
    exact ((Grow.add b (gatherS x.dst x.src x.jump n) h (Int.le_refl _)).and (flyS x.dst 1 1 n) (Int.le_refl _) (show (0 : Int) ≤ 1 by omega) (Int.le_refl _)).fr0
theorem timesJ_grow {R : Inst → Bld → Bld} {s a c : Int} (h : DG R s a c) (hc : 0 ≤ c) (x : Inst) (la lb t : Int) (hb : 0 ≤ lb) (b : Bld) (j : Nat) : Grow b (timesJ R x la lb t b j) (s + 1) (a + lb) c := by
  unfold timesJ
  simp only
  have h1 := h ⟨x.src + j * x.jump, x.jump * la, t + j * lb⟩ b
  split
  · exact h1.and _ hc hb (Int.le_refl _)
  · exact h1.mono (by omega) (by omega) (Int.le_refl _)
theorem timesK_grow {R : Inst → Bld → Bld} {s a c : Int} (h : DG R s a c) (hc : 0 ≤ c) (x : Inst) (la lb t z : Int) (ha : 0 ≤ la) (b : Bld) (k : Nat) : Grow b (timesK R x la lb t z b k) (s + 1) (a + la) c := by
  unfold timesK
  exact (h ⟨t + k, lb, z⟩ b).and _ hc ha (Int.le_refl _)
theorem region_facts (b : Bld) (n : Int) : (b.region n).steps = b.steps ∧ (b.region n).acts = b.acts ∧ (b.region n).fr = b.fr + n ∧ ((b.region n).cl ≤ b.cl ∨ (b.region n).cl ≤ b.fr + n) := by
  refine ⟨rfl, rfl, rfl, ?_⟩
  simp only [Bld.region]
  split <;> omega
theorem dg_timesF {a b : Ord} {s ac c : Int} (hk : a.kind = 2) (hb : DG (deepM b) s ac c) (hc : 0 ≤ c) (hs : 0 ≤ s) (hac : 0 ≤ ac) :
    DG (deepM (.mk 3 0 [a, b])) (a.len * (s + 1) + 1) (a.len * (ac + b.len) + b.len) c := by
  have la := (len_bd a).1
  have lb := (len_bd b).1
  have n1 := Int.mul_nonneg la (show 0 ≤ s + 1 by omega)
  have n2 := Int.mul_nonneg la (show 0 ≤ ac + b.len by omega)
  refine deep_full_or (by omega) (by omega) hc fun x w hf => ?_
  rw [deepM_times hf rfl rfl]
  unfold timesM
  rw [if_pos (by simp [hk])]
  have h1 := foldl_grow hc (fun d j => timesJ_grow hb hc x a.len b.len x.dst lb d j) (List.range a.len.toNat) w
  rw [List.length_range, show ((a.len.toNat : Nat) : Int) = a.len by omega] at h1
  exact (h1.and (flyS x.dst b.len b.len a.len) hc lb (Int.le_refl _)).fr0
theorem dg_timesD {a b : Ord} {s ac c s' ac' c' : Int} (hk : a.kind ≠ 2) (ha : DG (deepM a) s' ac' c') (hb : DG (deepM b) s ac c) (hc : 0 ≤ c) (hc' : c' ≤ c) (hs : 0 ≤ s) (hac : 0 ≤ ac) (hs' : 0 ≤ s') (hac' : 0 ≤ ac') :
    DG (deepM (.mk 3 0 [a, b])) (a.len * (s + 1) + b.len * (s' + 1)) (a.len * (ac + b.len) + b.len * (ac' + a.len)) (a.len * b.len + a.len + c) := by
  have la := (len_bd a).1
  have lb := (len_bd b).1
  have n1 := Int.mul_nonneg la (show 0 ≤ s + 1 by omega)
  have n2 := Int.mul_nonneg la (show 0 ≤ ac + b.len by omega)
  have n3 := Int.mul_nonneg lb (show 0 ≤ s' + 1 by omega)
  have n4 := Int.mul_nonneg lb (show 0 ≤ ac' + a.len by omega)
  have n5 := Int.mul_nonneg la lb
  refine deep_full_or (by omega) (by omega) (by omega) fun x w hf => ?_
  rw [deepM_times hf rfl rfl]
  unfold timesM
  rw [if_neg (by simp [hk])]
  simp only
  have ha2 : DG (deepM a) s' ac' c := fun x b => (ha x b).mono (Int.le_refl _) (Int.le_refl _) hc'
  have h1 := foldl_grow hc (fun d j => timesJ_grow hb hc x a.len b.len w.fr lb d j) (List.range a.len.toNat) ((w.region (a.len * b.len)).region a.len)
  have h2 := h1.then (foldl_grow hc (fun d k => timesK_grow ha2 hc x a.len b.len w.fr (w.fr + a.len * b.len) la d k) (List.range b.len.toNat) _)
  rw [List.length_range, List.length_range, show ((a.len.toNat : Nat) : Int) = a.len by omega, show ((b.len.toNat : Nat) : Int) = b.len by omega] at h2
  obtain ⟨f1, f2, f3, f4⟩ := region_facts w (a.len * b.len)
  obtain ⟨g1, g2, g3, g4⟩ := region_facts (w.region (a.len * b.len)) a.len
  obtain ⟨e1, e2, e3, e4⟩ := h2
  rw [g1, f1] at e1
  rw [g2, f2] at e2
  exact ⟨e1, e2, by simp only; omega, rfl⟩
theorem Grow.adds {b r : Bld} {s a c k : Int} (h : Grow b r s a c) (hc : 0 ≤ c) (h0 : 0 ≤ k) : ∀ (l : List Stp), (∀ x ∈ l, x.count ≤ k) → Grow b (r.adds l) (s + l.length) (a + l.length * k) c := by
  intro l
  induction l generalizing r s a with
  | nil => intro _; exact h.mono (by simp) (by simp) (Int.le_refl _)
  | cons x t ih =>
    intro hl
    have := ih (h.and x hc h0 (hl x (List.mem_cons_self ..))) (fun y hy => hl y (List.mem_cons_of_mem _ hy))
    have e1 : s + ((x :: t).length : Int) = s + 1 + t.length := by rw [List.length_cons]; push_cast; omega
    have e2 : a + ((x :: t).length : Int) * k = a + k + t.length * k := by rw [List.length_cons]; push_cast; rw [Int.add_mul, Int.one_mul]; omega
    rw [e1, e2]
    exact this
theorem dg_blue {a : Ord} {n s ac c : Int} (ha : DG (deepM a) s ac c) (hn : 0 ≤ n) (hm : n ≤ a.len) (hc : 0 ≤ c) (hs : 0 ≤ s) (hac : 0 ≤ ac) :
    DG (deepM (.mk 4 n [a])) (3 * s + 10) (3 * ac + 10 * a.len) (4 * a.len + c) := by
  have la := (len_bd a).1
  refine deep_full_or (by omega) (by omega) (by omega) fun x w hf => ?_
  rw [deepM_blue hf rfl rfl]
  show Grow w { blueM (deepM a) n a.len x w with fr := w.fr } _ _ _
  unfold blueM
  simp only
  generalize hW : Blu.of n a.len w.fr = W
  have wn : W.n = n := by rw [← hW]; rfl
  have wm : W.m = a.len := by rw [← hW]; rfl
  have k1 := (Grow.refl ((((w.region a.len).region a.len).region a.len).region a.len)).mono (s' := 0) (a' := 0) (c' := c) (Int.le_refl _) (Int.le_refl _) hc
  have k2 := (k1.adds hc la (W.first x) (by
    intro y hy
    simp only [Blu.first, List.mem_cons, List.not_mem_nil, or_false] at hy
    rcases hy with rfl | rfl | rfl <;> simp only [gatherS, zeroS, chirpS] <;> omega)).then (ha ⟨W.u, 1, W.p⟩ _)
  have k3 := (k2.and W.fill hc la (by simp only [Blu.fill, fillS]; omega)).then (ha ⟨W.v, 1, W.q⟩ _)
  have k4 := (k3.adds hc la W.second (by
    intro y hy
    simp only [Blu.second, List.mem_cons, List.not_mem_nil, or_false] at hy
    rcases hy with rfl | rfl <;> simp only [tmsS, conjS] <;> omega)).then (ha ⟨W.p, 1, W.u⟩ _)
  have k5 := k4.adds hc la (W.last x) (by
    intro y hy
    simp only [Blu.last, List.mem_cons, List.not_mem_nil, or_false] at hy
    rcases hy with rfl | rfl | rfl | rfl <;> simp only [gatherS, overS, conjS, chirpS] <;> omega)
  obtain ⟨f1, f2, f3, f4⟩ := region_facts w a.len
  obtain ⟨g1, g2, g3, g4⟩ := region_facts (w.region a.len) a.len
  obtain ⟨h1, h2, h3, h4⟩ := region_facts ((w.region a.len).region a.len) a.len
  obtain ⟨i1, i2, i3, i4⟩ := region_facts (((w.region a.len).region a.len).region a.len) a.len
  obtain ⟨e1, e2, e3, e4⟩ := k5
  rw [i1, h1, g1, f1] at e1
  rw [i2, h2, g2, f2] at e2
  have l1 : (W.first x).length = 3 := rfl
  have l2 : W.second.length = 2 := rfl
  have l3 : (W.last x).length = 4 := rfl
  rw [l1, l2, l3] at e1 e2
  exact ⟨by simp only; omega, by simp only; omega, by simp only; omega, rfl⟩
end Go.Tm
namespace Go.Tm
structure V where
  s : Nat
  a : Nat
  c : Nat
  k : Nat
  d : Nat
def V.leB (x y : V) : Bool := decide (x.s ≤ y.s) && decide (x.a ≤ y.a) && decide (x.c ≤ y.c) && decide (x.k ≤ y.k) && decide (x.d ≤ y.d)
structure V.Le (x y : V) : Prop where
  s : x.s ≤ y.s
  a : x.a ≤ y.a
  c : x.c ≤ y.c
  k : x.k ≤ y.k
  d : x.d ≤ y.d
theorem V.le_of {x y : V} (h : x.leB y = true) : x.Le y := by
  simp only [V.leB, Bool.and_eq_true, decide_eq_true_eq] at h
  exact ⟨h.1.1.1.1, h.1.1.1.2, h.1.1.2, h.1.2, h.2⟩
def V.max (x y : V) : V := ⟨Nat.max x.s y.s, Nat.max x.a y.a, Nat.max x.c y.c, Nat.max x.k y.k, Nat.max x.d y.d⟩
theorem V.le_maxL (x y : V) : x.Le (x.max y) := ⟨Nat.le_max_left .., Nat.le_max_left .., Nat.le_max_left .., Nat.le_max_left .., Nat.le_max_left ..⟩
theorem V.le_maxR (x y : V) : y.Le (x.max y) := ⟨Nat.le_max_right .., Nat.le_max_right .., Nat.le_max_right .., Nat.le_max_right .., Nat.le_max_right ..⟩
theorem V.Le.refl (x : V) : x.Le x := ⟨Nat.le_refl _, Nat.le_refl _, Nat.le_refl _, Nat.le_refl _, Nat.le_refl _⟩
theorem V.Le.trans {x y z : V} (h : x.Le y) (g : y.Le z) : x.Le z := ⟨Nat.le_trans h.s g.s, Nat.le_trans h.a g.a, Nat.le_trans h.c g.c, Nat.le_trans h.k g.k, Nat.le_trans h.d g.d⟩
structure GoodV (n : Int) (o : Ord) (v : V) : Prop where
  g : DG (deepM o) v.s v.a v.c
  w : ∀ p d : Int, p + v.k ≤ 4096 → 1 ≤ d → d + v.d ≤ 17 → (wl o p d).2 = n ∧ (wl o p d).1 ≤ p + v.k
theorem GoodV.le {n : Int} {o : Ord} {v w : V} (h : GoodV n o v) (l : v.Le w) : GoodV n o w := by
  have l1 := l.s; have l2 := l.a; have l3 := l.c; have l4 := l.k; have l5 := l.d
  refine ⟨fun x b => (h.g x b).mono (by omega) (by omega) (by omega), fun p d h1 h2 h3 => ?_⟩
  have := h.w p d (by omega) h2 (by omega)
  exact ⟨this.1, by omega⟩
theorem GoodV.len {n : Int} {o : Ord} {v : V} (h : GoodV n o v) (hk : v.k ≤ 4096) (hd : v.d ≤ 16) : o.len = n := (h.w 0 1 (by omega) (by omega) (by omega)).1
def vD (n : Nat) : V := ⟨1, n, 0, 1, 1⟩
def vF (n : Nat) : V := ⟨2, n + 1, 0, 1, 1⟩
def tD (a b : Nat) (w : V) : V := ⟨a * (w.s + 1) + b * 2, a * (w.a + b) + b * (2 * a), a * b + a + w.c, w.k + 2, w.d + 1⟩
def tF (a b : Nat) (w : V) : V := ⟨a * (w.s + 1) + 1, a * (w.a + b) + b, w.c, w.k + 2, w.d + 1⟩
def vB (m : Nat) (w : V) : V := ⟨3 * w.s + 10, 3 * w.a + 10 * m, 4 * m + w.c, w.k + 1, w.d + 1⟩
theorem good_D {n : Nat} (h1 : 1 ≤ n) (h2 : n ≤ 64) : GoodV n (.mk 1 n []) (vD n) :=
  ⟨by simpa [vD] using dg_direct (n := n) (by omega), fun p d hp h3 h4 => by
    simp only [vD] at hp h4
    rw [wl_leaf (by omega) rfl, if_pos ⟨rfl, by simp only [Ord.n]; omega, by simp only [Ord.n]; omega⟩]
    exact ⟨rfl, by simp [vD]⟩⟩
theorem good_F {n : Nat} (h1 : 2 ≤ n) (h2 : n ≤ 5) : GoodV n (.mk 2 n []) (vF n) :=
  ⟨by simpa [vF] using dg_fly (n := n) (by omega), fun p d hp h3 h4 => by
    simp only [vF] at hp h4
    rw [wl_leaf (by omega) rfl, if_neg (by simp [Ord.kind]), if_pos ⟨rfl, by simp only [Ord.n]; omega, by simp only [Ord.n]; omega⟩]
    exact ⟨rfl, by simp [vF]⟩⟩
theorem wl_times {a b : Nat} {h o : Ord} {x w : V} (gh : GoodV a h x) (go : GoodV b o w) (hx : x.k = 1 ∧ x.d = 1) (ha : 2 ≤ a) (hb : 2 ≤ b) (hab : a * b ≤ 16384) (hw : 1 ≤ w.d) {p d : Int} (hp : p + (w.k + 2 : Nat) ≤ 4096) (h3 : 1 ≤ d) (h4 : d + (w.d + 1 : Nat) ≤ 17) :
    (wl (.mk 3 0 [h, o]) p d).2 = ((a * b : Nat) : Int) ∧ (wl (.mk 3 0 [h, o]) p d).1 ≤ p + (w.k + 2 : Nat) := by
  have w1 := gh.w (p + 1) (d + 1) (by omega) (by omega) (by omega)
  rw [wl_two (a := h) (b := o) (by omega) rfl, if_pos ⟨rfl, rfl⟩, w1.1, if_neg (by omega)]
  have hle := w1.2
  have w2 := go.w (wl h (p + 1) (d + 1)).1 (d + 1) (by omega) (by omega) (by omega)
  have e : (a : Int) * (b : Int) = ((a * b : Nat) : Int) := by push_cast; rfl
  rw [w2.1, e, if_neg (by omega)]
  exact ⟨rfl, by have := w2.2; simp only; omega⟩
theorem good_tD {a b : Nat} {o : Ord} {w : V} (go : GoodV b o w) (ha : 2 ≤ a) (ha2 : a ≤ 16) (hb : 2 ≤ b) (hab : a * b ≤ 16384) (hw : 1 ≤ w.d) (hk : w.k ≤ 4096) (hd : w.d ≤ 16) : GoodV ((a * b : Nat) : Int) (.mk 3 0 [.mk 1 a [], o]) (tD a b w) := by
  have gh := good_D (n := a) (by omega) (by omega)
  refine ⟨?_, fun p d hp h3 h4 => wl_times gh go ⟨rfl, rfl⟩ ha hb hab hw hp h3 h4⟩
  have h1 := dg_timesD (a := .mk 1 a []) (b := o) (by simp [Ord.kind]) gh.g go.g (by omega) (by simp only [vD]; omega) (by omega) (by omega) (by omega) (by omega)
  have la : (Ord.mk 1 (a : Int) []).len = a := gh.len (by simp [vD]) (by simp [vD])
  have lb : o.len = b := go.len hk hd
  rw [la, lb] at h1
  intro x bl
  refine (h1 x bl).mono ?_ ?_ ?_ <;> simp only [tD, vD] <;> push_cast
  · omega
  · have : (b : Int) * (2 * (a : Int)) = (b : Int) * ((a : Int) + (a : Int)) := by rw [Int.two_mul]
    omega
  · omega
theorem good_tF {a b : Nat} {o : Ord} {w : V} (go : GoodV b o w) (ha : 2 ≤ a) (ha2 : a ≤ 5) (hb : 2 ≤ b) (hab : a * b ≤ 16384) (hw : 1 ≤ w.d) (hk : w.k ≤ 4096) (hd : w.d ≤ 16) : GoodV ((a * b : Nat) : Int) (.mk 3 0 [.mk 2 a [], o]) (tF a b w) := by
  have gh := good_F (n := a) ha ha2
  refine ⟨?_, fun p d hp h3 h4 => wl_times gh go ⟨rfl, rfl⟩ ha hb hab hw hp h3 h4⟩
  have h1 := dg_timesF (a := .mk 2 a []) (b := o) rfl go.g (by omega) (by omega) (by omega)
  have la : (Ord.mk 2 (a : Int) []).len = a := gh.len (by simp [vF]) (by simp [vF])
  have lb : o.len = b := go.len hk hd
  rw [la, lb] at h1
  intro x bl
  refine (h1 x bl).mono ?_ ?_ ?_ <;> simp only [tF] <;> push_cast <;> omega
theorem good_B {n m : Nat} {o : Ord} {w : V} (go : GoodV m o w) (hn : 2 ≤ n) (hn2 : n ≤ 16384) (hm : 2 * n - 1 ≤ m) (hk : w.k ≤ 4096) (hd : w.d ≤ 16) : GoodV n (.mk 4 n [o]) (vB m w) := by
  have lb : o.len = m := go.len hk hd
  refine ⟨?_, fun p d hp h3 h4 => ?_⟩
  · have h1 := dg_blue (n := n) go.g (by omega) (by rw [lb]; omega) (by omega) (by omega) (by omega)
    rw [lb] at h1
    intro x bl
    refine (h1 x bl).mono ?_ ?_ ?_ <;> simp only [vB] <;> push_cast <;> omega
  · simp only [vB] at hp h4
    have w1 := go.w (p + 1) (d + 1) (by omega) (by omega) (by omega)
    rw [wl_one (a := o) (by omega) rfl, if_pos ⟨rfl, by simp only [Ord.n]; omega, by simp only [Ord.n]; omega⟩, w1.1, if_neg (by simp only [Ord.n]; omega)]
    exact ⟨rfl, by have := w1.2; simp only [vB]; omega⟩
def szF : Nat → Ord → Option (Nat × V)
  | 0, _ => none
  | f + 1, .mk k n ks => match ks with
    | [] => if k = 1 ∧ 1 ≤ n ∧ n ≤ 16 then some (n.toNat, vD n.toNat) else if k = 2 ∧ 2 ≤ n ∧ n ≤ 5 then some (n.toNat, vF n.toNat) else none
    | [.mk k1 n1 [], b] => if k = 3 ∧ n = 0 then
        match szF f b with
        | none => none
        | some (m, w) => if 2 ≤ n1 ∧ n1 ≤ 16 ∧ 2 ≤ m ∧ n1.toNat * m ≤ 16384 ∧ 1 ≤ w.d ∧ w.k ≤ 4096 ∧ w.d ≤ 16 then
            (if k1 = 1 then some (n1.toNat * m, tD n1.toNat m w) else if k1 = 2 ∧ n1 ≤ 5 then some (n1.toNat * m, tF n1.toNat m w) else none) else none
      else none
    | _ => none
theorem szF_good : ∀ (f : Nat) (o : Ord) {m : Nat} {v : V}, szF f o = some (m, v) → GoodV m o v
  | 0, _, _, _, h => by cases h
  | f + 1, .mk k n ks, m, v, h => by
    unfold szF at h
    split at h
    · split at h
      · rename_i h1
        obtain ⟨rfl, h2, h3⟩ := h1
        injection h with h
        injection h with h4 h5
        subst h4 h5
        have := good_D (n := n.toNat) (by omega) (by omega)
        rwa [show ((n.toNat : Nat) : Int) = n by omega] at this ⊢
      · split at h
        · rename_i h1
          obtain ⟨rfl, h2, h3⟩ := h1
          injection h with h
          injection h with h4 h5
          subst h4 h5
          have := good_F (n := n.toNat) (by omega) (by omega)
          rwa [show ((n.toNat : Nat) : Int) = n by omega] at this ⊢
        · cases h
    · rename_i k1 n1 b
      split at h
      · rename_i h1
        obtain ⟨rfl, rfl⟩ := h1
        split at h
        · cases h
        · rename_i m' w hb
          have gb := szF_good f b hb
          split at h
          · rename_i h2
            obtain ⟨c1, c2, c3, c4, c5, c6, c7⟩ := h2
            have e : ((n1.toNat : Nat) : Int) = n1 := by omega
            split at h
            · rename_i hk
              subst hk
              injection h with h
              injection h with h4 h5
              subst h4 h5
              have := good_tD gb (a := n1.toNat) (by omega) (by omega) c3 c4 c5 c6 c7
              rwa [e] at this
            · split at h
              · rename_i hk
                obtain ⟨rfl, hk⟩ := hk
                injection h with h
                injection h with h4 h5
                subst h4 h5
                have := good_tF gb (a := n1.toNat) (by omega) (by omega) c3 c4 c5 c6 c7
                rwa [e] at this
              · cases h
          · cases h
      · cases h
    · cases h
end Go.Tm
