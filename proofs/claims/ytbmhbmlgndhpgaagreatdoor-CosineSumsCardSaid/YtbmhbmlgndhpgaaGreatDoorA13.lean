/- Lemmas of this claim, joined by program. Walks of functions: the machine's run. Walks of functions: good programs. Conditions: each lemma names its own. -/
import Derived.Test.YtbmhbmlgndhpgaaGreatDoorA12
set_option linter.all false
namespace Go.Tm
open Go.RowKit Go.Proofs
abbrev MS (m r : Nat) : Nat → Prop := fun q => q = m ∨ r = q + 1
abbrev tblV : Array Value := #[.nilFunc, .func (.func 90) #[] #[], .func (.func 91) #[] #[], .func (.func 92) #[] #[], .func (.func 93) #[] #[], .func (.func 94) #[] #[], .func (.func 95) #[] #[], .func (.func 96) #[] #[], .func (.func 97) #[] #[], .func (.func 98) #[] #[], .func (.func 99) #[] #[], .func (.func 100) #[] #[]]
theorem tbl_cell {w : World} {p t : Nat} {op : Int} (h : Bk w p tblV t) (ho : op = 1 ∨ op = 5 ∨ op = 6) : w.cell? ((⟨p, 0, none⟩ : Addr).add (op.toNat * 1)) = some (.func (.func (tblF op)) #[] #[]) := by
  rcases ho with rfl | rfl | rfl
  · exact h.cell (i := 1) rfl
  · exact h.cell (i := 5) rfl
  · exact h.cell (i := 6) rfl
theorem bld125_1_2_3_4_5_6_7_8_9_10_11w42 {v1 v2 v3 v4 v5 v6 v7 v8 v9 v10 v11 : Value} (h : [v1, v2, v3, v4, v5, v6, v7, v8, v9, v10, v11].all Value.oneCell' = true) (w : World) : (Instr.build 125 ([(1, v1), (2, v2), (3, v3), (4, v4), (5, v5), (6, v6), (7, v7), (8, v8), (9, v9), (10, v10), (11, v11)] : List (Nat × Value)).toArray).run Tryz.prog w = .ok (.agg #[.nilFunc, v1, v2, v3, v4, v5, v6, v7, v8, v9, v10, v11]) w := by
  simp only [List.all_cons, Bool.and_eq_true, List.all_nil, and_true] at h
  have hv1 := oneCell_cells (v := v1) (by simp_all)
  have hv2 := oneCell_cells (v := v2) (by simp_all)
  have hv3 := oneCell_cells (v := v3) (by simp_all)
  have hv4 := oneCell_cells (v := v4) (by simp_all)
  have hv5 := oneCell_cells (v := v5) (by simp_all)
  have hv6 := oneCell_cells (v := v6) (by simp_all)
  have hv7 := oneCell_cells (v := v7) (by simp_all)
  have hv8 := oneCell_cells (v := v8) (by simp_all)
  have hv9 := oneCell_cells (v := v9) (by simp_all)
  have hv10 := oneCell_cells (v := v10) (by simp_all)
  have hv11 := oneCell_cells (v := v11) (by simp_all)
  have h1 := fill_set (fun i => some (i * 1, 1)) [(1, v1), (2, v2), (3, v3), (4, v4), (5, v5), (6, v6), (7, v7), (8, v8), (9, v9), (10, v10), (11, v11)] [.nilFunc, .nilFunc, .nilFunc, .nilFunc, .nilFunc, .nilFunc, .nilFunc, .nilFunc, .nilFunc, .nilFunc, .nilFunc, .nilFunc] (by simp [okF, agg_cells, hv1, hv2, hv3, hv4, hv5, hv6, hv7, hv8, hv9, hv10, hv11, Nat.beq, Nat.ble])
  simp [setF, agg_cells, hv1, hv2, hv3, hv4, hv5, hv6, hv7, hv8, hv9, hv10, hv11] at h1
  simp [Instr.build, Tryz.runUnderlying125, Tryz.zeroValue125, Tryz.sizeOf124, agg_cells, h1]
set_option maxRecDepth 100000 in
theorem m_table (w : World) :
  Calls Tryz.prog 68 #[] w (Ret (fun v w' => v = .agg tblV ∧ Ch No w w')) := by
 refine calls_of_VC (args := []) Tryz.func68 rfl Tryz.ntmps68 rfl (VC.seq (VC.region (VO.wk (Wk.alloc Tryz.zeroValue125) rfl rfl rfl ?_)))
 rintro _ w1 ⟨p1, rfl, N1⟩
 have c1 := N1.ch
 have e1 := N1.p; have z1 := N1.size
 have b0 := Bk.new N1
 refine VO.nil (VQ.then_code (VC.seq (VC.region (VO.mv (Rn.build rfl (bld125_1_2_3_4_5_6_7_8_9_10_11w42 rfl)) rfl rfl rfl (VO.wk0 (Wk.puts Tryz.sizeOf125 rfl rfl rfl rfl b0 (Nat.le_of_ble_eq_true rfl)) rfl rfl ?_)))))
 intro _ w2 Z2
 have c2 := Z2.ch; have z2 := Z2.size
 have b0_2 := Bk.put Z2
 refine VO.nil (VQ.then_code (VC.ret (VQ.retc rfl rfl Tryz.isAgg125 Tryz.sizeOf125 rfl (b0_2.all' rfl) (Ret.mk ?_))))
 have cc_0_2 : Ch No w w2 := (Ch.then (E := No) c1 c2 (by intro q h1 h2; rcases h2 with h2 | h2 <;> first | exact h2 | (exfalso; omega)))
 have CH_2 := (Ch.refl (No) w).and cc_0_2
 exact ⟨rfl, CH_2⟩
set_option maxRecDepth 100000 in
theorem m_Left (m : Nat) (b : Bld) (N : Nat) (SA : Option Addr) (sc : Nat) (bs : ByteArray) (CA : Option Addr) (ac dn st at_ : Int) (w : World) (bk : Bk w m (macV b N SA sc bs CA ac dn st at_) 121) (hac : 0 ≤ ac ∧ ac ≤ 1000000000) (hdn : 0 ≤ dn ∧ dn ≤ 1000000000) :
  Calls Tryz.prog 55 #[.pointer (some ⟨m, 0, none⟩)] w (Ret (fun v w' => v = .int .i64 (ac - dn) ∧ Ch No w w')) := by
 refine calls_of_VC (args := [.pointer (some ⟨m, 0, none⟩)]) Tryz.func55 rfl Tryz.ntmps55 rfl (VC.seq (VC.region (VO.mv (Rn.assign rfl) rfl rfl rfl (VO.nil (VQ.then_code (VC.seq (VC.draws 9 [(0, true), (1, true), (2, true), (3, true), (4, true), (5, true), (6, true), (7, true), (8, true)] (fun w1 w' => Ch (No) w1 w') mixed (by kernel_rfl) (fun _ _ => Ch.refl _ _) ?_)))))))
 intro w1 D1
 have c1 := Ch.of_drew D1; have z1 := c1.size
 have bk_1 := bk.keep c1
 refine VH.mv (fun w' hS => Rn.move rfl) rfl rfl rfl rfl (VH.mv (fun w' hS => Rn.nilCheck rfl) rfl rfl rfl rfl (VH.mv (fun w' hS => Rn.field Tryz.underlying121 rfl Tryz.sizeOf3 rfl rfl rfl) rfl rfl rfl rfl (VH.mv (fun w' hS => Rn.load Tryz.isAgg3 rfl ((bk_1.keep hS).cell rfl)) rfl rfl rfl rfl (VH.mv (fun w' hS => Rn.move rfl) rfl rfl rfl rfl (VH.mv (fun w' hS => Rn.nilCheck rfl) rfl rfl rfl rfl (VH.mv (fun w' hS => Rn.field Tryz.underlying121 rfl Tryz.sizeOf3 rfl rfl rfl) rfl rfl rfl rfl (VH.mv (fun w' hS => Rn.load Tryz.isAgg3 rfl ((bk_1.keep hS).cell rfl)) rfl rfl rfl rfl ?_)))))))
 refine VH.mv (fun w' hS => Rn.sub rfl rfl (by rw [IntKind.wrap_i64]; omega)) rfl rfl rfl rfl ?_
 refine VH.done (VO.mv (Rn.assign rfl) rfl rfl rfl (VO.nil (VQ.noPanic (VQ.then_code (VC.ret (VQ.ret1 rfl rfl (Ret.mk ?_)))))))
 have CH_1 := (Ch.refl (No) w).and c1
 exact ⟨rfl, CH_1⟩
set_option maxRecDepth 100000 in
theorem m_next (r : Nat) (m : Nat) (b : Bld) (N : Nat) (SA : Option Addr) (sc : Nat) (bs : ByteArray) (CA : Option Addr) (ac dn at_ : Int) (st : Nat) (w : World) (bk : Bk w m (macV b N SA sc bs CA ac dn st at_) 121) (S : Nat → Prop) (hS : ∀ q, S q → ¬ MS m r q) (ss : SlR S w SA b.steps.length 7 (flatS b.steps)) (s : Stp) (hs : b.steps[st]? = some s) (hat : at_ = s.count) (hl : b.steps.length ≤ 1000000) :
  Calls Tryz.prog 69 #[.pointer (some ⟨m, 0, none⟩)] w (Ret (fun v w' => v = .tuple #[] ∧ Bk w' m (macV b N SA sc bs CA ac dn (st + 1) 0) 121 ∧ Ch (Is m) w w')) := by
 have hjl := (List.getElem?_eq_some_iff.1 hs).1
 have ym := bk.lt
 refine calls_of_VC (args := [.pointer (some ⟨m, 0, none⟩)]) Tryz.func69 rfl Tryz.ntmps69 rfl (VC.seq ?_)
 have ks := sl_step ss rfl hs
 refine VC.draws 17 [(0, true), (1, true), (2, true), (3, true), (4, true), (5, true), (6, true), (7, true), (8, true), (9, true), (10, true), (11, true), (12, true), (13, true), (14, true), (15, true), (16, true)] (fun w1 w' => Ch (No) w1 w') mixed (by kernel_rfl) (fun _ _ => Ch.refl _ _) ?_
 intro w1 D1
 have c1 := Ch.of_drew D1; have z1 := c1.size
 have bk_1 := bk.keep c1
 have ss_1 := ss.keep c1
 have ks_1 := ks.keep c1
 refine VH.mv (fun w' hS => Rn.move rfl) rfl rfl rfl rfl (VH.mv (fun w' hS => Rn.nilCheck rfl) rfl rfl rfl rfl (VH.mv (fun w' hS => Rn.field Tryz.underlying121 rfl Tryz.sizeOf3 rfl rfl rfl) rfl rfl rfl rfl (VH.mv (fun w' hS => Rn.load Tryz.isAgg3 rfl ((bk_1.keep hS).cell rfl)) rfl rfl rfl rfl (VH.mv (fun w' hS => Rn.move rfl) rfl rfl rfl rfl (VH.mv (fun w' hS => Rn.nilCheck rfl) rfl rfl rfl rfl (VH.mv (fun w' hS => Rn.field Tryz.underlying121 rfl Tryz.sizeOf93 rfl rfl rfl) rfl rfl rfl rfl (VH.mv (fun w' hS => Rn.field Tryz.underlying93 rfl Tryz.sizeOf91 rfl rfl rfl) rfl rfl rfl rfl ?_)))))))
 refine VH.mv (fun w' hS => Rn.load Tryz.isAgg91 rfl ((bk_1.keep hS).cell rfl)) rfl rfl rfl rfl (VH.mv (fun w' hS => Rn.move rfl) rfl rfl rfl rfl (VH.mv (fun w' hS => Rn.nilCheck rfl) rfl rfl rfl rfl (VH.mv (fun w' hS => Rn.field Tryz.underlying121 rfl Tryz.sizeOf3 rfl rfl rfl) rfl rfl rfl rfl (VH.mv (fun w' hS => Rn.load Tryz.isAgg3 rfl ((bk_1.keep hS).cell rfl)) rfl rfl rfl rfl (VH.mv (fun w' hS => Rn.indexS Tryz.underlying91 Tryz.sizeOf119 rfl rfl (ss_1.ne (by omega)) (by omega) (by omega)) rfl rfl rfl rfl (VH.mv (fun w' hS => Rn.fieldA Tryz.underlying119 rfl Tryz.sizeOf3 rfl rfl rfl) rfl rfl rfl rfl (VH.mv (fun w' hS => Rn.load Tryz.isAgg3 rfl ((ks_1.keep hS).1 4 _ rfl)) rfl rfl rfl rfl ?_)))))))
 refine VH.mv (fun w' hS => Rn.eql rfl rfl) rfl rfl rfl rfl (VH.done (VO.nil (VQ.noPanic (VQ.then_code (VC.cond_if rfl (fun hc1 => ?_) (fun hc1 => ?_))))))
 ·
  refine VC.region (VO.mv (Rn.move rfl) rfl rfl rfl (VO.mv (Rn.move rfl) rfl rfl rfl (VO.mv (Rn.move rfl) rfl rfl rfl (VO.mv (Rn.nilCheck rfl) rfl rfl rfl (VO.mv (Rn.field Tryz.underlying121 rfl Tryz.sizeOf3 rfl rfl rfl) rfl rfl rfl (VO.mv (Rn.load Tryz.isAgg3 rfl (bk_1.cell rfl)) rfl rfl rfl ?_))))))
  refine VO.mv (Rn.add rfl rfl (by rw [IntKind.wrap_i64]; omega)) rfl rfl rfl ?_
  refine VO.mv (Rn.nilCheck rfl) rfl rfl rfl (VO.mv (Rn.field Tryz.underlying121 rfl Tryz.sizeOf3 rfl rfl rfl) rfl rfl rfl (VO.wk0 (Wk.put Tryz.sizeOf3 rfl rfl rfl rfl bk_1 rfl) rfl rfl ?_))
  intro _ w2 Z2
  have c2 := Z2.ch; have z2 := Z2.size
  have bk_2 := Bk.put Z2
  refine VO.mv (Rn.nilCheck rfl) rfl rfl rfl (VO.mv (Rn.field Tryz.underlying121 rfl Tryz.sizeOf3 rfl rfl rfl) rfl rfl rfl (VO.wk0 (Wk.put Tryz.sizeOf3 rfl rfl rfl rfl bk_2 rfl) rfl rfl ?_))
  intro _ w3 Z3
  have c3 := Z3.ch; have z3 := Z3.size
  have bk_3 := Bk.put Z3
  refine VO.nil (VQ.end0 rfl (Ret.mk ?_))
  have CH_1 := (Ch.refl (Is m) w).and c1
  have CH_2 : Ch (Is m) w w2 := CH_1.then c2 (by intro q h1 h2; rcases h2 with h2 | h2 <;> first | exact h2 | (exfalso; omega) | omega)
  have CH_3 : Ch (Is m) w w3 := CH_2.then c3 (by intro q h1 h2; rcases h2 with h2 | h2 <;> first | exact h2 | (exfalso; omega) | omega)
  exact ⟨rfl, bk_3, CH_3⟩
 ·
  omega
set_option maxHeartbeats 2000000 in
set_option maxRecDepth 100000 in
theorem m_Run (m r : Nat) (b : Bld) (N : Nat) (SA : Option Addr) (sc : Nat) (bs : ByteArray) (CA : Option Addr) (ac : Int) (xs : List CB) (w : World) (mr : MacR w m r b N SA sc bs CA ac 0 0 0 xs) (hN : N ≤ 1000000) (hac : ac = cntS b.steps) (hac1 : 1 ≤ ac) (hac2 : ac ≤ 100000000) (hok : ∀ s ∈ b.steps, StepOk s N) (hl : b.steps.length ≤ 1000000) (S : Nat → Prop) (hS : ∀ q, S q → ¬ MS m r q) (ss : SlR S w SA b.steps.length 7 (flatS b.steps))  :
  Calls Tryz.prog 56 #[.pointer (some ⟨m, 0, none⟩), .int .i64 ac] w (Ret (fun v w' => v = .tuple #[.int .i64 ac, .nilIface] ∧ ∃ ys, MacR w' m r b N SA sc bs CA ac ac b.steps.length 0 ys ∧ ys.map cx = runC b.steps (xs.map cx) ∧ Ch (MS m r) w w')) := by
 obtain ⟨bk, row, ne⟩ := id mr
 have yr := Ow.lt row; have ym := bk.lt
 have hmin : (if ac - 0 < ac then ac - 0 else ac) = ac := by split <;> omega
 refine calls_of_VC (args := [.pointer (some ⟨m, 0, none⟩), .int .i64 ac]) Tryz.func56 rfl Tryz.ntmps56 rfl (VC.seq (VC.region (VO.mv (Rn.assign rfl) rfl rfl rfl (VO.mv (Rn.assign rfl) rfl rfl rfl (VO.nil (VQ.then_code (VC.seq ?_)))))))
 refine VC.seq (VC.region (VO.mv (Rn.move rfl) rfl rfl rfl (VO.mv (Rn.lss rfl rfl) rfl rfl rfl (VO.nil (VQ.then_code (VC.cond_if rfl (fun hc1 => ?_) (fun hc1 => ?_)))))))
 ·
  omega
 ·
  refine VC.skip (VQ.then_code (VC.seq (VC.seq (VC.region (VO.mv (Rn.move rfl) rfl rfl rfl (VO.wk (Wk.call Tryz.call55 rfl (m_Left _ _ _ _ _ _ _ _ _ _ _ _ bk (by omega) (by omega))) rfl rfl rfl ?_))))))
  rintro _ w1 ⟨rfl, c1⟩
  have z1 := c1.size
  refine VO.mv (Rn.eql rfl rfl) rfl rfl rfl (VO.nil (VQ.then_code (VC.cond_if rfl (fun hc2 => ?_) (fun hc2 => ?_))))
  ·
   omega
  ·
   refine VC.skip (VQ.then_code (VC.seq (VC.region (VO.mv (Rn.move rfl) rfl rfl rfl (VO.mv (Rn.move rfl) rfl rfl rfl ?_)))))
   have bk_1 := bk.keep c1
   refine VO.wk (Wk.call Tryz.call55 rfl (m_Left _ _ _ _ _ _ _ _ _ _ _ _ bk_1 (by omega) (by omega))) rfl rfl rfl ?_
   rintro _ w2 ⟨rfl, c2⟩
   have z2 := c2.size
   refine VO.mv (Rn.minI rfl rfl) rfl rfl rfl (VO.mv (Rn.assign rfl) rfl rfl rfl (VO.nil (VQ.then_code (VC.seq (VC.region (VO.wk (Wk.call Tryz.call68 rfl (m_table _)) rfl rfl rfl ?_))))))
   rintro _ w3 ⟨rfl, c3⟩
   have z3 := c3.size
   refine VO.wk (Wk.alloc Tryz.zeroValue125) rfl rfl rfl ?_
   rintro _ w4 ⟨p4, rfl, N4⟩
   have c4 := N4.ch
   have e4 := N4.p; have z4 := N4.size
   have b6 := Bk.new N4
   refine VO.wk0 (Wk.puts Tryz.sizeOf125 rfl rfl rfl rfl b6 (Nat.le_of_ble_eq_true rfl)) rfl rfl ?_
   intro _ w5 Z5
   have c5 := Z5.ch; have z5 := Z5.size
   have b6_5 := Bk.put Z5
   refine VO.nil (VQ.then_code (VC.seq (VC.seq (VC.region (VO.mv (Rn.move rfl) rfl rfl rfl (VO.mv (Rn.assign rfl) rfl rfl rfl (VO.nil ?_)))))))
   refine VQ.then_code (VC.block ?_)
   have cc_1_5 : Ch No w1 w5 := (Ch.then (E := No) ((c2.and c3).and c4) c5 (by intro q h1 h2; rcases h2 with h2 | h2 <;> first | exact h2 | (exfalso; omega)))
   have bk_5 := bk_1.keep cc_1_5
   have cc_0_5 : Ch No w w5 := (Ch.then (E := No) (((c1.and c2).and c3).and c4) c5 (by intro q h1 h2; rcases h2 with h2 | h2 <;> first | exact h2 | (exfalso; omega)))
   have row_5 := row.keep cc_0_5
   have ss_5 := ss.keep cc_0_5
   have CH_5 := (Ch.refl (MS m r) w).and cc_0_5
   refine VC.loopS (σ := Nat × Int × List CB) (fun (j, lf, ys) => [(0, .pointer (some ⟨m, 0, none⟩)), (1, .int .i64 (if ac - 0 < ac then ac - 0 else ac)), (6, .pointer (some ⟨p4, 0, none⟩)), (7, .int .i64 lf)]) (fun (j, lf, ys) w' => j ≤ b.steps.length ∧ lf = cntS (b.steps.drop j) ∧ ys.map cx = runC (b.steps.take j) (xs.map cx) ∧ w5.heap.size ≤ w'.heap.size ∧ Bk w' m (macV b N SA sc bs CA ac 0 j 0) 121 ∧ CR 50 w' r CA N N ys ∧ Bk w' p4 tblV 125 ∧ SlR S w' SA b.steps.length 7 (flatS b.steps) ∧ Ch (MS m r) w w') (fun (j, lf, ys) => b.steps.length - j) (0, _, xs) ?_ ⟨rfl, rfl, rfl, rfl, trivial⟩ ?_
   · exact ⟨(Nat.zero_le _), (by rw [List.drop_zero]; omega), (by rfl), (Nat.le_refl _), bk_5, row_5, b6_5, ss_5, CH_5⟩
   rintro ⟨j, lf, ys⟩ w6 ⟨hj, hlf, hys, hsz6, bk_6, row_6, b6_6, ss_6, CH_6⟩
   show VC _ _ _ _ [(0, .pointer (some ⟨m, 0, none⟩)), (1, .int .i64 (if ac - 0 < ac then ac - 0 else ac)), (6, .pointer (some ⟨p4, 0, none⟩)), (7, .int .i64 lf)] _
   have hdl := cntS_drop_le hok j
   refine VC.seq (VC.seq (VC.region (VO.mv (Rn.move rfl) rfl rfl rfl (VO.mv (Rn.gtr rfl rfl) rfl rfl rfl (VO.nil (VQ.then_code (VC.cond_if rfl (fun hc3 => ?_) (fun hc3 => ?_))))))))
   ·
    obtain ⟨s, hs⟩ := cntS_some (L := b.steps) (j := j) (by omega)
    have hsok := hok s (List.mem_of_getElem? hs)
    have hop := hsok.op
    have hcp := hsok.1
    have hcp2 := hsok.2.1
    have hcd := cntS_drop hs
    have hjl := (List.getElem?_eq_some_iff.1 hs).1
    have hdl1 := cntS_drop_le hok (j + 1)
    refine VC.skip (VQ.then_code (VC.block (VC.seq ?_)))
    have ks := sl_step ss_6 rfl hs
    refine VC.draws 12 [(0, true), (1, true), (2, true), (3, true), (4, true), (5, true), (6, true), (7, true), (8, true), (9, true), (10, true), (11, false)] (fun w1 w' => Ch (No) w1 w') mixed (by kernel_rfl) (fun _ _ => Ch.refl _ _) ?_
    intro w7 D7
    have c7 := Ch.of_drew D7; have z7 := c7.size
    have bk_7 := bk_6.keep c7
    have row_7 := row_6.keep c7
    have ss_7 := ss_6.keep c7
    have b6_7 := b6_6.keep c7
    have ks_7 := ks.keep c7
    refine VH.mv (fun w' hS => Rn.move rfl) rfl rfl rfl rfl (VH.mv (fun w' hS => Rn.nilCheck rfl) rfl rfl rfl rfl (VH.mv (fun w' hS => Rn.field Tryz.underlying121 rfl Tryz.sizeOf93 rfl rfl rfl) rfl rfl rfl rfl (VH.mv (fun w' hS => Rn.field Tryz.underlying93 rfl Tryz.sizeOf91 rfl rfl rfl) rfl rfl rfl rfl (VH.mv (fun w' hS => Rn.load Tryz.isAgg91 rfl ((bk_7.keep hS).cell rfl)) rfl rfl rfl rfl (VH.mv (fun w' hS => Rn.move rfl) rfl rfl rfl rfl (VH.mv (fun w' hS => Rn.nilCheck rfl) rfl rfl rfl rfl (VH.mv (fun w' hS => Rn.field Tryz.underlying121 rfl Tryz.sizeOf3 rfl rfl rfl) rfl rfl rfl rfl ?_)))))))
    refine VH.mv (fun w' hS => Rn.load Tryz.isAgg3 rfl ((bk_7.keep hS).cell rfl)) rfl rfl rfl rfl (VH.mv (fun w' hS => Rn.indexS Tryz.underlying91 Tryz.sizeOf119 rfl rfl (ss_7.ne (by omega)) (by omega) (by omega)) rfl rfl rfl rfl (VH.mv (fun w' hS => Rn.loads Tryz.isAgg119 Tryz.sizeOf119 rfl rfl (ks_7.keep hS).1) rfl rfl rfl rfl (VH.wk (Wk.alloc Tryz.zeroValue119) rfl rfl rfl rfl ?_)))
    rintro _ w8 ⟨p8, rfl, N8⟩
    have c8 := N8.ch
    have e8 := N8.p; have z8 := N8.size
    have b8 := Bk.new N8
    have RD_8 := (Ch.refl (No) w7).and c8
    refine ⟨RD_8, ?_⟩
    refine VH.done (VO.wk0 (Wk.puts Tryz.sizeOf119 rfl rfl rfl rfl b8 (Nat.le_of_ble_eq_true rfl)) rfl rfl ?_)
    intro _ w9 Z9
    have c9 := Z9.ch; have z9 := Z9.size
    have b8_9 := Bk.put Z9
    refine VO.nil (VQ.noPanic (VQ.then_code (VC.seq (VC.draws 9 [(0, true), (1, true), (2, true), (3, true), (4, true), (5, true), (6, true), (7, true), (8, true)] (fun w1 w' => Ch (No) w1 w') mixed (by kernel_rfl) (fun _ _ => Ch.refl _ _) ?_))))
    intro w10 D10
    have c10 := Ch.of_drew D10; have z10 := c10.size
    have cc_7_10 : Ch No w7 w10 := ((Ch.then (E := No) c8 c9 (by intro q h1 h2; rcases h2 with h2 | h2 <;> first | exact h2 | (exfalso; omega))).and c10)
    have bk_10 := bk_7.keep cc_7_10
    have row_10 := row_7.keep cc_7_10
    have ss_10 := ss_7.keep cc_7_10
    have b6_10 := b6_7.keep cc_7_10
    have ks_10 := ks_7.keep cc_7_10
    have b8_10 := b8_9.keep c10
    refine VH.mv (fun w' hS => Rn.move rfl) rfl rfl rfl rfl (VH.mv (fun w' hS => Rn.nilCheck rfl) rfl rfl rfl rfl (VH.mv (fun w' hS => Rn.field Tryz.underlying121 rfl Tryz.sizeOf3 rfl rfl rfl) rfl rfl rfl rfl (VH.mv (fun w' hS => Rn.load Tryz.isAgg3 rfl ((bk_10.keep hS).cell rfl)) rfl rfl rfl rfl (VH.mv (fun w' hS => Rn.move rfl) rfl rfl rfl rfl ?_))))
    refine VH.mv (fun w' hS => Rn.add rfl rfl (by rw [IntKind.wrap_i64]; omega)) rfl rfl rfl rfl ?_
    refine VH.mv (fun w' hS => Rn.field Tryz.underlying119 rfl Tryz.sizeOf3 rfl rfl rfl) rfl rfl rfl rfl (VH.mv (fun w' hS => Rn.load Tryz.isAgg3 rfl ((b8_10.keep hS).cell rfl)) rfl rfl rfl rfl (VH.mv (fun w' hS => Rn.minI rfl rfl) rfl rfl rfl rfl (VH.done (VO.mv (Rn.assign rfl) rfl rfl rfl (VO.nil (VQ.noPanic (VQ.then_code ?_)))))))
    refine VC.seq (VC.region (VO.mv (Rn.move rfl) rfl rfl rfl (VO.mv (Rn.move rfl) rfl rfl rfl (VO.mv (Rn.move rfl) rfl rfl rfl (VO.mv (Rn.nilCheck rfl) rfl rfl rfl (VO.mv (Rn.field Tryz.underlying121 rfl Tryz.sizeOf3 rfl rfl rfl) rfl rfl rfl (VO.mv (Rn.load Tryz.isAgg3 rfl (bk_10.cell rfl)) rfl rfl rfl ?_)))))))
    refine VO.mv (Rn.sub rfl rfl (by rw [IntKind.wrap_i64]; omega)) rfl rfl rfl ?_
    refine VO.mv (Rn.sub rfl rfl (by rw [IntKind.wrap_i64]; omega)) rfl rfl rfl ?_
    refine VO.mv (Rn.assign rfl) rfl rfl rfl (VO.nil (VQ.then_code (VC.seq (VC.block ?_))))
    have cc_6_10 : Ch No w6 w10 := ((Ch.then (E := No) (c7.and c8) c9 (by intro q h1 h2; rcases h2 with h2 | h2 <;> first | exact h2 | (exfalso; omega))).and c10)
    have CH_10 := CH_6.and cc_6_10
    refine VC.loopS (σ := Nat × Int × Int × List CB) (fun (i, l2, tt, ys2) => [(0, .pointer (some ⟨m, 0, none⟩)), (1, .int .i64 (if ac - 0 < ac then ac - 0 else ac)), (6, .pointer (some ⟨p4, 0, none⟩)), (7, .int .i64 l2), (8, .pointer (some ⟨p8, 0, none⟩)), (9, .int .i64 tt)]) (fun (i, l2, tt, ys2) w' => i ≤ s.count.toNat ∧ l2 = lf - s.count ∧ tt = s.count ∧ ys2.map cx = actsC s (ys.map cx) i ∧ w10.heap.size ≤ w'.heap.size ∧ Bk w' m (macV b N SA sc bs CA ac 0 j i) 121 ∧ CR 50 w' r CA N N ys2 ∧ Bk w' p4 tblV 125 ∧ Bk w' p8 s.cells.toArray 119 ∧ SlR S w' SA b.steps.length 7 (flatS b.steps) ∧ Ch (MS m r) w w') (fun (i, l2, tt, ys2) => s.count.toNat - i) (0, _, _, ys) ?_ ⟨rfl, rfl, rfl, rfl, rfl, rfl, trivial⟩ ?_
    · exact ⟨(Nat.zero_le _), (by split <;> omega), (by split <;> omega), (by rfl), (Nat.le_refl _), bk_10, row_10, b6_10, b8_10, ss_10, CH_10⟩
    rintro ⟨i, l2, tt, ys2⟩ w11 ⟨hi, hl2, htt, hys2, hsz11, bk_11, row_11, b6_11, b8_11, ss_11, CH_11⟩
    show VC _ _ _ _ [(0, .pointer (some ⟨m, 0, none⟩)), (1, .int .i64 (if ac - 0 < ac then ac - 0 else ac)), (6, .pointer (some ⟨p4, 0, none⟩)), (7, .int .i64 l2), (8, .pointer (some ⟨p8, 0, none⟩)), (9, .int .i64 tt)] _
    refine VC.seq (VC.seq (VC.region (VO.mv (Rn.move rfl) rfl rfl rfl (VO.mv (Rn.nilCheck rfl) rfl rfl rfl (VO.mv (Rn.field Tryz.underlying121 rfl Tryz.sizeOf3 rfl rfl rfl) rfl rfl rfl (VO.mv (Rn.load Tryz.isAgg3 rfl (bk_11.cell rfl)) rfl rfl rfl (VO.mv (Rn.move rfl) rfl rfl rfl ?_)))))))
    refine VO.mv (Rn.lss rfl rfl) rfl rfl rfl (VO.nil (VQ.then_code (VC.cond_if rfl (fun hc4 => ?_) (fun hc4 => ?_))))
    ·
     refine VC.skip (VQ.then_code (VC.seq (VC.block (VC.draws 11 [(0, true), (1, true), (2, true), (3, true), (4, true), (5, true), (6, true), (7, true), (8, true), (9, true), (10, false)] (fun w1 w' => Ch (At r) w1 w') mixed (by kernel_rfl) (fun _ _ => Ch.refl _ _) ?_))))
     intro w12 D12
     have c12 := Ch.of_drew D12; have z12 := c12.size
     have bk_12 := bk_11.keep c12
     have row_12 := row_11.keep c12
     have ss_12 := ss_11.keep c12
     have b6_12 := b6_11.keep c12
     have b8_12 := b8_11.keep c12
     refine VH.mv (fun w' hS => Rn.field Tryz.underlying119 rfl Tryz.sizeOf3 rfl rfl rfl) rfl rfl rfl rfl (VH.mv (fun w' hS => Rn.load Tryz.isAgg3 rfl ((b8_12.to hS (by first | exact id | omega)).cell rfl)) rfl rfl rfl rfl (VH.mv (fun w' hS => Rn.indexArr Tryz.underlying125 Tryz.sizeOf124 rfl rfl (by omega) (by omega)) rfl rfl rfl rfl (VH.mv (fun w' hS => Rn.load Tryz.isAgg124 rfl (tbl_cell (b6_12.to hS (by omega)) hop)) rfl rfl rfl rfl (VH.mv (fun w' hS => Rn.move rfl) rfl rfl rfl rfl (VH.mv (fun w' hS => Rn.loads Tryz.isAgg119 Tryz.sizeOf119 rfl rfl ((b8_12.to hS (by first | exact id | omega)).all' rfl)) rfl rfl rfl rfl (VH.mv (fun w' hS => Rn.move rfl) rfl rfl rfl rfl (VH.mv (fun w' hS => Rn.nilCheck rfl) rfl rfl rfl rfl ?_)))))))
     refine VH.mv (fun w' hS => Rn.field Tryz.underlying121 rfl Tryz.sizeOf3 rfl rfl rfl) rfl rfl rfl rfl (VH.mv (fun w' hS => Rn.load Tryz.isAgg3 rfl ((bk_12.to hS (by first | exact id | omega)).cell rfl)) rfl rfl rfl rfl (VH.wk (Wk.callv (call_tbl hop) rfl rfl (by rfl) (act_ok _ _ _ _ _ _ _ _ _ _ _ _ _ _ ⟨bk_12, row_12, ne⟩ hN s i hsok (by omega))) rfl rfl rfl rfl ?_))
     rintro _ w13 ⟨rfl, zs13, mr13, hz13, c13⟩
     obtain ⟨bk13, row13, -⟩ := id mr13
     have z13 := c13.size
     have RD_13 : Ch (At r) w12 w13 := (Ch.refl (At r) w12).then c13 (by intro q h1 h2; rcases h2 with h2 | h2 <;> first | exact h2 | (exfalso; omega) | omega)
     refine ⟨RD_13, ?_⟩
     refine VH.done (VO.nil (VQ.noPanic (VQ.block_normal (VQ.then_code (VC.region (VO.mv (Rn.move rfl) rfl rfl rfl (VO.mv (Rn.nilCheck rfl) rfl rfl rfl ?_)))))))
     refine VO.mv (Rn.field Tryz.underlying121 rfl Tryz.sizeOf3 rfl rfl rfl) rfl rfl rfl (VO.mv (Rn.load Tryz.isAgg3 rfl (bk13.cell rfl)) rfl rfl rfl ?_)
     refine VO.mv (Rn.add rfl rfl (by rw [IntKind.wrap_i64]; omega)) rfl rfl rfl ?_
     refine VO.mv (Rn.nilCheck rfl) rfl rfl rfl (VO.mv (Rn.field Tryz.underlying121 rfl Tryz.sizeOf3 rfl rfl rfl) rfl rfl rfl (VO.wk0 (Wk.put Tryz.sizeOf3 rfl rfl rfl rfl bk13 rfl) rfl rfl ?_))
     intro _ w14 Z14
     have c14 := Z14.ch; have z14 := Z14.size
     have bk_14 := Bk.put Z14
     refine VO.nil ?_
     refine VQ.round (i + 1, l2, tt, zs13) (by first | omega | (dsimp only; omega)) ?_ ⟨rfl, rfl, rfl, rfl, rfl, rfl, trivial⟩
     have row_14 := row13.to c14 (by first | exact fun _ _ _ _ => id | (intro q h1 h2 hx h3; omega))
     have b6_13 := b6_12.to c13 (by first | exact id | omega)
     have b6_14 := b6_13.to c14 (by first | exact id | omega)
     have b8_13 := b8_12.to c13 (by first | exact id | omega)
     have b8_14 := b8_13.to c14 (by first | exact id | omega)
     have ss_13 := ss_12.to c13 (fun _ _ h2 _ h3 => hS _ h2 (by first | exact .inr h3 | exact .inl h3 | exact h3))
     have ss_14 := ss_13.to c14 (fun _ _ h2 _ h3 => hS _ h2 (by first | exact .inr h3 | exact .inl h3 | exact h3))
     have CH_12 := CH_11.and c12
     have CH_13 : Ch (MS m r) w w13 := CH_12.then c13 (by intro q h1 h2; rcases h2 with h2 | h2 <;> first | exact h2 | (exfalso; omega) | omega)
     have CH_14 : Ch (MS m r) w w14 := CH_13.then c14 (by intro q h1 h2; rcases h2 with h2 | h2 <;> first | exact h2 | (exfalso; omega) | omega)
     exact ⟨(by omega), (by omega), (by omega), (by rw [hz13, hys2]; rfl), (by omega), bk_14, row_14, b6_14, b8_14, ss_14, CH_14⟩
    ·
     refine VC.exit (VQ.then_exit (VQ.then_exit (VQ.block_exit (VQ.then_code (VC.region (VO.mv (Rn.move rfl) rfl rfl rfl (VO.wk (Wk.call Tryz.call69 rfl (m_next r m b N SA sc bs CA ac 0 _ _ _ bk_11 S hS ss_11 s hs (by omega) hl)) rfl rfl rfl ?_)))))))
     rintro _ w15 ⟨rfl, bk15, c15⟩
     have z15 := c15.size
     refine VO.nil (VQ.block_normal ?_)
     refine VQ.round (j + 1, _, ys2) (by first | omega | (dsimp only; omega)) ?_ ⟨rfl, rfl, rfl, rfl, trivial⟩
     have row_15 := row_11.to c15 (by first | exact fun _ _ _ _ => id | (intro q h1 h2 hx h3; omega))
     have b6_15 := b6_11.to c15 (by first | exact id | omega)
     have ss_15 := ss_11.to c15 (fun _ _ h2 _ h3 => hS _ h2 (by first | exact .inr h3 | exact .inl h3 | exact h3))
     have CH_15 : Ch (MS m r) w w15 := CH_11.then c15 (by intro q h1 h2; rcases h2 with h2 | h2 <;> first | exact h2 | (exfalso; omega) | omega)
     exact ⟨(by omega), (by omega), (by rw [runC_take hs, ← hys, hys2]; congr 1; omega), (by omega), bk15, row_15, b6_15, ss_15, CH_15⟩
   ·
    refine VC.exit (VQ.then_exit (VQ.then_exit (VQ.block_exit (VQ.then_code (VC.seq (VC.region (VO.mv (Rn.move rfl) rfl rfl rfl ?_)))))))
    refine VO.mv (Rn.nilCheck rfl) rfl rfl rfl (VO.mv (Rn.field Tryz.underlying121 rfl Tryz.sizeOf3 rfl rfl rfl) rfl rfl rfl (VO.mv (Rn.load Tryz.isAgg3 rfl (bk_6.cell rfl)) rfl rfl rfl (VO.mv (Rn.move rfl) rfl rfl rfl ?_)))
    refine VO.mv (Rn.add rfl rfl (by rw [IntKind.wrap_i64]; omega)) rfl rfl rfl ?_
    refine VO.mv (Rn.nilCheck rfl) rfl rfl rfl (VO.mv (Rn.field Tryz.underlying121 rfl Tryz.sizeOf3 rfl rfl rfl) rfl rfl rfl (VO.wk0 (Wk.put Tryz.sizeOf3 rfl rfl rfl rfl bk_6 rfl) rfl rfl ?_))
    intro _ w16 Z16
    have c16 := Z16.ch; have z16 := Z16.size
    have bk_16 := Bk.put Z16
    refine VO.nil (VQ.then_code (VC.seq (VC.region (VO.mv (Rn.move rfl) rfl rfl rfl (VO.mv (Rn.assign rfl) rfl rfl rfl (VO.mv (Rn.assign rfl) rfl rfl rfl (VO.nil ?_)))))))
    refine VQ.then_code (VC.ret (VQ.ret2 rfl rfl rfl (Ret.mk ?_)))
    have hlf0 : cntS (b.steps.drop j) = 0 := by omega
    obtain ⟨e1, e2⟩ := cntS_all hok hlf0
    have e3 : j = b.steps.length := by omega
    rw [e1] at hys
    have bk9 : Bk w16 m (macV b N SA sc bs CA ac (0 + (if ac - 0 < ac then ac - 0 else ac)) j 0) 121 := bk_16
    rw [hmin, Int.zero_add, e3] at bk9
    have row_16 := row_6.to c16 (by first | exact fun _ _ _ _ => id | (intro q h1 h2 hx h3; omega))
    have CH_16 : Ch (MS m r) w w16 := CH_6.then c16 (by intro q h1 h2; rcases h2 with h2 | h2 <;> first | exact h2 | (exfalso; omega) | omega)
    exact ⟨by rw [hmin], _, ⟨bk9, row_16, ne⟩, hys, CH_16⟩
end Go.Tm
namespace Go.Tm
open Go.RowKit Go.Proofs
section
variable {P : Program} {n : Fr} {k : K} {w : World} {d : Option Tmp} {ty : TypeId} {pos : String} {aft : Array Edge} {g : Option (Nat × Bool)} {t t' : TypeId} {x y : Operand} {q : IntKind} {a b : Int}
theorem Rn.lssT (hx : ev k x = some (.int q a)) (hy : ev k y = some (.int q b)) (h : a < b) : Rn P n k w { dst := d, op := .binOp .lss t x y t', type := ty, pos := pos, after := aft, guard := g } (.bool true) := by
  have := Rn.lss (P := P) (n := n) (w := w) (d := d) (ty := ty) (pos := pos) (aft := aft) (g := g) (t := t) (t' := t') hx hy
  rwa [decide_eq_true h] at this
theorem Rn.leqT (hx : ev k x = some (.int q a)) (hy : ev k y = some (.int q b)) (h : a ≤ b) : Rn P n k w { dst := d, op := .binOp .leq t x y t', type := ty, pos := pos, after := aft, guard := g } (.bool true) := by
  have := Rn.leq (P := P) (n := n) (w := w) (d := d) (ty := ty) (pos := pos) (aft := aft) (g := g) (t := t) (t' := t') hx hy
  rwa [decide_eq_true h] at this
theorem Rn.geqT (hx : ev k x = some (.int q a)) (hy : ev k y = some (.int q b)) (h : b ≤ a) : Rn P n k w { dst := d, op := .binOp .geq t x y t', type := ty, pos := pos, after := aft, guard := g } (.bool true) := by
  have := Rn.geq (P := P) (n := n) (w := w) (d := d) (ty := ty) (pos := pos) (aft := aft) (g := g) (t := t) (t' := t') hx hy
  rwa [decide_eq_true h] at this
theorem Rn.geqF (hx : ev k x = some (.int q a)) (hy : ev k y = some (.int q b)) (h : a < b) : Rn P n k w { dst := d, op := .binOp .geq t x y t', type := ty, pos := pos, after := aft, guard := g } (.bool false) := by
  have := Rn.geq (P := P) (n := n) (w := w) (d := d) (ty := ty) (pos := pos) (aft := aft) (g := g) (t := t) (t' := t') hx hy
  rwa [decide_eq_false (by omega)] at this
theorem VQ.rettct {m : Nat} {fn : Func} {R : Ending → World → Prop} {s t u sz : Nat} {ty : TypeId} {ad : Addr} {cs : List Value} {v z : Value} (hf : fn.results = #[.tmp s, .cell t ty, .tmp u]) (hs : kget k s = some z) (hv : kget k t = some (.pointer (some ad))) (ht : ∀ w, (isAgg ty).run P w = .ok true w) (hz : ∀ w, (sizeOf ty).run P w = .ok sz w)
    (hl : cs.length = sz) (hc : cellsAt w ad cs) (hu : kget k u = some v) (hR : R (.returned (.tuple #[z, .agg cs.toArray, v])) w) : VQ ⟨m, []⟩ (bodyPost P fn R) .ret k w :=
  VQ.post rfl (fun a ha => by subst hl; have h0 := ha.known s _ hs; have h1 := ha.known t _ hv; have h2 := ha.known u _ hu; simp [results, hf, h0, h1, h2, loadVar, ht, hz, run_loadCells_at hc, asAddr]) hR
end
theorem flat3_get (f : Nat → List Value) (hf : ∀ i, (f i).length = 3) : ∀ (n i : Nat), i < n → ∀ j v, (f i)[j]? = some v → ((List.range n).flatMap f)[i * 3 + j]? = some v
  | 0, _, h, _, _, _ => absurd h (Nat.not_lt_zero _)
  | n + 1, i, h, j, v, hv => by
    have hlen : ∀ n, ((List.range n).flatMap f).length = n * 3 := fun n => by
      induction n with
      | zero => rfl
      | succ n ih => rw [List.range_succ, List.flatMap_append, List.length_append, ih]; simp [hf]; omega
    have hj : j < 3 := by have := (List.getElem?_eq_some_iff.1 hv).1; rw [hf] at this; exact this
    rw [List.range_succ, List.flatMap_append]
    by_cases hi : i < n
    · rw [List.getElem?_append_left (by rw [hlen]; omega)]
      exact flat3_get f hf n i hi j v hv
    · have : i = n := by omega
      subst this
      rw [List.getElem?_append_right (by rw [hlen]; omega), hlen, show i * 3 + j - i * 3 = j by omega]
      simpa using hv
abbrev rowQ (d ju co : Int) (q : Nat) : List Value := [.int .i64 (d + (q : Int) * ju), .int .i64 1, .int .i64 co]
abbrev rowsQ (d ju co : Int) (n : Nat) : List Value := (List.range n).flatMap (rowQ d ju co)
theorem rowsQ_succ (d ju co : Int) (n : Nat) : rowsQ d ju co (n + 1) = rowsQ d ju co n ++ rowQ d ju co n := by simp [rowsQ, List.range_succ]
theorem sl_rowQ {S : Nat → Prop} {w : World} {A : Option Addr} {d ju co : Int} {n : Nat} (h : SlR S w A n 3 (rowsQ d ju co n)) {q : Nat} (hq : q < n) : CaR S w ((sAddr A).add (q * 3)) (rowQ d ju co q) := by
  obtain ⟨ad, had⟩ := h.ne (by omega)
  refine ⟨h.part (i := q) hq (flat3_get _ (fun _ => rfl) n q hq), ?_⟩
  rw [add_block]; subst had; exact h.ok ad rfl
theorem flatS_one (L : List Stp) : (flatS L).all Value.oneCell' = true := by
  rw [List.all_eq_true]
  intro v hv
  obtain ⟨s, _, hs⟩ := List.mem_flatMap.1 hv
  simp only [Stp.cells, List.mem_cons, List.not_mem_nil, or_false] at hs
  rcases hs with rfl | rfl | rfl | rfl | rfl | rfl | rfl <;> rfl
theorem sl_last {S : Nat → Prop} {w : World} {A : Option Addr} {d ju co : Int} {n : Nat} (h : SlR S w A n 3 (rowsQ d ju co n)) (hn : 1 ≤ n) : CaR S w ((sAddr A).add (((n : Int) - 1).toNat * 3)) [.int .i64 (d + ((n : Int) - 1) * ju), .int .i64 1, .int .i64 co] := by
  have := sl_rowQ h (q := n - 1) (by omega)
  rw [show ((n : Int) - 1).toNat = n - 1 by omega]
  have e : ((n - 1 : Nat) : Int) = (n : Int) - 1 := by omega
  simp only [rowQ, e] at this
  exact this
set_option maxRecDepth 100000 in
theorem inf225w43 : Inf Tryz.prog 225 (.agg #[.int .i64 0, .int .i64 0, .int .i64 0]) 3 24 := ⟨Tryz.t225, Tryz.type225, rfl, rfl, rfl⟩
set_option maxRecDepth 100000 in
theorem inf232w43 : Inf Tryz.prog 232 (.agg #[.int .i64 0, .int .i64 0, .int .i64 0, .bool false]) 4 32 := ⟨Tryz.t232, Tryz.type232, rfl, rfl, rfl⟩
theorem bld225_0_1_2w43 {v0 v1 v2 : Value} (h : [v0, v1, v2].all Value.oneCell' = true) (w : World) : (Instr.build 225 ([(0, v0), (1, v1), (2, v2)] : List (Nat × Value)).toArray).run Tryz.prog w = .ok (.agg #[v0, v1, v2]) w := by
  simp only [List.all_cons, Bool.and_eq_true, List.all_nil, and_true] at h
  have hv0 := oneCell_cells (v := v0) (by simp_all)
  have hv1 := oneCell_cells (v := v1) (by simp_all)
  have hv2 := oneCell_cells (v := v2) (by simp_all)
  have h1 := fill_set (fun i => ([(0, 1), (1, 1), (2, 1)] : List (Nat × Nat))[i]?) [(0, v0), (1, v1), (2, v2)] [.int .i64 0, .int .i64 0, .int .i64 0] (by simp [okF, agg_cells, hv0, hv1, hv2, Nat.beq, Nat.ble])
  simp [setF, agg_cells, hv0, hv1, hv2] at h1
  simp [Instr.build, Tryz.runUnderlying225, Tryz.zeroValue225, Tryz.sizeOf3, agg_cells, h1]
theorem bld232_0_1w43 {v0_0 v0_1 v0_2 v1 : Value} (h : [v1].all Value.oneCell' = true) (w : World) : (Instr.build 232 ([(0, .agg #[v0_0, v0_1, v0_2]), (1, v1)] : List (Nat × Value)).toArray).run Tryz.prog w = .ok (.agg #[v0_0, v0_1, v0_2, v1]) w := by
  simp only [List.all_cons, Bool.and_eq_true, List.all_nil, and_true] at h
  have hv1 := oneCell_cells (v := v1) (by simp_all)
  have h1 := fill_set (fun i => ([(0, 3), (3, 1)] : List (Nat × Nat))[i]?) [(0, .agg #[v0_0, v0_1, v0_2]), (1, v1)] [.int .i64 0, .int .i64 0, .int .i64 0, .bool false] (by simp [okF, agg_cells, hv1, Nat.beq, Nat.ble])
  simp [setF, agg_cells, hv1] at h1
  simp [Instr.build, Tryz.runUnderlying232, Tryz.zeroValue232, Tryz.sizeOf4, Tryz.sizeOf225, agg_cells, h1]
set_option maxRecDepth 100000 in
theorem cel_last (a j c : Int) (hb : 0 ≤ a ∧ a ≤ 1000000000 ∧ 1 ≤ c ∧ c ≤ 1000000000 ∧ 0 ≤ (c - 1) * j ∧ (c - 1) * j ≤ 1000000000000 ∧ 0 ≤ j ∧ j ≤ 1000000000) (w : World) :
  Calls Tryz.prog 164 #[.agg #[.int .i64 a, .int .i64 j, .int .i64 c]] w (Ret (fun v w' => v = .int .i64 (a + (c - 1) * j) ∧ Ch No w w')) := by
 refine calls_of_VC (args := [.agg #[.int .i64 a, .int .i64 j, .int .i64 c]]) Tryz.func164 rfl Tryz.ntmps164 rfl (VC.seq (VC.region (VO.wk (Wk.box rfl) rfl rfl rfl ?_)))
 rintro _ w1 ⟨p1, rfl, N1⟩
 have c1 := N1.ch
 have e1 := N1.p; have z1 := N1.size
 have b1 := Bk.new N1
 refine VO.mv (Rn.assign rfl) rfl rfl rfl (VO.nil (VQ.then_code (VC.seq (VC.region (VO.mv (Rn.field Tryz.underlying225 rfl Tryz.sizeOf3 rfl rfl rfl) rfl rfl rfl (VO.mv (Rn.load Tryz.isAgg3 rfl (b1.cell rfl)) rfl rfl rfl (VO.mv (Rn.field Tryz.underlying225 rfl Tryz.sizeOf3 rfl rfl rfl) rfl rfl rfl ?_)))))))
 refine VO.mv (Rn.load Tryz.isAgg3 rfl (b1.cell rfl)) rfl rfl rfl ?_
 refine VO.mv (Rn.sub rfl rfl (by rw [IntKind.wrap_i64]; omega)) rfl rfl rfl ?_
 refine VO.mv (Rn.field Tryz.underlying225 rfl Tryz.sizeOf3 rfl rfl rfl) rfl rfl rfl (VO.mv (Rn.load Tryz.isAgg3 rfl (b1.cell rfl)) rfl rfl rfl ?_)
 refine VO.mv (Rn.mul rfl rfl (by rw [IntKind.wrap_i64]; omega)) rfl rfl rfl ?_
 refine VO.mv (Rn.add rfl rfl (by rw [IntKind.wrap_i64]; omega)) rfl rfl rfl ?_
 refine VO.mv (Rn.assign rfl) rfl rfl rfl (VO.nil (VQ.then_code (VC.ret (VQ.ret1 rfl rfl (Ret.mk ?_)))))
 have CH_1 := (Ch.refl (No) w).and c1
 exact ⟨rfl, CH_1⟩
set_option maxRecDepth 100000 in
theorem cel_has (a j c x : Int) (hx : x < a) (w : World) :
  Calls Tryz.prog 166 #[.agg #[.int .i64 a, .int .i64 j, .int .i64 c], .int .i64 x] w (Ret (fun v w' => v = .int .i64 (-1) ∧ Ch No w w')) := by
 refine calls_of_VC (args := [.agg #[.int .i64 a, .int .i64 j, .int .i64 c], .int .i64 x]) Tryz.func166 rfl Tryz.ntmps166 rfl (VC.seq (VC.region (VO.wk (Wk.box rfl) rfl rfl rfl ?_)))
 rintro _ w1 ⟨p1, rfl, N1⟩
 have c1 := N1.ch
 have e1 := N1.p; have z1 := N1.size
 have b2 := Bk.new N1
 refine VO.mv (Rn.assign rfl) rfl rfl rfl (VO.nil (VQ.then_code (VC.seq (VC.seq (VC.region (VO.mv (Rn.move rfl) rfl rfl rfl (VO.mv (Rn.field Tryz.underlying225 rfl Tryz.sizeOf3 rfl rfl rfl) rfl rfl rfl ?_)))))))
 refine VO.mv (Rn.load Tryz.isAgg3 rfl (b2.cell rfl)) rfl rfl rfl (VO.mv (Rn.lssT rfl rfl (by omega)) rfl rfl rfl (VO.mv (Rn.move rfl) rfl rfl rfl (VO.skip rfl rfl rfl (VO.skip rfl rfl rfl (VO.skip rfl rfl rfl (VO.skip rfl rfl rfl (VO.mv (Rn.pick_true rfl rfl) rfl rfl rfl ?_)))))))
 refine VO.mv (Rn.move rfl) rfl rfl rfl (VO.skip rfl rfl rfl (VO.skip rfl rfl rfl (VO.skip rfl rfl rfl (VO.skip rfl rfl rfl (VO.skip rfl rfl rfl (VO.skip rfl rfl rfl (VO.skip rfl rfl rfl ?_)))))))
 refine VO.skip rfl rfl rfl (VO.mv (Rn.pick_true rfl rfl) rfl rfl rfl (VO.nil (VQ.then_code (VC.cond_true rfl (VC.seq (VC.region (VO.mv (Rn.assign rfl) rfl rfl rfl ?_)))))))
 refine VO.nil (VQ.then_code (VC.ret (VQ.then_ret (VQ.ret1 rfl rfl (Ret.mk ?_)))))
 have CH_1 := (Ch.refl (No) w).and c1
 exact ⟨rfl, CH_1⟩
set_option maxRecDepth 100000 in
theorem steps_Form (s : Stp) (w : World) (st : StT w) (hf : formM s = true) (hG : 24 ≤ w.heap.size) :
  Calls Tryz.prog 162 #[.agg #[.int .i64 s.op, .int .i64 s.dst, .int .i64 s.src, .int .i64 s.jump, .int .i64 s.count, .int .i64 s.n, .int .i64 s.k]] w (Ret (fun v w' => v = .nilIface ∧ Ch No w w')) := by
 have hnb := form_n hf
 refine calls_of_VC (args := [.agg #[.int .i64 s.op, .int .i64 s.dst, .int .i64 s.src, .int .i64 s.jump, .int .i64 s.count, .int .i64 s.n, .int .i64 s.k]]) Tryz.func162 rfl Tryz.ntmps162 rfl (VC.seq (VC.region (VO.wk (Wk.box rfl) rfl rfl rfl ?_)))
 rintro _ w1 ⟨p1, rfl, N1⟩
 have c1 := N1.ch
 have e1 := N1.p; have z1 := N1.size
 have b1 := Bk.new N1
 refine VO.mv (Rn.assign rfl) rfl rfl rfl (VO.nil (VQ.then_code (VC.seq (VC.seq (VC.region (VO.mv (Rn.loads Tryz.isAgg119 Tryz.sizeOf119 rfl rfl (b1.all' rfl)) rfl rfl rfl ?_))))))
 have st_1 := st.keep c1
 refine VO.wk (Wk.call Tryz.call87 rfl (steps_form_ok s _ st_1 (by omega) hf)) rfl rfl rfl ?_
 rintro _ w2 ⟨rfl, c2⟩
 have z2 := c2.size
 refine VO.mv (Rn.not rfl) rfl rfl rfl (VO.nil (VQ.then_code (VC.cond_false rfl (VC.skip (VQ.then_code (VC.seq (VC.region ?_)))))))
 refine VO.mv (Rn.assign rfl) rfl rfl rfl (VO.nil (VQ.then_code (VC.ret (VQ.ret1 rfl rfl (Ret.mk ?_)))))
 have CH_2 := (Ch.refl (No) w).and (c1.trans c2)
 exact ⟨rfl, CH_2⟩
set_option maxRecDepth 100000 in
theorem touched1 (d sr ju co nn kk : Int) (w : World) :
  Calls Tryz.prog 165 #[.agg #[.int .i64 1, .int .i64 d, .int .i64 sr, .int .i64 ju, .int .i64 co, .int .i64 nn, .int .i64 kk]] w (Ret (fun v w' => ∃ q, v = .tuple #[.slice (some ⟨q, 0, none⟩) 1 1, .agg #[.int .i64 d, .int .i64 1, .int .i64 co], .bool false] ∧ SlR (Is q) w' (some ⟨q, 0, none⟩) 1 4 [.int .i64 sr, .int .i64 ju, .int .i64 co, .bool false] ∧ w.heap.size ≤ q ∧ Ch No w w')) := by
 refine calls_of_VC (args := [.agg #[.int .i64 1, .int .i64 d, .int .i64 sr, .int .i64 ju, .int .i64 co, .int .i64 nn, .int .i64 kk]]) Tryz.func165 rfl Tryz.ntmps165 rfl (VC.seq (VC.region (VO.wk (Wk.box rfl) rfl rfl rfl ?_)))
 rintro _ w1 ⟨p1, rfl, N1⟩
 have c1 := N1.ch
 have e1 := N1.p; have z1 := N1.size
 have b1 := Bk.new N1
 refine VO.mv (Rn.assign rfl) rfl rfl rfl (VO.wk (Wk.alloc Tryz.zeroValue225) rfl rfl rfl ?_)
 rintro _ w2 ⟨p2, rfl, N2⟩
 have c2 := N2.ch
 have e2 := N2.p; have z2 := N2.size
 have b3 := Bk.new N2
 refine VO.mv (Rn.assign rfl) rfl rfl rfl (VO.nil (VQ.then_code (VC.seq (VC.region (VO.mv (Rn.field Tryz.underlying119 rfl Tryz.sizeOf3 rfl rfl rfl) rfl rfl rfl ?_)))))
 have b1_2 := b1.keep c2
 refine VO.mv (Rn.load Tryz.isAgg3 rfl (b1_2.cell rfl)) rfl rfl rfl (VO.mv (Rn.field Tryz.underlying119 rfl Tryz.sizeOf3 rfl rfl rfl) rfl rfl rfl (VO.mv (Rn.load Tryz.isAgg3 rfl (b1_2.cell rfl)) rfl rfl rfl (VO.mv (Rn.build rfl (bld225_0_1_2w43 rfl)) rfl rfl rfl (VO.wk0 (Wk.puts Tryz.sizeOf225 rfl rfl rfl rfl b3 (Nat.le_of_ble_eq_true rfl)) rfl rfl ?_))))
 intro _ w3 Z3
 have c3 := Z3.ch; have z3 := Z3.size
 have b3_3 := Bk.put Z3
 refine VO.nil (VQ.then_code (VC.seq (VC.seq (VC.region (VO.mv (Rn.field Tryz.underlying119 rfl Tryz.sizeOf3 rfl rfl rfl) rfl rfl rfl ?_)))))
 have b1_3 := b1_2.to c3 (by first | exact id | omega)
 refine VO.mv (Rn.load Tryz.isAgg3 rfl (b1_3.cell rfl)) rfl rfl rfl (VO.nil (VQ.then_code (VC.block (VC.seq (VC.region (VO.mv (Rn.eql rfl rfl) rfl rfl rfl (VO.mv (Rn.assign rfl) rfl rfl rfl ?_)))))))
 refine VO.nil (VQ.then_code (VC.cond_if rfl (fun hc1 => ?_) (fun hc1 => ?_)))
 ·
  refine VC.seq (VC.drawsT 12 (.mv 0 (.mv 1 (.mv 2 (.mv 3 (.mv 4 (.mv 5 (.mv 6 (.mv 7 (.two 8 (.mv 10 (.wk 9 (.wk 11 .nil))) 9 (.wk 8 (.mv 10 (.wk 11 .nil)))))))))))) (fun w1 w' => Ch (Is p2) w1 w') mixed (by kernel_rfl) (fun _ _ => Ch.refl _ _) ?_)
  intro w4 D4
  have c4 := Ch.of_drew D4; have z4 := c4.size
  have b1_4 := b1_3.keep c4
  have b3_4 := b3_3.keep c4
  refine VT.mv (fun w' hS => Rn.field Tryz.underlying119 rfl Tryz.sizeOf3 rfl rfl rfl) rfl rfl rfl rfl (VT.mv (fun w' hS => Rn.load Tryz.isAgg3 rfl ((b1_4.to hS (by first | exact id | omega)).cell rfl)) rfl rfl rfl rfl (VT.mv (fun w' hS => Rn.field Tryz.underlying119 rfl Tryz.sizeOf3 rfl rfl rfl) rfl rfl rfl rfl (VT.mv (fun w' hS => Rn.load Tryz.isAgg3 rfl ((b1_4.to hS (by first | exact id | omega)).cell rfl)) rfl rfl rfl rfl (VT.mv (fun w' hS => Rn.field Tryz.underlying119 rfl Tryz.sizeOf3 rfl rfl rfl) rfl rfl rfl rfl (VT.mv (fun w' hS => Rn.load Tryz.isAgg3 rfl ((b1_4.to hS (by first | exact id | omega)).cell rfl)) rfl rfl rfl rfl (VT.mv (fun w' hS => Rn.build rfl (bld225_0_1_2w43 rfl)) rfl rfl rfl rfl (VT.mv (fun w' hS => Rn.build rfl (bld232_0_1w43 rfl)) rfl rfl rfl rfl ?_)))))))
  refine VT.two ?_ ?_
  ·
   refine VT.wk (Wk.lit Tryz.underlying228 inf232w43 (by decide) rfl rfl (by rfl) (by decide) (by decide) (by rfl)) rfl rfl rfl rfl ?_
   rintro _ w5 ⟨p5, rfl, N5⟩
   have c5 := N5.ch
   have e5 := N5.p; have z5 := N5.size
   have l22 := SlR.of_new (sz := 4) (l := 1) N5 rfl
   have l22o := Ow.of_new (sz := 4) (l := 1) N5 rfl (by decide)
   have RD_5 := (Ch.refl (Is p2) w4).and c5
   refine ⟨RD_5, ?_⟩
   refine VT.mv (fun w' hS => Rn.assign rfl) rfl rfl rfl rfl ?_
   have b3_5 := b3_4.keep c5
   refine VT.late (Rn.loads Tryz.isAgg225 Tryz.sizeOf225 rfl rfl (b3_5.all' rfl)) rfl rfl rfl rfl RD_5 (VT.wk0 (Wk.puts Tryz.sizeOf225 rfl rfl rfl rfl b3_5 (Nat.le_of_ble_eq_true rfl)) rfl rfl rfl ?_)
   intro _ w6 Z6
   have c6 := Z6.ch; have z6 := Z6.size
   have b3_6 := Bk.put Z6
   have RD_6 : Ch (Is p2) w4 w6 := RD_5.then c6 (by intro q h1 h2; rcases h2 with h2 | h2 <;> first | exact h2 | (exfalso; omega) | omega)
   refine ⟨RD_6, ?_⟩
   refine VT.done (VO.mv (Rn.assign rfl) rfl rfl rfl (VO.nil (VQ.noPanic (VQ.then_code (VC.ret (VQ.block_ret (VQ.then_ret ?_)))))))
   refine VQ.rettct rfl rfl rfl Tryz.isAgg225 Tryz.sizeOf225 rfl (b3_6.all' rfl) rfl (Ret.mk ?_)
   have cc_0_6 : Ch No w w6 := (Ch.then (E := No) (((Ch.then (E := No) (c1.and c2) c3 (by intro q h1 h2; rcases h2 with h2 | h2 <;> first | exact h2 | (exfalso; omega))).and c4).and c5) c6 (by intro q h1 h2; rcases h2 with h2 | h2 <;> first | exact h2 | (exfalso; omega)))
   have CH_6 := (Ch.refl (No) w).and cc_0_6
   have zz := CH_6.size
   have l22_6 := l22.to c6 (by first | exact fun _ _ _ _ => id | (intro q h1 h2 hx h3; omega))
   exact ⟨_, rfl, l22_6, by omega, CH_6⟩
  ·
   refine VT.late (Rn.loads Tryz.isAgg225 Tryz.sizeOf225 rfl rfl (b3_4.all' rfl)) rfl rfl rfl rfl (Ch.refl (Is p2) w4) (VT.wk (Wk.lit Tryz.underlying228 inf232w43 (by decide) rfl rfl (by rfl) (by decide) (by decide) (by rfl)) rfl rfl rfl rfl ?_)
   rintro _ w7 ⟨p7, rfl, N7⟩
   have c7 := N7.ch
   have e7 := N7.p; have z7 := N7.size
   have l22 := SlR.of_new (sz := 4) (l := 1) N7 rfl
   have l22o := Ow.of_new (sz := 4) (l := 1) N7 rfl (by decide)
   have RD_7 := (Ch.refl (Is p2) w4).and c7
   refine ⟨RD_7, ?_⟩
   refine VT.mv (fun w' hS => Rn.assign rfl) rfl rfl rfl rfl ?_
   have b3_7 := b3_4.keep c7
   refine VT.wk0 (Wk.puts Tryz.sizeOf225 rfl rfl rfl rfl b3_7 (Nat.le_of_ble_eq_true rfl)) rfl rfl rfl ?_
   intro _ w8 Z8
   have c8 := Z8.ch; have z8 := Z8.size
   have b3_8 := Bk.put Z8
   have RD_8 : Ch (Is p2) w4 w8 := RD_7.then c8 (by intro q h1 h2; rcases h2 with h2 | h2 <;> first | exact h2 | (exfalso; omega) | omega)
   refine ⟨RD_8, ?_⟩
   refine VT.done (VO.mv (Rn.assign rfl) rfl rfl rfl (VO.nil (VQ.noPanic (VQ.then_code (VC.ret (VQ.block_ret (VQ.then_ret ?_)))))))
   refine VQ.rettct rfl rfl rfl Tryz.isAgg225 Tryz.sizeOf225 rfl (b3_8.all' rfl) rfl (Ret.mk ?_)
   have cc_0_8 : Ch No w w8 := (Ch.then (E := No) (((Ch.then (E := No) (c1.and c2) c3 (by intro q h1 h2; rcases h2 with h2 | h2 <;> first | exact h2 | (exfalso; omega))).and c4).and c7) c8 (by intro q h1 h2; rcases h2 with h2 | h2 <;> first | exact h2 | (exfalso; omega)))
   have CH_8 := (Ch.refl (No) w).and cc_0_8
   have zz := CH_8.size
   have l22_8 := l22.to c8 (by first | exact fun _ _ _ _ => id | (intro q h1 h2 hx h3; omega))
   exact ⟨_, rfl, l22_8, by omega, CH_8⟩
 ·
  exact absurd rfl hc1
set_option maxRecDepth 100000 in
theorem touched6 (d sr ju co nn kk : Int) (w : World) :
  Calls Tryz.prog 165 #[.agg #[.int .i64 6, .int .i64 d, .int .i64 sr, .int .i64 ju, .int .i64 co, .int .i64 nn, .int .i64 kk]] w (Ret (fun v w' => ∃ q, v = .tuple #[.slice (some ⟨q, 0, none⟩) 1 1, .agg #[.int .i64 d, .int .i64 1, .int .i64 co], .bool false] ∧ SlR (Is q) w' (some ⟨q, 0, none⟩) 1 4 [.int .i64 sr, .int .i64 ju, .int .i64 nn, .bool true] ∧ w.heap.size ≤ q ∧ Ch No w w')) := by
 refine calls_of_VC (args := [.agg #[.int .i64 6, .int .i64 d, .int .i64 sr, .int .i64 ju, .int .i64 co, .int .i64 nn, .int .i64 kk]]) Tryz.func165 rfl Tryz.ntmps165 rfl (VC.seq (VC.region (VO.wk (Wk.box rfl) rfl rfl rfl ?_)))
 rintro _ w1 ⟨p1, rfl, N1⟩
 have c1 := N1.ch
 have e1 := N1.p; have z1 := N1.size
 have b1 := Bk.new N1
 refine VO.mv (Rn.assign rfl) rfl rfl rfl (VO.wk (Wk.alloc Tryz.zeroValue225) rfl rfl rfl ?_)
 rintro _ w2 ⟨p2, rfl, N2⟩
 have c2 := N2.ch
 have e2 := N2.p; have z2 := N2.size
 have b3 := Bk.new N2
 refine VO.mv (Rn.assign rfl) rfl rfl rfl (VO.nil (VQ.then_code (VC.seq (VC.region (VO.mv (Rn.field Tryz.underlying119 rfl Tryz.sizeOf3 rfl rfl rfl) rfl rfl rfl ?_)))))
 have b1_2 := b1.keep c2
 refine VO.mv (Rn.load Tryz.isAgg3 rfl (b1_2.cell rfl)) rfl rfl rfl (VO.mv (Rn.field Tryz.underlying119 rfl Tryz.sizeOf3 rfl rfl rfl) rfl rfl rfl (VO.mv (Rn.load Tryz.isAgg3 rfl (b1_2.cell rfl)) rfl rfl rfl (VO.mv (Rn.build rfl (bld225_0_1_2w43 rfl)) rfl rfl rfl (VO.wk0 (Wk.puts Tryz.sizeOf225 rfl rfl rfl rfl b3 (Nat.le_of_ble_eq_true rfl)) rfl rfl ?_))))
 intro _ w3 Z3
 have c3 := Z3.ch; have z3 := Z3.size
 have b3_3 := Bk.put Z3
 refine VO.nil (VQ.then_code (VC.seq (VC.seq (VC.region (VO.mv (Rn.field Tryz.underlying119 rfl Tryz.sizeOf3 rfl rfl rfl) rfl rfl rfl ?_)))))
 have b1_3 := b1_2.to c3 (by first | exact id | omega)
 refine VO.mv (Rn.load Tryz.isAgg3 rfl (b1_3.cell rfl)) rfl rfl rfl (VO.nil (VQ.then_code (VC.block (VC.seq (VC.region (VO.mv (Rn.eql rfl rfl) rfl rfl rfl (VO.mv (Rn.assign rfl) rfl rfl rfl ?_)))))))
 refine VO.nil (VQ.then_code (VC.cond_if rfl (fun hc1 => ?_) (fun hc1 => ?_)))
 ·
  omega
 ·
  refine VC.seq (VC.region (VO.mv (Rn.eql rfl rfl) rfl rfl rfl (VO.mv (Rn.assign rfl) rfl rfl rfl (VO.nil (VQ.then_code (VC.cond_if rfl (fun hc2 => ?_) (fun hc2 => ?_)))))))
  ·
   omega
  ·
   refine VC.seq (VC.seq (VC.region (VO.mv (Rn.eql rfl rfl) rfl rfl rfl (VO.mv (Rn.assign rfl) rfl rfl rfl (VO.nil (VQ.then_code (VC.cond_if rfl (fun hc3 => ?_) (fun hc3 => ?_))))))))
   ·
    omega
   ·
    refine VC.region (VO.mv (Rn.eql rfl rfl) rfl rfl rfl (VO.mv (Rn.assign rfl) rfl rfl rfl (VO.nil (VQ.then_code (VC.cond_if rfl (fun hc4 => ?_) (fun hc4 => ?_))))))
    ·
     omega
    ·
     refine VC.seq (VC.region (VO.mv (Rn.eql rfl rfl) rfl rfl rfl (VO.mv (Rn.assign rfl) rfl rfl rfl (VO.nil (VQ.then_code (VC.cond_if rfl (fun hc5 => ?_) (fun hc5 => ?_)))))))
     ·
      refine VC.seq (VC.drawsT 12 (.mv 0 (.mv 1 (.mv 2 (.mv 3 (.mv 4 (.mv 5 (.mv 6 (.mv 7 (.two 8 (.mv 10 (.wk 9 (.wk 11 .nil))) 9 (.wk 8 (.mv 10 (.wk 11 .nil)))))))))))) (fun w1 w' => Ch (Is p2) w1 w') mixed (by kernel_rfl) (fun _ _ => Ch.refl _ _) ?_)
      intro w4 D4
      have c4 := Ch.of_drew D4; have z4 := c4.size
      have b1_4 := b1_3.keep c4
      have b3_4 := b3_3.keep c4
      refine VT.mv (fun w' hS => Rn.field Tryz.underlying119 rfl Tryz.sizeOf3 rfl rfl rfl) rfl rfl rfl rfl (VT.mv (fun w' hS => Rn.load Tryz.isAgg3 rfl ((b1_4.to hS (by first | exact id | omega)).cell rfl)) rfl rfl rfl rfl (VT.mv (fun w' hS => Rn.field Tryz.underlying119 rfl Tryz.sizeOf3 rfl rfl rfl) rfl rfl rfl rfl (VT.mv (fun w' hS => Rn.load Tryz.isAgg3 rfl ((b1_4.to hS (by first | exact id | omega)).cell rfl)) rfl rfl rfl rfl (VT.mv (fun w' hS => Rn.field Tryz.underlying119 rfl Tryz.sizeOf3 rfl rfl rfl) rfl rfl rfl rfl (VT.mv (fun w' hS => Rn.load Tryz.isAgg3 rfl ((b1_4.to hS (by first | exact id | omega)).cell rfl)) rfl rfl rfl rfl (VT.mv (fun w' hS => Rn.build rfl (bld225_0_1_2w43 rfl)) rfl rfl rfl rfl (VT.mv (fun w' hS => Rn.build rfl (bld232_0_1w43 rfl)) rfl rfl rfl rfl ?_)))))))
      refine VT.two ?_ ?_
      ·
       refine VT.wk (Wk.lit Tryz.underlying228 inf232w43 (by decide) rfl rfl (by rfl) (by decide) (by decide) (by rfl)) rfl rfl rfl rfl ?_
       rintro _ w5 ⟨p5, rfl, N5⟩
       have c5 := N5.ch
       have e5 := N5.p; have z5 := N5.size
       have l54 := SlR.of_new (sz := 4) (l := 1) N5 rfl
       have l54o := Ow.of_new (sz := 4) (l := 1) N5 rfl (by decide)
       have RD_5 := (Ch.refl (Is p2) w4).and c5
       refine ⟨RD_5, ?_⟩
       refine VT.mv (fun w' hS => Rn.assign rfl) rfl rfl rfl rfl ?_
       have b3_5 := b3_4.keep c5
       refine VT.late (Rn.loads Tryz.isAgg225 Tryz.sizeOf225 rfl rfl (b3_5.all' rfl)) rfl rfl rfl rfl RD_5 (VT.wk0 (Wk.puts Tryz.sizeOf225 rfl rfl rfl rfl b3_5 (Nat.le_of_ble_eq_true rfl)) rfl rfl rfl ?_)
       intro _ w6 Z6
       have c6 := Z6.ch; have z6 := Z6.size
       have b3_6 := Bk.put Z6
       have RD_6 : Ch (Is p2) w4 w6 := RD_5.then c6 (by intro q h1 h2; rcases h2 with h2 | h2 <;> first | exact h2 | (exfalso; omega) | omega)
       refine ⟨RD_6, ?_⟩
       refine VT.done (VO.mv (Rn.assign rfl) rfl rfl rfl (VO.nil (VQ.noPanic (VQ.then_code (VC.ret (VQ.block_ret (VQ.then_ret ?_)))))))
       refine VQ.rettct rfl rfl rfl Tryz.isAgg225 Tryz.sizeOf225 rfl (b3_6.all' rfl) rfl (Ret.mk ?_)
       have cc_0_6 : Ch No w w6 := (Ch.then (E := No) (((Ch.then (E := No) (c1.and c2) c3 (by intro q h1 h2; rcases h2 with h2 | h2 <;> first | exact h2 | (exfalso; omega))).and c4).and c5) c6 (by intro q h1 h2; rcases h2 with h2 | h2 <;> first | exact h2 | (exfalso; omega)))
       have CH_6 := (Ch.refl (No) w).and cc_0_6
       have zz := CH_6.size
       have l54_6 := l54.to c6 (by first | exact fun _ _ _ _ => id | (intro q h1 h2 hx h3; omega))
       exact ⟨_, rfl, l54_6, by omega, CH_6⟩
      ·
       refine VT.late (Rn.loads Tryz.isAgg225 Tryz.sizeOf225 rfl rfl (b3_4.all' rfl)) rfl rfl rfl rfl (Ch.refl (Is p2) w4) (VT.wk (Wk.lit Tryz.underlying228 inf232w43 (by decide) rfl rfl (by rfl) (by decide) (by decide) (by rfl)) rfl rfl rfl rfl ?_)
       rintro _ w7 ⟨p7, rfl, N7⟩
       have c7 := N7.ch
       have e7 := N7.p; have z7 := N7.size
       have l54 := SlR.of_new (sz := 4) (l := 1) N7 rfl
       have l54o := Ow.of_new (sz := 4) (l := 1) N7 rfl (by decide)
       have RD_7 := (Ch.refl (Is p2) w4).and c7
       refine ⟨RD_7, ?_⟩
       refine VT.mv (fun w' hS => Rn.assign rfl) rfl rfl rfl rfl ?_
       have b3_7 := b3_4.keep c7
       refine VT.wk0 (Wk.puts Tryz.sizeOf225 rfl rfl rfl rfl b3_7 (Nat.le_of_ble_eq_true rfl)) rfl rfl rfl ?_
       intro _ w8 Z8
       have c8 := Z8.ch; have z8 := Z8.size
       have b3_8 := Bk.put Z8
       have RD_8 : Ch (Is p2) w4 w8 := RD_7.then c8 (by intro q h1 h2; rcases h2 with h2 | h2 <;> first | exact h2 | (exfalso; omega) | omega)
       refine ⟨RD_8, ?_⟩
       refine VT.done (VO.mv (Rn.assign rfl) rfl rfl rfl (VO.nil (VQ.noPanic (VQ.then_code (VC.ret (VQ.block_ret (VQ.then_ret ?_)))))))
       refine VQ.rettct rfl rfl rfl Tryz.isAgg225 Tryz.sizeOf225 rfl (b3_8.all' rfl) rfl (Ret.mk ?_)
       have cc_0_8 : Ch No w w8 := (Ch.then (E := No) (((Ch.then (E := No) (c1.and c2) c3 (by intro q h1 h2; rcases h2 with h2 | h2 <;> first | exact h2 | (exfalso; omega))).and c4).and c7) c8 (by intro q h1 h2; rcases h2 with h2 | h2 <;> first | exact h2 | (exfalso; omega)))
       have CH_8 := (Ch.refl (No) w).and cc_0_8
       have zz := CH_8.size
       have l54_8 := l54.to c8 (by first | exact fun _ _ _ _ => id | (intro q h1 h2 hx h3; omega))
       exact ⟨_, rfl, l54_8, by omega, CH_8⟩
     ·
      omega
set_option maxRecDepth 100000 in
theorem good1 (d sr ju co nn kk n : Int) (w : World) (st : StT w) (hf : formM ⟨1, d, sr, ju, co, nn, kk⟩ = true) (hd : 0 ≤ d ∧ d + co ≤ n ∧ n ≤ 1000000) (hc : 1 ≤ co ∧ co ≤ 1000000) (hs : 0 ≤ sr) (hj : 1 ≤ ju ∧ ju ≤ 1000000) (hk : 1 ≤ co ∧ co ≤ 1000000) (hr : sr + (co - 1) * ju < d) (hG : 24 ≤ w.heap.size) :
  Calls Tryz.prog 138 #[.agg #[.int .i64 1, .int .i64 d, .int .i64 sr, .int .i64 ju, .int .i64 co, .int .i64 nn, .int .i64 kk], .int .i64 n] w (Ret (fun v w' => v = .bool true ∧ Ch No w w')) := by
 have hnb := form_n hf
 have hp : 0 ≤ (co - 1) * ju := Int.mul_nonneg (by omega) (by omega)
 have hJ : ∀ j : Nat, (j : Int) < co → 0 ≤ (j : Int) * ju ∧ (j : Int) * ju ≤ (co - 1) * ju := fun j h => ⟨Int.mul_nonneg (by omega) (by omega), Int.mul_le_mul_of_nonneg_right (by omega) (by omega)⟩
 refine calls_of_VC (args := [.agg #[.int .i64 1, .int .i64 d, .int .i64 sr, .int .i64 ju, .int .i64 co, .int .i64 nn, .int .i64 kk], .int .i64 n]) Tryz.func138 rfl Tryz.ntmps138 rfl (VC.seq (VC.region (VO.wk (Wk.box rfl) rfl rfl rfl ?_)))
 rintro _ w1 ⟨p1, rfl, N1⟩
 have c1 := N1.ch
 have e1 := N1.p; have z1 := N1.size
 have b2 := Bk.new N1
 refine VO.mv (Rn.assign rfl) rfl rfl rfl (VO.nil (VQ.then_code (VC.seq (VC.seq (VC.region (VO.mv (Rn.loads Tryz.isAgg119 Tryz.sizeOf119 rfl rfl (b2.all' rfl)) rfl rfl rfl ?_))))))
 have st_1 := st.keep c1
 refine VO.wk (Wk.call Tryz.call162 rfl (steps_Form ⟨1, d, sr, ju, co, nn, kk⟩ _ st_1 hf (by omega))) rfl rfl rfl ?_
 rintro _ w2 ⟨rfl, c2⟩
 have z2 := c2.size
 refine VO.mv (Rn.nil_neq_nil Tryz.underlying29 rfl) rfl rfl rfl (VO.nil (VQ.then_code (VC.cond_false rfl (VC.skip (VQ.then_code (VC.seq (VC.seq ?_)))))))
 refine VC.region (VO.mv (Rn.field Tryz.underlying119 rfl Tryz.sizeOf3 rfl rfl rfl) rfl rfl rfl ?_)
 have b2_2 := b2.keep c2
 refine VO.mv (Rn.load Tryz.isAgg3 rfl (b2_2.cell rfl)) rfl rfl rfl (VO.mv (Rn.eqlF rfl rfl (by decide)) rfl rfl rfl (VO.nil (VQ.then_code (VC.cond_false rfl (VC.skip (VQ.then_code (VC.seq ?_)))))))
 refine VC.region (VO.mv (Rn.loads Tryz.isAgg119 Tryz.sizeOf119 rfl rfl (b2_2.all' rfl)) rfl rfl rfl (VO.wk (Wk.call Tryz.call165 rfl (touched1 _ _ _ _ _ _ _)) rfl rfl rfl ?_))
 rintro _ w3 ⟨q3, rfl, rd3, eq3, c3⟩
 have z3 := c3.size
 refine VO.mv (Rn.move rfl) rfl rfl rfl (VO.mv (Rn.extract rfl rfl) rfl rfl rfl (VO.mv (Rn.extract rfl rfl) rfl rfl rfl (VO.mv (Rn.extract rfl rfl) rfl rfl rfl (VO.wk (Wk.alloc Tryz.zeroValue225) rfl rfl rfl ?_))))
 rintro _ w4 ⟨p4, rfl, N4⟩
 have c4 := N4.ch
 have e4 := N4.p; have z4 := N4.size
 have b6 := Bk.new N4
 refine VO.mv (Rn.assign rfl) rfl rfl rfl (VO.wk0 (Wk.puts Tryz.sizeOf225 rfl rfl rfl rfl b6 (Nat.le_of_ble_eq_true rfl)) rfl rfl ?_)
 intro _ w5 Z5
 have c5 := Z5.ch; have z5 := Z5.size
 have b6_5 := Bk.put Z5
 refine VO.mv (Rn.assign rfl) rfl rfl rfl (VO.nil (VQ.then_code (VC.seq (VC.seq (VC.region (VO.mv (Rn.loads Tryz.isAgg225 Tryz.sizeOf225 rfl rfl (b6_5.all' rfl)) rfl rfl rfl (VO.wk (Wk.call Tryz.call164 rfl (cel_last _ _ _ (by omega) _)) rfl rfl rfl ?_)))))))
 rintro _ w6 ⟨rfl, c6⟩
 have z6 := c6.size
 refine VO.mv (Rn.move rfl) rfl rfl rfl (VO.mv (Rn.geqF rfl rfl (by omega)) rfl rfl rfl (VO.nil (VQ.then_code (VC.cond_false rfl (VC.skip (VQ.then_code (VC.seq ?_)))))))
 refine VC.seq (VC.region (VO.mv (Rn.move rfl) rfl rfl rfl (VO.mv (Rn.len Tryz.underlying228 rfl) rfl rfl rfl (VO.mv (Rn.move rfl) rfl rfl rfl (VO.nil (VQ.then_code (VC.block ?_)))))))
 have cc_2_6 : Ch No w2 w6 := ((Ch.then (E := No) (c3.and c4) c5 (by intro q h1 h2; rcases h2 with h2 | h2 <;> first | exact h2 | (exfalso; omega))).and c6)
 have b2_6 := b2_2.keep cc_2_6
 have b6_6 := b6_5.keep c6
 have cc_3_6 : Ch No w3 w6 := ((Ch.then (E := No) c4 c5 (by intro q h1 h2; rcases h2 with h2 | h2 <;> first | exact h2 | (exfalso; omega))).and c6)
 have rd_6 := rd3.keep cc_3_6
 have cc_0_6 : Ch No w w6 := ((Ch.then (E := No) (((c1.and c2).and c3).and c4) c5 (by intro q h1 h2; rcases h2 with h2 | h2 <;> first | exact h2 | (exfalso; omega))).and c6)
 have CH_6 := (Ch.refl (No) w).and cc_0_6
 refine VC.loopS (σ := Nat) (fun i => [(1, .int .i64 n), (2, .pointer (some ⟨p1, 0, none⟩)), (6, .pointer (some ⟨p4, 0, none⟩)), (38, .slice (some ⟨q3, 0, none⟩) 1 1), (39, .int .i64 1), (40, .int .i64 i)]) (fun i w' => i ≤ 1 ∧ w6.heap.size ≤ w'.heap.size ∧ Bk w' p1 #[.int .i64 1, .int .i64 d, .int .i64 sr, .int .i64 ju, .int .i64 co, .int .i64 nn, .int .i64 kk] 119 ∧ Bk w' p4 #[.int .i64 d, .int .i64 1, .int .i64 co] 225 ∧ SlR (Is q3) w' (some ⟨q3, 0, none⟩) 1 4 [.int .i64 sr, .int .i64 ju, .int .i64 co, .bool false] ∧ Ch (No) w w') (fun i => 1 - i) 0 ?_ ⟨rfl, rfl, rfl, rfl, rfl, rfl, trivial⟩ ?_
 · exact ⟨(by omega), (Nat.le_refl _), b2_6, b6_6, rd_6, CH_6⟩
 rintro i w7 ⟨hi, hsz7, b2_7, b6_7, rd_7, CH_7⟩
 show VC _ _ _ _ [(1, .int .i64 n), (2, .pointer (some ⟨p1, 0, none⟩)), (6, .pointer (some ⟨p4, 0, none⟩)), (38, .slice (some ⟨q3, 0, none⟩) 1 1), (39, .int .i64 1), (40, .int .i64 i)] _
 refine VC.seq (VC.region (VO.mv (Rn.lss rfl rfl) rfl rfl rfl (VO.nil (VQ.then_code (VC.seq (VC.cond_if rfl (fun hc1 => ?_) (fun hc1 => ?_)))))))
 ·
  refine VC.skip (VQ.then_code (VC.seq (VC.block (VC.seq ?_))))
  obtain rfl : i = 0 := by omega
  have rdc : CaR (Is q3) w7 ((sAddr (some ⟨q3, 0, none⟩)).add (0 * 4)) [.int .i64 sr, .int .i64 ju, .int .i64 co, .bool false] := ⟨rd_7.part (i := 0) (by omega) (fun j v h => by simpa using h), rfl⟩
  refine VC.region (VO.mv (Rn.indexS Tryz.underlying228 Tryz.sizeOf232 rfl rfl (rd_7.ne (by omega)) (by omega) (by omega)) rfl rfl rfl (VO.mv (Rn.loads Tryz.isAgg232 Tryz.sizeOf232 rfl rfl rdc.1) rfl rfl rfl (VO.wk (Wk.alloc Tryz.zeroValue232) rfl rfl rfl ?_)))
  rintro _ w8 ⟨p8, rfl, N8⟩
  have c8 := N8.ch
  have e8 := N8.p; have z8 := N8.size
  have b9 := Bk.new N8
  refine VO.wk0 (Wk.puts Tryz.sizeOf232 rfl rfl rfl rfl b9 (Nat.le_of_ble_eq_true rfl)) rfl rfl ?_
  intro _ w9 Z9
  have c9 := Z9.ch; have z9 := Z9.size
  have b9_9 := Bk.put Z9
  refine VO.nil (VQ.then_code (VC.seq (VC.seq (VC.region (VO.mv (Rn.field Tryz.underlying232 rfl Tryz.sizeOf225 rfl rfl rfl) rfl rfl rfl (VO.mv (Rn.loads Tryz.isAgg225 Tryz.sizeOf225 rfl rfl (b9_9.part 3 rfl)) rfl rfl rfl (VO.wk (Wk.call Tryz.call164 rfl (cel_last _ _ _ (by omega) _)) rfl rfl rfl ?_)))))))
  rintro _ w10 ⟨rfl, c10⟩
  have z10 := c10.size
  refine VO.mv (Rn.move rfl) rfl rfl rfl (VO.mv (Rn.geqF rfl rfl (by omega)) rfl rfl rfl (VO.nil (VQ.then_code (VC.cond_false rfl (VC.skip (VQ.then_code (VC.seq ?_)))))))
  refine VC.region (VO.mv (Rn.field Tryz.underlying232 rfl Tryz.sizeOf225 rfl rfl rfl) rfl rfl rfl (VO.mv (Rn.field Tryz.underlying225 rfl Tryz.sizeOf3 rfl rfl rfl) rfl rfl rfl ?_))
  have b9_10 := b9_9.keep c10
  refine VO.mv (Rn.load Tryz.isAgg3 rfl (b9_10.cell rfl)) rfl rfl rfl (VO.mv (Rn.move rfl) rfl rfl rfl (VO.nil (VQ.then_code (VC.block ?_))))
  have cc_7_10 : Ch No w7 w10 := ((Ch.then (E := No) c8 c9 (by intro q h1 h2; rcases h2 with h2 | h2 <;> first | exact h2 | (exfalso; omega))).and c10)
  have b2_10 := b2_7.keep cc_7_10
  have b6_10 := b6_7.keep cc_7_10
  have rd_10 := rd_7.keep cc_7_10
  have CH_10 := CH_7.and cc_7_10
  refine VC.loopS (σ := Nat) (fun j => [(1, .int .i64 n), (2, .pointer (some ⟨p1, 0, none⟩)), (6, .pointer (some ⟨p4, 0, none⟩)), (9, .pointer (some ⟨p8, 0, none⟩)), (38, .slice (some ⟨q3, 0, none⟩) 1 1), (39, .int .i64 1), (40, .int .i64 0), (51, .int .i64 co), (52, .int .i64 j)]) (fun j w' => (j : Int) ≤ co ∧ w10.heap.size ≤ w'.heap.size ∧ Bk w' p1 #[.int .i64 1, .int .i64 d, .int .i64 sr, .int .i64 ju, .int .i64 co, .int .i64 nn, .int .i64 kk] 119 ∧ Bk w' p4 #[.int .i64 d, .int .i64 1, .int .i64 co] 225 ∧ Bk w' p8 #[.int .i64 sr, .int .i64 ju, .int .i64 co, .bool false] 232 ∧ SlR (Is q3) w' (some ⟨q3, 0, none⟩) 1 4 [.int .i64 sr, .int .i64 ju, .int .i64 co, .bool false] ∧ Ch (No) w w') (fun j => co.toNat - j) 0 ?_ ⟨rfl, rfl, rfl, rfl, rfl, rfl, rfl, rfl, rfl, trivial⟩ ?_
  · exact ⟨(by omega), (Nat.le_refl _), b2_10, b6_10, b9_10, rd_10, CH_10⟩
  rintro j w11 ⟨hjc, hsz11, b2_11, b6_11, b9_11, rd_11, CH_11⟩
  show VC _ _ _ _ [(1, .int .i64 n), (2, .pointer (some ⟨p1, 0, none⟩)), (6, .pointer (some ⟨p4, 0, none⟩)), (9, .pointer (some ⟨p8, 0, none⟩)), (38, .slice (some ⟨q3, 0, none⟩) 1 1), (39, .int .i64 1), (40, .int .i64 0), (51, .int .i64 co), (52, .int .i64 j)] _
  have hJj := hJ j
  refine VC.seq (VC.region (VO.mv (Rn.lss rfl rfl) rfl rfl rfl (VO.nil (VQ.then_code (VC.seq (VC.cond_if rfl (fun hc2 => ?_) (fun hc2 => ?_)))))))
  ·
   refine VC.skip (VQ.then_code (VC.seq (VC.block (VC.seq (VC.region (VO.mv (Rn.move rfl) rfl rfl rfl (VO.mv (Rn.assign rfl) rfl rfl rfl ?_)))))))
   refine VO.nil (VQ.then_code (VC.seq (VC.region (VO.mv (Rn.loads Tryz.isAgg225 Tryz.sizeOf225 rfl rfl (b6_11.all' rfl)) rfl rfl rfl (VO.mv (Rn.field Tryz.underlying232 rfl Tryz.sizeOf225 rfl rfl rfl) rfl rfl rfl (VO.mv (Rn.field Tryz.underlying225 rfl Tryz.sizeOf3 rfl rfl rfl) rfl rfl rfl (VO.mv (Rn.load Tryz.isAgg3 rfl (b9_11.cell rfl)) rfl rfl rfl ?_)))))))
   refine VO.mv (Rn.move rfl) rfl rfl rfl (VO.mv (Rn.field Tryz.underlying232 rfl Tryz.sizeOf225 rfl rfl rfl) rfl rfl rfl (VO.mv (Rn.field Tryz.underlying225 rfl Tryz.sizeOf3 rfl rfl rfl) rfl rfl rfl (VO.mv (Rn.load Tryz.isAgg3 rfl (b9_11.cell rfl)) rfl rfl rfl ?_)))
   refine VO.mv (Rn.mul rfl rfl (by rw [IntKind.wrap_i64]; omega)) rfl rfl rfl ?_
   refine VO.mv (Rn.add rfl rfl (by rw [IntKind.wrap_i64]; omega)) rfl rfl rfl ?_
   refine VO.wk (Wk.call Tryz.call166 rfl (cel_has _ _ _ _ (by omega) _)) rfl rfl rfl ?_
   rintro _ w12 ⟨rfl, c12⟩
   have z12 := c12.size
   refine VO.mv (Rn.assign rfl) rfl rfl rfl (VO.nil (VQ.then_code (VC.seq (VC.seq (VC.region (VO.mv (Rn.move rfl) rfl rfl rfl (VO.mv (Rn.lssT rfl rfl (by omega)) rfl rfl rfl ?_)))))))
   refine VO.nil (VQ.then_code (VC.cond_true rfl (VC.exit (VQ.then_exit (VQ.block_exit (VQ.then_code (VC.region ?_)))))))
   refine VO.mv (Rn.add rfl rfl (by rw [IntKind.wrap_i64]; omega)) rfl rfl rfl ?_
   refine VO.mv (Rn.move rfl) rfl rfl rfl (VO.nil ?_)
   refine VQ.round (j + 1) (by first | omega | (dsimp only; omega)) ?_ ⟨rfl, rfl, rfl, rfl, rfl, rfl, rfl, rfl, rfl, trivial⟩
   have b2_12 := b2_11.keep c12
   have b6_12 := b6_11.keep c12
   have b9_12 := b9_11.keep c12
   have rd_12 := rd_11.keep c12
   have CH_12 := CH_11.and c12
   exact ⟨(by omega), (by omega), b2_12, b6_12, b9_12, rd_12, CH_12⟩
  ·
   refine VC.exit (VQ.then_exit (VQ.then_exit (VQ.block_exit (VQ.block_normal (VQ.then_code (VC.region ?_))))))
   refine VO.mv (Rn.add rfl rfl (by rw [IntKind.wrap_i64]; omega)) rfl rfl rfl ?_
   refine VO.mv (Rn.move rfl) rfl rfl rfl (VO.nil ?_)
   refine VQ.round 1 (by first | omega | (dsimp only; omega)) ?_ ⟨rfl, rfl, rfl, rfl, rfl, rfl, trivial⟩
   exact ⟨(by omega), (by omega), b2_11, b6_11, rd_11, CH_11⟩
 ·
  refine VC.exit (VQ.then_exit (VQ.then_exit (VQ.block_exit (VQ.then_code (VC.seq (VC.region (VO.mv (Rn.assign rfl) rfl rfl rfl ?_)))))))
  refine VO.nil (VQ.then_code (VC.ret (VQ.ret1 rfl rfl (Ret.mk ?_))))
  exact ⟨rfl, CH_7⟩
set_option maxRecDepth 100000 in
theorem good6 (d sr ju co nn kk n : Int) (w : World) (st : StT w) (hf : formM ⟨6, d, sr, ju, co, nn, kk⟩ = true) (hd : 0 ≤ d ∧ d + co ≤ n ∧ n ≤ 1000000) (hc : 1 ≤ co ∧ co ≤ 1000000) (hs : 0 ≤ sr) (hj : 1 ≤ ju ∧ ju ≤ 1000000) (hk : 1 ≤ nn ∧ nn ≤ 1000000) (hr : sr + (nn - 1) * ju < d) (hG : 24 ≤ w.heap.size) :
  Calls Tryz.prog 138 #[.agg #[.int .i64 6, .int .i64 d, .int .i64 sr, .int .i64 ju, .int .i64 co, .int .i64 nn, .int .i64 kk], .int .i64 n] w (Ret (fun v w' => v = .bool true ∧ Ch No w w')) := by
 have hnb := form_n hf
 have hp : 0 ≤ (nn - 1) * ju := Int.mul_nonneg (by omega) (by omega)
 have hJ : ∀ j : Nat, (j : Int) < nn → 0 ≤ (j : Int) * ju ∧ (j : Int) * ju ≤ (nn - 1) * ju := fun j h => ⟨Int.mul_nonneg (by omega) (by omega), Int.mul_le_mul_of_nonneg_right (by omega) (by omega)⟩
 refine calls_of_VC (args := [.agg #[.int .i64 6, .int .i64 d, .int .i64 sr, .int .i64 ju, .int .i64 co, .int .i64 nn, .int .i64 kk], .int .i64 n]) Tryz.func138 rfl Tryz.ntmps138 rfl (VC.seq (VC.region (VO.wk (Wk.box rfl) rfl rfl rfl ?_)))
 rintro _ w1 ⟨p1, rfl, N1⟩
 have c1 := N1.ch
 have e1 := N1.p; have z1 := N1.size
 have b2 := Bk.new N1
 refine VO.mv (Rn.assign rfl) rfl rfl rfl (VO.nil (VQ.then_code (VC.seq (VC.seq (VC.region (VO.mv (Rn.loads Tryz.isAgg119 Tryz.sizeOf119 rfl rfl (b2.all' rfl)) rfl rfl rfl ?_))))))
 have st_1 := st.keep c1
 refine VO.wk (Wk.call Tryz.call162 rfl (steps_Form ⟨6, d, sr, ju, co, nn, kk⟩ _ st_1 hf (by omega))) rfl rfl rfl ?_
 rintro _ w2 ⟨rfl, c2⟩
 have z2 := c2.size
 refine VO.mv (Rn.nil_neq_nil Tryz.underlying29 rfl) rfl rfl rfl (VO.nil (VQ.then_code (VC.cond_false rfl (VC.skip (VQ.then_code (VC.seq (VC.seq ?_)))))))
 refine VC.region (VO.mv (Rn.field Tryz.underlying119 rfl Tryz.sizeOf3 rfl rfl rfl) rfl rfl rfl ?_)
 have b2_2 := b2.keep c2
 refine VO.mv (Rn.load Tryz.isAgg3 rfl (b2_2.cell rfl)) rfl rfl rfl (VO.mv (Rn.eqlF rfl rfl (by decide)) rfl rfl rfl (VO.nil (VQ.then_code (VC.cond_false rfl (VC.skip (VQ.then_code (VC.seq ?_)))))))
 refine VC.region (VO.mv (Rn.loads Tryz.isAgg119 Tryz.sizeOf119 rfl rfl (b2_2.all' rfl)) rfl rfl rfl (VO.wk (Wk.call Tryz.call165 rfl (touched6 _ _ _ _ _ _ _)) rfl rfl rfl ?_))
 rintro _ w3 ⟨q3, rfl, rd3, eq3, c3⟩
 have z3 := c3.size
 refine VO.mv (Rn.move rfl) rfl rfl rfl (VO.mv (Rn.extract rfl rfl) rfl rfl rfl (VO.mv (Rn.extract rfl rfl) rfl rfl rfl (VO.mv (Rn.extract rfl rfl) rfl rfl rfl (VO.wk (Wk.alloc Tryz.zeroValue225) rfl rfl rfl ?_))))
 rintro _ w4 ⟨p4, rfl, N4⟩
 have c4 := N4.ch
 have e4 := N4.p; have z4 := N4.size
 have b6 := Bk.new N4
 refine VO.mv (Rn.assign rfl) rfl rfl rfl (VO.wk0 (Wk.puts Tryz.sizeOf225 rfl rfl rfl rfl b6 (Nat.le_of_ble_eq_true rfl)) rfl rfl ?_)
 intro _ w5 Z5
 have c5 := Z5.ch; have z5 := Z5.size
 have b6_5 := Bk.put Z5
 refine VO.mv (Rn.assign rfl) rfl rfl rfl (VO.nil (VQ.then_code (VC.seq (VC.seq (VC.region (VO.mv (Rn.loads Tryz.isAgg225 Tryz.sizeOf225 rfl rfl (b6_5.all' rfl)) rfl rfl rfl (VO.wk (Wk.call Tryz.call164 rfl (cel_last _ _ _ (by omega) _)) rfl rfl rfl ?_)))))))
 rintro _ w6 ⟨rfl, c6⟩
 have z6 := c6.size
 refine VO.mv (Rn.move rfl) rfl rfl rfl (VO.mv (Rn.geqF rfl rfl (by omega)) rfl rfl rfl (VO.nil (VQ.then_code (VC.cond_false rfl (VC.skip (VQ.then_code (VC.seq ?_)))))))
 refine VC.seq (VC.region (VO.mv (Rn.move rfl) rfl rfl rfl (VO.mv (Rn.len Tryz.underlying228 rfl) rfl rfl rfl (VO.mv (Rn.move rfl) rfl rfl rfl (VO.nil (VQ.then_code (VC.block ?_)))))))
 have cc_2_6 : Ch No w2 w6 := ((Ch.then (E := No) (c3.and c4) c5 (by intro q h1 h2; rcases h2 with h2 | h2 <;> first | exact h2 | (exfalso; omega))).and c6)
 have b2_6 := b2_2.keep cc_2_6
 have b6_6 := b6_5.keep c6
 have cc_3_6 : Ch No w3 w6 := ((Ch.then (E := No) c4 c5 (by intro q h1 h2; rcases h2 with h2 | h2 <;> first | exact h2 | (exfalso; omega))).and c6)
 have rd_6 := rd3.keep cc_3_6
 have cc_0_6 : Ch No w w6 := ((Ch.then (E := No) (((c1.and c2).and c3).and c4) c5 (by intro q h1 h2; rcases h2 with h2 | h2 <;> first | exact h2 | (exfalso; omega))).and c6)
 have CH_6 := (Ch.refl (No) w).and cc_0_6
 refine VC.loopS (σ := Nat) (fun i => [(1, .int .i64 n), (2, .pointer (some ⟨p1, 0, none⟩)), (6, .pointer (some ⟨p4, 0, none⟩)), (38, .slice (some ⟨q3, 0, none⟩) 1 1), (39, .int .i64 1), (40, .int .i64 i)]) (fun i w' => i ≤ 1 ∧ w6.heap.size ≤ w'.heap.size ∧ Bk w' p1 #[.int .i64 6, .int .i64 d, .int .i64 sr, .int .i64 ju, .int .i64 co, .int .i64 nn, .int .i64 kk] 119 ∧ Bk w' p4 #[.int .i64 d, .int .i64 1, .int .i64 co] 225 ∧ SlR (Is q3) w' (some ⟨q3, 0, none⟩) 1 4 [.int .i64 sr, .int .i64 ju, .int .i64 nn, .bool true] ∧ Ch (No) w w') (fun i => 1 - i) 0 ?_ ⟨rfl, rfl, rfl, rfl, rfl, rfl, trivial⟩ ?_
 · exact ⟨(by omega), (Nat.le_refl _), b2_6, b6_6, rd_6, CH_6⟩
 rintro i w7 ⟨hi, hsz7, b2_7, b6_7, rd_7, CH_7⟩
 show VC _ _ _ _ [(1, .int .i64 n), (2, .pointer (some ⟨p1, 0, none⟩)), (6, .pointer (some ⟨p4, 0, none⟩)), (38, .slice (some ⟨q3, 0, none⟩) 1 1), (39, .int .i64 1), (40, .int .i64 i)] _
 refine VC.seq (VC.region (VO.mv (Rn.lss rfl rfl) rfl rfl rfl (VO.nil (VQ.then_code (VC.seq (VC.cond_if rfl (fun hc1 => ?_) (fun hc1 => ?_)))))))
 ·
  refine VC.skip (VQ.then_code (VC.seq (VC.block (VC.seq ?_))))
  obtain rfl : i = 0 := by omega
  have rdc : CaR (Is q3) w7 ((sAddr (some ⟨q3, 0, none⟩)).add (0 * 4)) [.int .i64 sr, .int .i64 ju, .int .i64 nn, .bool true] := ⟨rd_7.part (i := 0) (by omega) (fun j v h => by simpa using h), rfl⟩
  refine VC.region (VO.mv (Rn.indexS Tryz.underlying228 Tryz.sizeOf232 rfl rfl (rd_7.ne (by omega)) (by omega) (by omega)) rfl rfl rfl (VO.mv (Rn.loads Tryz.isAgg232 Tryz.sizeOf232 rfl rfl rdc.1) rfl rfl rfl (VO.wk (Wk.alloc Tryz.zeroValue232) rfl rfl rfl ?_)))
  rintro _ w8 ⟨p8, rfl, N8⟩
  have c8 := N8.ch
  have e8 := N8.p; have z8 := N8.size
  have b9 := Bk.new N8
  refine VO.wk0 (Wk.puts Tryz.sizeOf232 rfl rfl rfl rfl b9 (Nat.le_of_ble_eq_true rfl)) rfl rfl ?_
  intro _ w9 Z9
  have c9 := Z9.ch; have z9 := Z9.size
  have b9_9 := Bk.put Z9
  refine VO.nil (VQ.then_code (VC.seq (VC.seq (VC.region (VO.mv (Rn.field Tryz.underlying232 rfl Tryz.sizeOf225 rfl rfl rfl) rfl rfl rfl (VO.mv (Rn.loads Tryz.isAgg225 Tryz.sizeOf225 rfl rfl (b9_9.part 3 rfl)) rfl rfl rfl (VO.wk (Wk.call Tryz.call164 rfl (cel_last _ _ _ (by omega) _)) rfl rfl rfl ?_)))))))
  rintro _ w10 ⟨rfl, c10⟩
  have z10 := c10.size
  refine VO.mv (Rn.move rfl) rfl rfl rfl (VO.mv (Rn.geqF rfl rfl (by omega)) rfl rfl rfl (VO.nil (VQ.then_code (VC.cond_false rfl (VC.skip (VQ.then_code (VC.seq ?_)))))))
  refine VC.region (VO.mv (Rn.field Tryz.underlying232 rfl Tryz.sizeOf225 rfl rfl rfl) rfl rfl rfl (VO.mv (Rn.field Tryz.underlying225 rfl Tryz.sizeOf3 rfl rfl rfl) rfl rfl rfl ?_))
  have b9_10 := b9_9.keep c10
  refine VO.mv (Rn.load Tryz.isAgg3 rfl (b9_10.cell rfl)) rfl rfl rfl (VO.mv (Rn.move rfl) rfl rfl rfl (VO.nil (VQ.then_code (VC.block ?_))))
  have cc_7_10 : Ch No w7 w10 := ((Ch.then (E := No) c8 c9 (by intro q h1 h2; rcases h2 with h2 | h2 <;> first | exact h2 | (exfalso; omega))).and c10)
  have b2_10 := b2_7.keep cc_7_10
  have b6_10 := b6_7.keep cc_7_10
  have rd_10 := rd_7.keep cc_7_10
  have CH_10 := CH_7.and cc_7_10
  refine VC.loopS (σ := Nat) (fun j => [(1, .int .i64 n), (2, .pointer (some ⟨p1, 0, none⟩)), (6, .pointer (some ⟨p4, 0, none⟩)), (9, .pointer (some ⟨p8, 0, none⟩)), (38, .slice (some ⟨q3, 0, none⟩) 1 1), (39, .int .i64 1), (40, .int .i64 0), (51, .int .i64 nn), (52, .int .i64 j)]) (fun j w' => (j : Int) ≤ nn ∧ w10.heap.size ≤ w'.heap.size ∧ Bk w' p1 #[.int .i64 6, .int .i64 d, .int .i64 sr, .int .i64 ju, .int .i64 co, .int .i64 nn, .int .i64 kk] 119 ∧ Bk w' p4 #[.int .i64 d, .int .i64 1, .int .i64 co] 225 ∧ Bk w' p8 #[.int .i64 sr, .int .i64 ju, .int .i64 nn, .bool true] 232 ∧ SlR (Is q3) w' (some ⟨q3, 0, none⟩) 1 4 [.int .i64 sr, .int .i64 ju, .int .i64 nn, .bool true] ∧ Ch (No) w w') (fun j => nn.toNat - j) 0 ?_ ⟨rfl, rfl, rfl, rfl, rfl, rfl, rfl, rfl, rfl, trivial⟩ ?_
  · exact ⟨(by omega), (Nat.le_refl _), b2_10, b6_10, b9_10, rd_10, CH_10⟩
  rintro j w11 ⟨hjc, hsz11, b2_11, b6_11, b9_11, rd_11, CH_11⟩
  show VC _ _ _ _ [(1, .int .i64 n), (2, .pointer (some ⟨p1, 0, none⟩)), (6, .pointer (some ⟨p4, 0, none⟩)), (9, .pointer (some ⟨p8, 0, none⟩)), (38, .slice (some ⟨q3, 0, none⟩) 1 1), (39, .int .i64 1), (40, .int .i64 0), (51, .int .i64 nn), (52, .int .i64 j)] _
  have hJj := hJ j
  refine VC.seq (VC.region (VO.mv (Rn.lss rfl rfl) rfl rfl rfl (VO.nil (VQ.then_code (VC.seq (VC.cond_if rfl (fun hc2 => ?_) (fun hc2 => ?_)))))))
  ·
   refine VC.skip (VQ.then_code (VC.seq (VC.block (VC.seq (VC.region (VO.mv (Rn.move rfl) rfl rfl rfl (VO.mv (Rn.assign rfl) rfl rfl rfl ?_)))))))
   refine VO.nil (VQ.then_code (VC.seq (VC.region (VO.mv (Rn.loads Tryz.isAgg225 Tryz.sizeOf225 rfl rfl (b6_11.all' rfl)) rfl rfl rfl (VO.mv (Rn.field Tryz.underlying232 rfl Tryz.sizeOf225 rfl rfl rfl) rfl rfl rfl (VO.mv (Rn.field Tryz.underlying225 rfl Tryz.sizeOf3 rfl rfl rfl) rfl rfl rfl (VO.mv (Rn.load Tryz.isAgg3 rfl (b9_11.cell rfl)) rfl rfl rfl ?_)))))))
   refine VO.mv (Rn.move rfl) rfl rfl rfl (VO.mv (Rn.field Tryz.underlying232 rfl Tryz.sizeOf225 rfl rfl rfl) rfl rfl rfl (VO.mv (Rn.field Tryz.underlying225 rfl Tryz.sizeOf3 rfl rfl rfl) rfl rfl rfl (VO.mv (Rn.load Tryz.isAgg3 rfl (b9_11.cell rfl)) rfl rfl rfl ?_)))
   refine VO.mv (Rn.mul rfl rfl (by rw [IntKind.wrap_i64]; omega)) rfl rfl rfl ?_
   refine VO.mv (Rn.add rfl rfl (by rw [IntKind.wrap_i64]; omega)) rfl rfl rfl ?_
   refine VO.wk (Wk.call Tryz.call166 rfl (cel_has _ _ _ _ (by omega) _)) rfl rfl rfl ?_
   rintro _ w12 ⟨rfl, c12⟩
   have z12 := c12.size
   refine VO.mv (Rn.assign rfl) rfl rfl rfl (VO.nil (VQ.then_code (VC.seq (VC.seq (VC.region (VO.mv (Rn.move rfl) rfl rfl rfl (VO.mv (Rn.lssT rfl rfl (by omega)) rfl rfl rfl ?_)))))))
   refine VO.nil (VQ.then_code (VC.cond_true rfl (VC.exit (VQ.then_exit (VQ.block_exit (VQ.then_code (VC.region ?_)))))))
   refine VO.mv (Rn.add rfl rfl (by rw [IntKind.wrap_i64]; omega)) rfl rfl rfl ?_
   refine VO.mv (Rn.move rfl) rfl rfl rfl (VO.nil ?_)
   refine VQ.round (j + 1) (by first | omega | (dsimp only; omega)) ?_ ⟨rfl, rfl, rfl, rfl, rfl, rfl, rfl, rfl, rfl, trivial⟩
   have b2_12 := b2_11.keep c12
   have b6_12 := b6_11.keep c12
   have b9_12 := b9_11.keep c12
   have rd_12 := rd_11.keep c12
   have CH_12 := CH_11.and c12
   exact ⟨(by omega), (by omega), b2_12, b6_12, b9_12, rd_12, CH_12⟩
  ·
   refine VC.exit (VQ.then_exit (VQ.then_exit (VQ.block_exit (VQ.block_normal (VQ.then_code (VC.region ?_))))))
   refine VO.mv (Rn.add rfl rfl (by rw [IntKind.wrap_i64]; omega)) rfl rfl rfl ?_
   refine VO.mv (Rn.move rfl) rfl rfl rfl (VO.nil ?_)
   refine VQ.round 1 (by first | omega | (dsimp only; omega)) ?_ ⟨rfl, rfl, rfl, rfl, rfl, rfl, trivial⟩
   exact ⟨(by omega), (by omega), b2_11, b6_11, rd_11, CH_11⟩
 ·
  refine VC.exit (VQ.then_exit (VQ.then_exit (VQ.block_exit (VQ.then_code (VC.seq (VC.region (VO.mv (Rn.assign rfl) rfl rfl rfl ?_)))))))
  refine VO.nil (VQ.then_code (VC.ret (VQ.ret1 rfl rfl (Ret.mk ?_))))
  exact ⟨rfl, CH_7⟩
set_option maxRecDepth 100000 in
theorem flown5 (d sr ju co kk : Int) (nn : Nat) (hd : 0 ≤ d ∧ d ≤ 1000000) (hj : 0 ≤ ju ∧ ju ≤ 1000000) (hn : nn ≤ 64) (w : World) :
  Calls Tryz.prog 163 #[.agg #[.int .i64 5, .int .i64 d, .int .i64 sr, .int .i64 ju, .int .i64 co, .int .i64 nn, .int .i64 kk]] w (Ret (fun v w' => ∃ r A c, v = .slice A nn c ∧ SlR (At r) w' A nn 3 (rowsQ d ju co nn) ∧ (r = 0 ∨ w.heap.size < r) ∧ Ch No w w')) := by
 have hJ : ∀ j : Nat, j ≤ 64 → 0 ≤ (j : Int) * ju ∧ (j : Int) * ju ≤ 64 * ju := fun j h => ⟨Int.mul_nonneg (by omega) (by omega), Int.mul_le_mul_of_nonneg_right (by omega) (by omega)⟩
 refine calls_of_VC (args := [.agg #[.int .i64 5, .int .i64 d, .int .i64 sr, .int .i64 ju, .int .i64 co, .int .i64 nn, .int .i64 kk]]) Tryz.func163 rfl Tryz.ntmps163 rfl (VC.seq (VC.region (VO.wk (Wk.box rfl) rfl rfl rfl ?_)))
 rintro _ w1 ⟨p1, rfl, N1⟩
 have c1 := N1.ch
 have e1 := N1.p; have z1 := N1.size
 have b1 := Bk.new N1
 refine VO.mv (Rn.assign rfl) rfl rfl rfl (VO.nil (VQ.then_code (VC.seq (VC.region (VO.mv (Rn.assign rfl) rfl rfl rfl (VO.nil (VQ.then_code ?_)))))))
 refine VC.seq (VC.seq (VC.region (VO.mv (Rn.field Tryz.underlying119 rfl Tryz.sizeOf3 rfl rfl rfl) rfl rfl rfl (VO.mv (Rn.load Tryz.isAgg3 rfl (b1.cell rfl)) rfl rfl rfl (VO.mv (Rn.move rfl) rfl rfl rfl (VO.nil (VQ.then_code ?_)))))))
 refine VC.block ?_
 have CH_1 := (Ch.refl (No) w).and c1
 refine VC.loopS (σ := Nat × Nat × Option Addr × Nat) (fun (q, r2, A2, c2) => [(1, .pointer (some ⟨p1, 0, none⟩)), (3, .slice A2 q c2), (6, .int .i64 nn), (7, .int .i64 q)]) (fun (q, r2, A2, c2) w' => q ≤ nn ∧ (r2 = 0 ∨ p1 + 1 < r2) ∧ w1.heap.size ≤ w'.heap.size ∧ Bk w' p1 #[.int .i64 5, .int .i64 d, .int .i64 sr, .int .i64 ju, .int .i64 co, .int .i64 nn, .int .i64 kk] 119 ∧ Ow w' r2 225 3 A2 q c2 (rowsQ d ju co q) ∧ Ch (No) w w') (fun (q, r2, A2, c2) => nn - q) (0, 0, none, 0) ?_ ⟨rfl, rfl, rfl, rfl, trivial⟩ ?_
 · exact ⟨(by omega), (by omega), (Nat.le_refl _), b1, (Ow.nil _ _ _), CH_1⟩
 rintro ⟨q, r2, A2, c2⟩ w2 ⟨hq, hr2, hsz2, b1_2, row_2, CH_2⟩
 show VC _ _ _ _ [(1, .pointer (some ⟨p1, 0, none⟩)), (3, .slice A2 q c2), (6, .int .i64 nn), (7, .int .i64 q)] _
 have hJq := hJ q (by omega)
 refine VC.seq (VC.region (VO.mv (Rn.lss rfl rfl) rfl rfl rfl (VO.nil (VQ.then_code (VC.seq (VC.cond_if rfl (fun hc1 => ?_) (fun hc1 => ?_)))))))
 ·
  refine VC.skip (VQ.then_code (VC.seq (VC.block (VC.seq (VC.region (VO.mv (Rn.move rfl) rfl rfl rfl (VO.mv (Rn.assign rfl) rfl rfl rfl ?_)))))))
  refine VO.nil (VQ.then_code (VC.region (VO.mv (Rn.move rfl) rfl rfl rfl (VO.mv (Rn.field Tryz.underlying119 rfl Tryz.sizeOf3 rfl rfl rfl) rfl rfl rfl (VO.mv (Rn.load Tryz.isAgg3 rfl (b1_2.cell rfl)) rfl rfl rfl (VO.mv (Rn.move rfl) rfl rfl rfl (VO.mv (Rn.field Tryz.underlying119 rfl Tryz.sizeOf3 rfl rfl rfl) rfl rfl rfl ?_)))))))
  refine VO.mv (Rn.load Tryz.isAgg3 rfl (b1_2.cell rfl)) rfl rfl rfl ?_
  refine VO.mv (Rn.mul rfl rfl (by rw [IntKind.wrap_i64]; omega)) rfl rfl rfl ?_
  refine VO.mv (Rn.add rfl rfl (by rw [IntKind.wrap_i64]; omega)) rfl rfl rfl ?_
  refine VO.mv (Rn.field Tryz.underlying119 rfl Tryz.sizeOf3 rfl rfl rfl) rfl rfl rfl (VO.mv (Rn.load Tryz.isAgg3 rfl (b1_2.cell rfl)) rfl rfl rfl (VO.mv (Rn.build rfl (bld225_0_1_2w43 rfl)) rfl rfl rfl (VO.wk (Wk.lit Tryz.underlying226 inf225w43 (by decide) rfl rfl (by rfl) (by decide) (by decide) (by rfl)) rfl rfl rfl ?_)))
  rintro _ w3 ⟨p3, rfl, N3⟩
  have c3 := N3.ch
  have e3 := N3.p; have z3 := N3.size
  have l21 := SlR.of_new (sz := 3) (l := 1) N3 rfl
  have l21o := Ow.of_new (sz := 3) (l := 1) N3 rfl (by decide)
  have row_3 := row_2.keep c3
  refine VO.wk (Wk.append (S := _) Tryz.underlying226 inf225w43 rfl (by decide) rfl rfl row_3 l21 (by rfl) (fun h => by simp at h) (by omega) (by simp only [maxLen]; omega)) rfl rfl rfl ?_
  rintro _ w4 ⟨r4, A4, k4, rfl, o4, c4, q4⟩
  have z4 := c4.size
  have y4 := o4.lt
  refine VO.mv (Rn.assign rfl) rfl rfl rfl (VO.nil (VQ.block_normal (VQ.then_code (VC.region ?_))))
  refine VO.mv (Rn.add rfl rfl (by rw [IntKind.wrap_i64]; omega)) rfl rfl rfl ?_
  refine VO.mv (Rn.move rfl) rfl rfl rfl (VO.nil ?_)
  refine VQ.round (q + 1, r4, A4, k4) (by first | omega | (dsimp only; omega)) ?_ ⟨rfl, rfl, rfl, rfl, trivial⟩
  have b1_3 := b1_2.keep c3
  have b1_4 := b1_3.to c4 (by first | exact id | omega)
  have CH_3 := CH_2.and c3
  have CH_4 : Ch (No) w w4 := CH_3.then c4 (by intro q h1 h2; rcases h2 with h2 | h2 <;> first | exact h2 | (exfalso; omega) | omega)
  exact ⟨(by omega), (by omega), (by omega), b1_4, (by rw [rowsQ_succ]; exact o4), CH_4⟩
 ·
  refine VC.exit (VQ.then_exit (VQ.then_exit (VQ.block_exit (VQ.then_code (VC.seq (VC.region (VO.mv (Rn.move rfl) rfl rfl rfl ?_)))))))
  refine VO.mv (Rn.assign rfl) rfl rfl rfl (VO.nil (VQ.then_code (VC.ret (VQ.ret1 rfl rfl (Ret.mk ?_)))))
  have e : q = nn := by omega
  subst e
  exact ⟨_, _, _, rfl, (row_2).sl, by omega, CH_2⟩
set_option maxRecDepth 100000 in
theorem good5 (d sr ju co kk n : Int) (nn : Nat) (w : World) (st : StT w) (hf : formM ⟨5, d, sr, ju, co, nn, kk⟩ = true) (hd : 0 ≤ d ∧ d ≤ 1000000) (hc : 1 ≤ co ∧ co ≤ 1000000) (hj : 1 ≤ ju ∧ ju ≤ 1000000) (hn : 1 ≤ nn ∧ nn ≤ 64) (hr : d + co - 1 + ((nn : Int) - 1) * ju < n) (hn2 : n ≤ 1000000) (hG : 24 ≤ w.heap.size) :
  Calls Tryz.prog 138 #[.agg #[.int .i64 5, .int .i64 d, .int .i64 sr, .int .i64 ju, .int .i64 co, .int .i64 nn, .int .i64 kk], .int .i64 n] w (Ret (fun v w' => v = .bool true ∧ Ch No w w')) := by
 have hp : 0 ≤ ((nn : Int) - 1) * ju := Int.mul_nonneg (by omega) (by omega)
 refine calls_of_VC (args := [.agg #[.int .i64 5, .int .i64 d, .int .i64 sr, .int .i64 ju, .int .i64 co, .int .i64 nn, .int .i64 kk], .int .i64 n]) Tryz.func138 rfl Tryz.ntmps138 rfl (VC.seq (VC.region (VO.wk (Wk.box rfl) rfl rfl rfl ?_)))
 rintro _ w1 ⟨p1, rfl, N1⟩
 have c1 := N1.ch
 have e1 := N1.p; have z1 := N1.size
 have b2 := Bk.new N1
 refine VO.mv (Rn.assign rfl) rfl rfl rfl (VO.nil (VQ.then_code (VC.seq (VC.seq (VC.region (VO.mv (Rn.loads Tryz.isAgg119 Tryz.sizeOf119 rfl rfl (b2.all' rfl)) rfl rfl rfl ?_))))))
 have st_1 := st.keep c1
 refine VO.wk (Wk.call Tryz.call162 rfl (steps_Form ⟨5, d, sr, ju, co, nn, kk⟩ _ st_1 hf (by omega))) rfl rfl rfl ?_
 rintro _ w2 ⟨rfl, c2⟩
 have z2 := c2.size
 refine VO.mv (Rn.nil_neq_nil Tryz.underlying29 rfl) rfl rfl rfl (VO.nil (VQ.then_code (VC.cond_false rfl (VC.skip (VQ.then_code (VC.seq (VC.seq ?_)))))))
 refine VC.region (VO.mv (Rn.field Tryz.underlying119 rfl Tryz.sizeOf3 rfl rfl rfl) rfl rfl rfl ?_)
 have b2_2 := b2.keep c2
 refine VO.mv (Rn.load Tryz.isAgg3 rfl (b2_2.cell rfl)) rfl rfl rfl (VO.mv (Rn.eql rfl rfl) rfl rfl rfl (VO.nil (VQ.then_code (VC.cond_if rfl (fun hc1 => ?_) (fun hc1 => ?_)))))
 ·
  refine VC.seq (VC.draws 10 [(0, true), (2, true), (3, true), (4, true), (8, true), (1, false), (5, false), (6, false), (7, false), (9, true)] (fun w1 w' => Ch (No) w1 w') mixed (by kernel_rfl) (fun _ _ => Ch.refl _ _) ?_)
  intro w3 D3
  have c3 := Ch.of_drew D3; have z3 := c3.size
  have b2_3 := b2_2.keep c3
  refine VH.mv (fun w' hS => Rn.loads Tryz.isAgg119 Tryz.sizeOf119 rfl rfl ((b2_3.keep hS).all' rfl)) rfl rfl rfl rfl (VH.mv (fun w' hS => Rn.field Tryz.underlying119 rfl Tryz.sizeOf3 rfl rfl rfl) rfl rfl rfl rfl (VH.mv (fun w' hS => Rn.load Tryz.isAgg3 rfl ((b2_3.keep hS).cell rfl)) rfl rfl rfl rfl ?_))
  refine VH.mv (fun w' hS => Rn.sub rfl rfl (by rw [IntKind.wrap_i64]; omega)) rfl rfl rfl rfl ?_
  refine VH.mv (fun w' hS => Rn.move rfl) rfl rfl rfl rfl (VH.wk (Wk.call Tryz.call163 rfl (flown5 _ _ _ _ _ _ (by omega) (by omega) (by omega) _)) rfl rfl rfl rfl ?_)
  rintro _ w4 ⟨r4, A4, k4, rfl, fl4, yr4, c4⟩
  have z4 := c4.size
  have RD_4 := (Ch.refl (No) w3).and c4
  refine ⟨RD_4, ?_⟩
  refine VH.late (Rn.indexS Tryz.underlying226 Tryz.sizeOf225 rfl rfl (fl4.ne (by omega)) (by omega) (by omega)) rfl rfl rfl rfl RD_4 (VH.late (Rn.loads Tryz.isAgg225 Tryz.sizeOf225 rfl rfl (sl_last fl4 (by omega)).1) rfl rfl rfl rfl RD_4 (VH.wk (Wk.call Tryz.call164 rfl (cel_last _ _ _ (by omega) _)) rfl rfl rfl rfl ?_))
  rintro _ w5 ⟨rfl, c5⟩
  have z5 := c5.size
  have RD_5 := RD_4.and c5
  refine ⟨RD_5, ?_⟩
  refine VH.mv (fun w' hS => Rn.lssT rfl rfl (by rw [Int.mul_one]; omega)) rfl rfl rfl rfl ?_
  refine VH.done (VO.mv (Rn.assign rfl) rfl rfl rfl (VO.nil (VQ.noPanic (VQ.then_code (VC.ret (VQ.then_ret (VQ.ret1 rfl rfl ?_)))))))
  refine Ret.mk ?_
  have CH_5 := (Ch.refl (No) w).and (c1.trans (c2.trans (c3.trans (c4.trans c5))))
  exact ⟨rfl, CH_5⟩
 ·
  exact absurd rfl hc1
def GoodS (s : Stp) (N : Nat) : Prop := StepOk s N ∧ formM s = true ∧ (s.op = 5 ∨ s.src + ((if s.op = 1 then s.count else s.n) - 1) * s.jump < s.dst)
instance (s : Stp) (N : Nat) : Decidable (GoodS s N) := by unfold GoodS; infer_instance
theorem good_ok (s : Stp) (N : Nat) (n : Int) (hn : n = N) (hN : N ≤ 1000000) (h : GoodS s N) (w : World) (st : StT w) (hG : 24 ≤ w.heap.size) :
    Calls Tryz.prog 138 #[.agg #[.int .i64 s.op, .int .i64 s.dst, .int .i64 s.src, .int .i64 s.jump, .int .i64 s.count, .int .i64 s.n, .int .i64 s.k], .int .i64 n] w (Ret fun v w' => v = .bool true ∧ Ch No w w') := by
  obtain ⟨op, dst, src, jump, count, n', k⟩ := s
  obtain ⟨⟨h1, h1', h2, h3, h4, h4', h5⟩, hf, h6⟩ := h
  simp only at h1 h1' h2 h3 h4 h4' h5 h6
  subst hn
  rcases h5 with ⟨rfl, h7, h8⟩ | ⟨rfl, h7, h8⟩ | ⟨rfl, h7, h8, h9, h10⟩
  · rw [if_pos rfl] at h6
    exact good1 dst src jump count n' k N w st hf (by omega) (by omega) (by omega) (by omega) (by omega) (by omega) hG
  · obtain ⟨nn, rfl⟩ := nat_of (show 0 ≤ n' by omega)
    have hp : 0 ≤ ((nn : Int) - 1) * jump := Int.mul_nonneg (by omega) (by omega)
    exact good5 dst src jump count k N nn w st hf (by omega) (by omega) (by omega) (by omega) (by omega) (by omega) hG
  · rw [if_neg (by decide)] at h6
    exact good6 dst src jump count n' k N w st hf (by omega) (by omega) (by omega) (by omega) (by omega) (by omega) hG
structure PrgOk (b : Bld) (N : Nat) : Prop where
  cl : b.cl = N
  ln : 1 ≤ b.ln ∧ b.ln ≤ 16384
  n1 : 1 ≤ N ∧ N ≤ 262144
  i0 : 0 ≤ b.i0 ∧ b.i0 ≤ b.cl - b.ln
  ou : 0 ≤ b.ou ∧ b.ou ≤ b.cl - b.ln
  st : ∀ s ∈ b.steps, GoodS s N
  len : b.steps.length ≤ 65536
  act : cntS b.steps ≤ 67108864
theorem PrgOk.ok {b : Bld} {N : Nat} (h : PrgOk b N) : ∀ s ∈ b.steps, StepOk s N := fun s hs => (h.st s hs).1
set_option maxRecDepth 100000 in
theorem c_Fault (b : Bld) (N : Nat) (ok : PrgOk b N) (S : Nat → Prop) (A : Option Addr) (c : Nat) (w : World) (st : StT w) (sb : SlR S w A b.steps.length 7 (flatS b.steps)) (hG : 24 ≤ w.heap.size) :
  Calls Tryz.prog 117 #[.agg #[.int .i64 b.ln, .int .i64 b.cl, .int .i64 b.i0, .int .i64 b.ou, .slice A b.steps.length c]] w (Ret (fun v w' => v = .int .i64 (-1) ∧ Ch No w w')) := by
 have hln := ok.ln; have hn1 := ok.n1; have hi0 := ok.i0; have hou := ok.ou; have hlen := ok.len; have hact := ok.act; have hcl := ok.cl
 have hdl0 := cntS_drop_le ok.ok 0; rw [List.drop_zero] at hdl0
 refine calls_of_VC (args := [.agg #[.int .i64 b.ln, .int .i64 b.cl, .int .i64 b.i0, .int .i64 b.ou, .slice A b.steps.length c]]) Tryz.func117 rfl Tryz.ntmps117 rfl (VC.seq (VC.region (VO.wk (Wk.box rfl) rfl rfl rfl ?_)))
 rintro _ w1 ⟨p1, rfl, N1⟩
 have c1 := N1.ch
 have e1 := N1.p; have z1 := N1.size
 have b1 := Bk.new N1
 refine VO.mv (Rn.assign rfl) rfl rfl rfl (VO.nil (VQ.then_code (VC.seq (VC.region (VO.mv (Rn.assign rfl) rfl rfl rfl (VO.nil (VQ.then_code ?_)))))))
 refine VC.seq (VC.seq (VC.region (VO.mv (Rn.field Tryz.underlying93 rfl Tryz.sizeOf91 rfl rfl rfl) rfl rfl rfl (VO.mv (Rn.load Tryz.isAgg91 rfl (b1.cell rfl)) rfl rfl rfl (VO.mv (Rn.len Tryz.underlying91 rfl) rfl rfl rfl (VO.mv (Rn.move rfl) rfl rfl rfl (VO.nil ?_)))))))
 refine VQ.then_code (VC.block ?_)
 have sb_1 := sb.keep c1
 have st_1 := st.keep c1
 have CH_1 := (Ch.refl (No) w).and c1
 refine VC.loopS (σ := Nat × Int) (fun (i, sm) => [(1, .pointer (some ⟨p1, 0, none⟩)), (3, .int .i64 sm), (7, .slice A b.steps.length c), (8, .int .i64 b.steps.length), (9, .int .i64 i)]) (fun (i, sm) w' => i ≤ b.steps.length ∧ sm = cntS b.steps - cntS (b.steps.drop i) ∧ w1.heap.size ≤ w'.heap.size ∧ Bk w' p1 #[.int .i64 b.ln, .int .i64 b.cl, .int .i64 b.i0, .int .i64 b.ou, .slice A b.steps.length c] 93 ∧ SlR S w' A b.steps.length 7 (flatS b.steps) ∧ StT w' ∧ Ch (No) w w') (fun (i, sm) => b.steps.length - i) (0, 0) ?_ ⟨rfl, rfl, rfl, rfl, rfl, trivial⟩ ?_
 · exact ⟨(by omega), (by rw [List.drop_zero]; omega), (Nat.le_refl _), b1, sb_1, st_1, CH_1⟩
 rintro ⟨i, sm⟩ w2 ⟨hi, hsm, hsz2, b1_2, sb_2, st_2, CH_2⟩
 show VC _ _ _ _ [(1, .pointer (some ⟨p1, 0, none⟩)), (3, .int .i64 sm), (7, .slice A b.steps.length c), (8, .int .i64 b.steps.length), (9, .int .i64 i)] _
 have hdl := cntS_drop_le ok.ok i
 refine VC.seq (VC.region (VO.mv (Rn.lss rfl rfl) rfl rfl rfl (VO.nil (VQ.then_code (VC.seq (VC.cond_if rfl (fun hc1 => ?_) (fun hc1 => ?_)))))))
 ·
  refine VC.skip (VQ.then_code (VC.seq (VC.block (VC.seq ?_))))
  obtain ⟨s, hs⟩ : ∃ s, b.steps[i]? = some s := ⟨_, List.getElem?_eq_getElem (by omega)⟩
  have hsg := ok.st s (List.mem_of_getElem? hs)
  have hcd := cntS_drop hs
  have hdl1 := cntS_drop_le ok.ok (i + 1)
  have hcp := hsg.1.1
  have hcp2 := hsg.1.2.1
  have ks := sl_step sb_2 rfl hs
  refine VC.region (VO.mv (Rn.move rfl) rfl rfl rfl (VO.mv (Rn.indexS Tryz.underlying91 Tryz.sizeOf119 rfl rfl (sb_2.ne (by omega)) (by omega) (by omega)) rfl rfl rfl (VO.mv (Rn.loads Tryz.isAgg119 Tryz.sizeOf119 rfl rfl ks.1) rfl rfl rfl (VO.wk (Wk.alloc Tryz.zeroValue119) rfl rfl rfl ?_))))
  rintro _ w3 ⟨p3, rfl, N3⟩
  have c3 := N3.ch
  have e3 := N3.p; have z3 := N3.size
  have b5 := Bk.new N3
  refine VO.mv (Rn.assign rfl) rfl rfl rfl (VO.wk0 (Wk.puts Tryz.sizeOf119 rfl rfl rfl rfl b5 (Nat.le_of_ble_eq_true rfl)) rfl rfl ?_)
  intro _ w4 Z4
  have c4 := Z4.ch; have z4 := Z4.size
  have b5_4 := Bk.put Z4
  refine VO.nil (VQ.then_code (VC.seq (VC.seq (VC.region (VO.mv (Rn.move rfl) rfl rfl rfl (VO.mv (Rn.eqlF rfl rfl (by omega)) rfl rfl rfl (VO.mv (Rn.move rfl) rfl rfl rfl ?_)))))))
  refine VO.mv (Rn.loads Tryz.isAgg119 Tryz.sizeOf119 rfl rfl (b5_4.all' rfl)) rfl rfl rfl (VO.mv (Rn.field Tryz.underlying93 rfl Tryz.sizeOf3 rfl rfl rfl) rfl rfl rfl ?_)
  have cc_2_4 : Ch No w2 w4 := (Ch.then (E := No) c3 c4 (by intro q h1 h2; rcases h2 with h2 | h2 <;> first | exact h2 | (exfalso; omega)))
  have b1_4 := b1_2.keep cc_2_4
  refine VO.mv (Rn.load Tryz.isAgg3 rfl (b1_4.cell rfl)) rfl rfl rfl ?_
  have st_4 := st_2.keep cc_2_4
  refine VO.wk (Wk.call Tryz.call138 rfl (good_ok _ _ _ ok.cl (by have := ok.n1; omega) hsg _ st_4 (by omega))) rfl rfl rfl ?_
  rintro _ w5 ⟨rfl, c5⟩
  have z5 := c5.size
  refine VO.mv (Rn.not rfl) rfl rfl rfl (VO.mv (Rn.pick_false rfl rfl) rfl rfl rfl (VO.nil (VQ.then_code (VC.cond_false rfl (VC.skip (VQ.then_code (VC.seq ?_)))))))
  refine VC.region (VO.mv (Rn.move rfl) rfl rfl rfl (VO.mv (Rn.field Tryz.underlying119 rfl Tryz.sizeOf3 rfl rfl rfl) rfl rfl rfl ?_))
  have b5_5 := b5_4.keep c5
  refine VO.mv (Rn.load Tryz.isAgg3 rfl (b5_5.cell rfl)) rfl rfl rfl ?_
  refine VO.mv (Rn.add rfl rfl (by rw [IntKind.wrap_i64]; omega)) rfl rfl rfl ?_
  refine VO.mv (Rn.assign rfl) rfl rfl rfl (VO.nil (VQ.then_code (VC.seq (VC.region (VO.mv (Rn.move rfl) rfl rfl rfl (VO.mv (Rn.gtr rfl rfl) rfl rfl rfl (VO.nil ?_)))))))
  refine VQ.then_code (VC.cond_if rfl (fun hc2 => ?_) (fun hc2 => ?_))
  ·
   omega
  ·
   refine VC.skip (VQ.block_normal (VQ.then_code (VC.region ?_)))
   refine VO.mv (Rn.add rfl rfl (by rw [IntKind.wrap_i64]; omega)) rfl rfl rfl ?_
   refine VO.mv (Rn.move rfl) rfl rfl rfl (VO.nil ?_)
   refine VQ.round (i + 1, _) (by first | omega | (dsimp only; omega)) ?_ ⟨rfl, rfl, rfl, rfl, rfl, trivial⟩
   have b1_5 := b1_4.keep c5
   have cc_2_5 : Ch No w2 w5 := ((Ch.then (E := No) c3 c4 (by intro q h1 h2; rcases h2 with h2 | h2 <;> first | exact h2 | (exfalso; omega))).and c5)
   have sb_5 := sb_2.keep cc_2_5
   have st_5 := st_4.keep c5
   have CH_5 := CH_2.and cc_2_5
   exact ⟨(by omega), (by omega), (by omega), b1_5, sb_5, st_5, CH_5⟩
 ·
  refine VC.exit (VQ.then_exit (VQ.then_exit (VQ.block_exit (VQ.then_code (VC.seq (VC.region (VO.mv (Rn.assign rfl) rfl rfl rfl ?_)))))))
  refine VO.nil (VQ.then_code (VC.ret (VQ.ret1 rfl rfl (Ret.mk ?_))))
  exact ⟨rfl, CH_2⟩
set_option maxRecDepth 100000 in
theorem c_Check (b : Bld) (N : Nat) (ok : PrgOk b N) (S : Nat → Prop) (A : Option Addr) (c : Nat) (w : World) (st : StT w) (sb : SlR S w A b.steps.length 7 (flatS b.steps)) (hG : 24 ≤ w.heap.size) :
  Calls Tryz.prog 83 #[.agg #[.int .i64 b.ln, .int .i64 b.cl, .int .i64 b.i0, .int .i64 b.ou, .slice A b.steps.length c]] w (Ret (fun v w' => v = .nilIface ∧ Ch No w w')) := by
 have hln := ok.ln; have hn1 := ok.n1; have hi0 := ok.i0; have hou := ok.ou; have hlen := ok.len; have hact := ok.act; have hcl := ok.cl
 have hdl0 := cntS_drop_le ok.ok 0; rw [List.drop_zero] at hdl0
 refine calls_of_VC (args := [.agg #[.int .i64 b.ln, .int .i64 b.cl, .int .i64 b.i0, .int .i64 b.ou, .slice A b.steps.length c]]) Tryz.func83 rfl Tryz.ntmps83 rfl (VC.seq (VC.region (VO.wk (Wk.box rfl) rfl rfl rfl ?_)))
 rintro _ w1 ⟨p1, rfl, N1⟩
 have c1 := N1.ch
 have e1 := N1.p; have z1 := N1.size
 have b1 := Bk.new N1
 refine VO.mv (Rn.assign rfl) rfl rfl rfl (VO.nil (VQ.then_code (VC.seq (VC.region (VO.mv (Rn.field Tryz.underlying93 rfl Tryz.sizeOf3 rfl rfl rfl) rfl rfl rfl (VO.mv (Rn.load Tryz.isAgg3 rfl (b1.cell rfl)) rfl rfl rfl (VO.mv (Rn.geqT rfl rfl (by omega)) rfl rfl rfl ?_)))))))
 refine VO.mv (Rn.move rfl) rfl rfl rfl (VO.mv (Rn.field Tryz.underlying93 rfl Tryz.sizeOf3 rfl rfl rfl) rfl rfl rfl (VO.mv (Rn.load Tryz.isAgg3 rfl (b1.cell rfl)) rfl rfl rfl (VO.mv (Rn.leqT rfl rfl (by omega)) rfl rfl rfl (VO.mv (Rn.pick_true rfl rfl) rfl rfl rfl (VO.mv (Rn.move rfl) rfl rfl rfl (VO.mv (Rn.field Tryz.underlying93 rfl Tryz.sizeOf3 rfl rfl rfl) rfl rfl rfl (VO.mv (Rn.load Tryz.isAgg3 rfl (b1.cell rfl)) rfl rfl rfl ?_)))))))
 refine VO.mv (Rn.geqT rfl rfl (by omega)) rfl rfl rfl (VO.mv (Rn.pick_true rfl rfl) rfl rfl rfl (VO.mv (Rn.move rfl) rfl rfl rfl (VO.mv (Rn.field Tryz.underlying93 rfl Tryz.sizeOf3 rfl rfl rfl) rfl rfl rfl (VO.mv (Rn.load Tryz.isAgg3 rfl (b1.cell rfl)) rfl rfl rfl (VO.mv (Rn.leqT rfl rfl (by omega)) rfl rfl rfl (VO.mv (Rn.pick_true rfl rfl) rfl rfl rfl (VO.mv (Rn.move rfl) rfl rfl rfl ?_)))))))
 refine VO.mv (Rn.field Tryz.underlying93 rfl Tryz.sizeOf3 rfl rfl rfl) rfl rfl rfl (VO.mv (Rn.load Tryz.isAgg3 rfl (b1.cell rfl)) rfl rfl rfl (VO.mv (Rn.geqT rfl rfl (by omega)) rfl rfl rfl (VO.mv (Rn.pick_true rfl rfl) rfl rfl rfl (VO.mv (Rn.move rfl) rfl rfl rfl (VO.mv (Rn.field Tryz.underlying93 rfl Tryz.sizeOf3 rfl rfl rfl) rfl rfl rfl (VO.mv (Rn.load Tryz.isAgg3 rfl (b1.cell rfl)) rfl rfl rfl (VO.mv (Rn.geqT rfl rfl (by omega)) rfl rfl rfl ?_)))))))
 refine VO.mv (Rn.pick_true rfl rfl) rfl rfl rfl (VO.mv (Rn.move rfl) rfl rfl rfl (VO.mv (Rn.field Tryz.underlying93 rfl Tryz.sizeOf3 rfl rfl rfl) rfl rfl rfl (VO.mv (Rn.load Tryz.isAgg3 rfl (b1.cell rfl)) rfl rfl rfl (VO.mv (Rn.field Tryz.underlying93 rfl Tryz.sizeOf3 rfl rfl rfl) rfl rfl rfl (VO.mv (Rn.load Tryz.isAgg3 rfl (b1.cell rfl)) rfl rfl rfl (VO.mv (Rn.field Tryz.underlying93 rfl Tryz.sizeOf3 rfl rfl rfl) rfl rfl rfl (VO.mv (Rn.load Tryz.isAgg3 rfl (b1.cell rfl)) rfl rfl rfl ?_)))))))
 refine VO.mv (Rn.sub rfl rfl (by rw [IntKind.wrap_i64]; omega)) rfl rfl rfl ?_
 refine VO.mv (Rn.leqT rfl rfl (by omega)) rfl rfl rfl (VO.mv (Rn.pick_true rfl rfl) rfl rfl rfl (VO.mv (Rn.move rfl) rfl rfl rfl (VO.mv (Rn.field Tryz.underlying93 rfl Tryz.sizeOf3 rfl rfl rfl) rfl rfl rfl (VO.mv (Rn.load Tryz.isAgg3 rfl (b1.cell rfl)) rfl rfl rfl (VO.mv (Rn.field Tryz.underlying93 rfl Tryz.sizeOf3 rfl rfl rfl) rfl rfl rfl (VO.mv (Rn.load Tryz.isAgg3 rfl (b1.cell rfl)) rfl rfl rfl (VO.mv (Rn.field Tryz.underlying93 rfl Tryz.sizeOf3 rfl rfl rfl) rfl rfl rfl ?_)))))))
 refine VO.mv (Rn.load Tryz.isAgg3 rfl (b1.cell rfl)) rfl rfl rfl ?_
 refine VO.mv (Rn.sub rfl rfl (by rw [IntKind.wrap_i64]; omega)) rfl rfl rfl ?_
 refine VO.mv (Rn.leqT rfl rfl (by omega)) rfl rfl rfl (VO.mv (Rn.pick_true rfl rfl) rfl rfl rfl (VO.mv (Rn.assign rfl) rfl rfl rfl (VO.nil (VQ.then_code (VC.seq (VC.seq (VC.region ?_)))))))
 refine VO.mv (Rn.move rfl) rfl rfl rfl (VO.mv (Rn.not rfl) rfl rfl rfl (VO.mv (Rn.move rfl) rfl rfl rfl (VO.mv (Rn.loads Tryz.isAgg93 Tryz.sizeOf93 rfl rfl (b1.all' rfl)) rfl rfl rfl ?_)))
 have st_1 := st.keep c1
 have sb_1 := sb.keep c1
 refine VO.wk (Wk.call Tryz.call117 rfl (c_Fault _ _ ok _ _ _ _ st_1 sb_1 (by omega))) rfl rfl rfl ?_
 rintro _ w2 ⟨rfl, c2⟩
 have z2 := c2.size
 refine VO.mv (Rn.geqF rfl rfl (by omega)) rfl rfl rfl (VO.mv (Rn.pick_false rfl rfl) rfl rfl rfl (VO.nil (VQ.then_code (VC.cond_false rfl (VC.skip (VQ.then_code (VC.seq ?_)))))))
 refine VC.region (VO.mv (Rn.assign rfl) rfl rfl rfl (VO.nil (VQ.then_code (VC.ret (VQ.ret1 rfl rfl (Ret.mk ?_))))))
 have CH_2 := (Ch.refl (No) w).and (c1.trans c2)
 exact ⟨rfl, CH_2⟩
set_option maxRecDepth 100000 in
theorem c_Acts (b : Bld) (N : Nat) (ok : PrgOk b N) (S : Nat → Prop) (A : Option Addr) (c : Nat) (w : World) (st : StT w) (sb : SlR S w A b.steps.length 7 (flatS b.steps)) (hG : 24 ≤ w.heap.size) :
  Calls Tryz.prog 65 #[.agg #[.int .i64 b.ln, .int .i64 b.cl, .int .i64 b.i0, .int .i64 b.ou, .slice A b.steps.length c]] w (Ret (fun v w' => v = .tuple #[.int .i64 (cntS b.steps), .nilIface] ∧ Ch No w w')) := by
 have hln := ok.ln; have hn1 := ok.n1; have hi0 := ok.i0; have hou := ok.ou; have hlen := ok.len; have hact := ok.act; have hcl := ok.cl
 have hdl0 := cntS_drop_le ok.ok 0; rw [List.drop_zero] at hdl0
 refine calls_of_VC (args := [.agg #[.int .i64 b.ln, .int .i64 b.cl, .int .i64 b.i0, .int .i64 b.ou, .slice A b.steps.length c]]) Tryz.func65 rfl Tryz.ntmps65 rfl (VC.seq (VC.region (VO.wk (Wk.box rfl) rfl rfl rfl ?_)))
 rintro _ w1 ⟨p1, rfl, N1⟩
 have c1 := N1.ch
 have e1 := N1.p; have z1 := N1.size
 have b1 := Bk.new N1
 refine VO.mv (Rn.assign rfl) rfl rfl rfl (VO.mv (Rn.assign rfl) rfl rfl rfl (VO.nil (VQ.then_code (VC.seq (VC.seq (VC.region (VO.mv (Rn.loads Tryz.isAgg93 Tryz.sizeOf93 rfl rfl (b1.all' rfl)) rfl rfl rfl ?_)))))))
 have st_1 := st.keep c1
 have sb_1 := sb.keep c1
 refine VO.wk (Wk.call Tryz.call83 rfl (c_Check _ _ ok _ _ _ _ st_1 sb_1 (by omega))) rfl rfl rfl ?_
 rintro _ w2 ⟨rfl, c2⟩
 have z2 := c2.size
 refine VO.mv (Rn.assign rfl) rfl rfl rfl (VO.nil (VQ.then_code (VC.seq (VC.region (VO.mv (Rn.move rfl) rfl rfl rfl (VO.mv (Rn.nil_neq_nil Tryz.underlying29 rfl) rfl rfl rfl (VO.nil ?_)))))))
 refine VQ.then_code (VC.cond_false rfl (VC.skip (VQ.then_code (VC.seq (VC.region (VO.mv (Rn.assign rfl) rfl rfl rfl (VO.nil ?_)))))))
 refine VQ.then_code (VC.seq (VC.seq (VC.region (VO.mv (Rn.field Tryz.underlying93 rfl Tryz.sizeOf91 rfl rfl rfl) rfl rfl rfl ?_))))
 have b1_2 := b1.keep c2
 refine VO.mv (Rn.load Tryz.isAgg91 rfl (b1_2.cell rfl)) rfl rfl rfl (VO.mv (Rn.len Tryz.underlying91 rfl) rfl rfl rfl (VO.mv (Rn.move rfl) rfl rfl rfl (VO.nil (VQ.then_code (VC.block ?_)))))
 have sb_2 := sb_1.keep c2
 have CH_2 := (Ch.refl (No) w).and (c1.trans c2)
 refine VC.loopS (σ := Nat × Int) (fun (i, sm) => [(1, .pointer (some ⟨p1, 0, none⟩)), (5, .int .i64 sm), (14, .slice A b.steps.length c), (15, .int .i64 b.steps.length), (16, .int .i64 i)]) (fun (i, sm) w' => i ≤ b.steps.length ∧ sm = cntS b.steps - cntS (b.steps.drop i) ∧ w2.heap.size ≤ w'.heap.size ∧ Bk w' p1 #[.int .i64 b.ln, .int .i64 b.cl, .int .i64 b.i0, .int .i64 b.ou, .slice A b.steps.length c] 93 ∧ SlR S w' A b.steps.length 7 (flatS b.steps) ∧ Ch (No) w w') (fun (i, sm) => b.steps.length - i) (0, 0) ?_ ⟨rfl, rfl, rfl, rfl, rfl, trivial⟩ ?_
 · exact ⟨(by omega), (by rw [List.drop_zero]; omega), (Nat.le_refl _), b1_2, sb_2, CH_2⟩
 rintro ⟨i, sm⟩ w3 ⟨hi, hsm, hsz3, b1_3, sb_3, CH_3⟩
 show VC _ _ _ _ [(1, .pointer (some ⟨p1, 0, none⟩)), (5, .int .i64 sm), (14, .slice A b.steps.length c), (15, .int .i64 b.steps.length), (16, .int .i64 i)] _
 have hdl := cntS_drop_le ok.ok i
 refine VC.seq (VC.region (VO.mv (Rn.lss rfl rfl) rfl rfl rfl (VO.nil (VQ.then_code (VC.seq (VC.cond_if rfl (fun hc1 => ?_) (fun hc1 => ?_)))))))
 ·
  refine VC.skip (VQ.then_code (VC.seq (VC.block (VC.seq ?_))))
  obtain ⟨s, hs⟩ : ∃ s, b.steps[i]? = some s := ⟨_, List.getElem?_eq_getElem (by omega)⟩
  have hsg := ok.st s (List.mem_of_getElem? hs)
  have hcd := cntS_drop hs
  have hdl1 := cntS_drop_le ok.ok (i + 1)
  have hcp := hsg.1.1
  have hcp2 := hsg.1.2.1
  have ks := sl_step sb_3 rfl hs
  refine VC.region (VO.mv (Rn.indexS Tryz.underlying91 Tryz.sizeOf119 rfl rfl (sb_3.ne (by omega)) (by omega) (by omega)) rfl rfl rfl (VO.mv (Rn.loads Tryz.isAgg119 Tryz.sizeOf119 rfl rfl ks.1) rfl rfl rfl (VO.wk (Wk.alloc Tryz.zeroValue119) rfl rfl rfl ?_)))
  rintro _ w4 ⟨p4, rfl, N4⟩
  have c4 := N4.ch
  have e4 := N4.p; have z4 := N4.size
  have b7 := Bk.new N4
  refine VO.wk0 (Wk.puts Tryz.sizeOf119 rfl rfl rfl rfl b7 (Nat.le_of_ble_eq_true rfl)) rfl rfl ?_
  intro _ w5 Z5
  have c5 := Z5.ch; have z5 := Z5.size
  have b7_5 := Bk.put Z5
  refine VO.nil (VQ.then_code (VC.region (VO.mv (Rn.move rfl) rfl rfl rfl (VO.mv (Rn.field Tryz.underlying119 rfl Tryz.sizeOf3 rfl rfl rfl) rfl rfl rfl (VO.mv (Rn.load Tryz.isAgg3 rfl (b7_5.cell rfl)) rfl rfl rfl ?_)))))
  refine VO.mv (Rn.add rfl rfl (by rw [IntKind.wrap_i64]; omega)) rfl rfl rfl ?_
  refine VO.mv (Rn.assign rfl) rfl rfl rfl (VO.nil (VQ.block_normal (VQ.then_code (VC.region ?_))))
  refine VO.mv (Rn.add rfl rfl (by rw [IntKind.wrap_i64]; omega)) rfl rfl rfl ?_
  refine VO.mv (Rn.move rfl) rfl rfl rfl (VO.nil ?_)
  refine VQ.round (i + 1, _) (by first | omega | (dsimp only; omega)) ?_ ⟨rfl, rfl, rfl, rfl, rfl, trivial⟩
  have cc_3_5 : Ch No w3 w5 := (Ch.then (E := No) c4 c5 (by intro q h1 h2; rcases h2 with h2 | h2 <;> first | exact h2 | (exfalso; omega)))
  have b1_5 := b1_3.keep cc_3_5
  have sb_5 := sb_3.keep cc_3_5
  have CH_5 := CH_3.and cc_3_5
  exact ⟨(by omega), (by omega), (by omega), b1_5, sb_5, CH_5⟩
 ·
  refine VC.exit (VQ.then_exit (VQ.then_exit (VQ.block_exit (VQ.then_code (VC.seq (VC.region (VO.mv (Rn.move rfl) rfl rfl rfl ?_)))))))
  refine VO.mv (Rn.assign rfl) rfl rfl rfl (VO.mv (Rn.assign rfl) rfl rfl rfl (VO.nil (VQ.then_code (VC.ret (VQ.ret2 rfl rfl rfl (Ret.mk ?_))))))
  have e0 : cntS (b.steps.drop i) = 0 := by rw [List.drop_of_length_le (by omega)]; rfl
  exact ⟨by rw [show sm = cntS b.steps by omega], CH_3⟩
end Go.Tm
