/- Lemmas of this claim, joined by program. Walks of functions: every length has a plan; a length out of range has none. What a row's laid variables give the walks, PlanLengths. Conditions: each lemma names its own. -/
import Derived.Test.YtkinecckopionaaGreatDoorB16
import Derived.Test.YtkinecckopionaaGreatDoorB17
import Derived.Test.YtkinecckopionaaGreatDoorRows
import Derived.ProofKit
import Derived.LaidMore
import Derived.LaidSub
import Derived.OpenShut
import Derived.Stop.Joined
import Derived.Stop.LaidErr
import Derived.Lib.LaidTab
import Derived.Deep.Slices
import Derived.Deep.Fields
import Derived.Deep.OwnRows
import Derived.WideKeyArgs
import Derived.ChangeSlices
set_option linter.all false
namespace Go.Tm
open Go.RowKit Go.Proofs
theorem foldl_ln {F : Bld → Nat → Bld} (hF : ∀ b j, (F b j).ln = b.ln) (l : List Nat) : ∀ b, (l.foldl F b).ln = b.ln := by
  induction l with
  | nil => exact fun b => rfl
  | cons j t ih => exact fun b => (ih _).trans (hF b j)
theorem adds_ln (b : Bld) (l : List Stp) : (b.adds l).ln = b.ln := by
  induction l generalizing b with
  | nil => rfl
  | cons s t ih => exact (ih (b.add s)).trans (add_ln b s)
theorem deepM_ln {o : Ord} (h : GO o) : ∀ x b, (deepM o x b).ln = b.ln := by
  have D : ∀ {o : Ord}, (∀ x b, b.full = false → (deepM o x b).ln = b.ln) → ∀ x b, (deepM o x b).ln = b.ln := fun {o} h x b => by
    by_cases hf : b.full = true
    · rw [deepM_full hf]
    · exact h x b (by simpa using hf)
  induction h with
  | direct h1 h2 => exact D fun x b hf => by rw [deepM_direct hf rfl]; exact add_ln _ _
  | fly h1 h2 => exact D fun x b hf => by rw [deepM_fly hf rfl]; exact (add_ln _ _).trans (add_ln _ _)
  | @times a e ga ge h1 h2 h3 ia ie =>
    refine D fun x b hf => ?_
    rw [deepM_times hf rfl rfl]
    have hJ : ∀ t (b : Bld) (j : Nat), (timesJ (deepM e) x a.len e.len t b j).ln = b.ln := fun t b j => by
      unfold timesJ; simp only
      split
      · exact (add_ln _ _).trans (ie _ _)
      · exact ie _ _
    unfold timesM
    split
    · exact (add_ln _ _).trans (foldl_ln (fun b j => hJ _ b j) _ _)
    · simp only
      refine (foldl_ln (fun b k => ?_) _ _).trans ((foldl_ln (fun b j => hJ _ b j) _ _).trans rfl)
      unfold timesK
      exact (add_ln _ _).trans (ia _ _)
  | @blue n a h1 h2 ga h3 ia =>
    refine D fun x b hf => ?_
    rw [deepM_blue hf rfl rfl]
    unfold blueM
    simp only
    rw [adds_ln, ia, adds_ln, ia, add_ln, ia, adds_ln]
    rfl
theorem buildM_ln {o : Ord} (h : GO o) : (buildM o).ln = o.len := (deepM_ln h _ _).trans rfl
/-- The error of lengths stands. -/
structure ErrL (E : Addr) (w : World) : Prop where
  get : w.cell? ⟨0, 0, none⟩ = some (.iface 231 (.pointer (some E)))
theorem ErrL.lt {E : Addr} {w : World} (h : ErrL E w) : 0 < w.heap.size := World.block_lt_of_cell? w _ h.get
theorem ErrL.to {D : Nat → Prop} {E : Addr} {w w' : World} (h : ErrL E w) (c : Ch D w w') (hd : ∀ q, q < w.heap.size → q = 0 → q = q → ¬ D q) : ErrL E w' := ⟨c.cell (hd _ h.lt rfl rfl) h.get⟩
theorem ErrL.keep {E : Addr} {w w' : World} (h : ErrL E w) (c : Ch No w w') : ErrL E w' := ⟨c.cell (fun h => h) h.get⟩
set_option maxRecDepth 100000 in
theorem Rn.errT {n : Fr} {k : K} {w : World} {d : Option Nat} {ty : TypeId} {pos : String} {aft : Array Edge} {gd : Option (Nat × Bool)} {t' : TypeId} {x y : Operand} {E : Addr} (hx : ev k x = some (.iface 231 (.pointer (some E)))) (hy : ev k y = some (.iface 231 (.pointer (some E)))) :
    Rn Tryz.prog n k w { dst := d, op := .binOp .eql 25 x y t', type := ty, pos := pos, after := aft, guard := gd } (.bool true) := by
  refine Rn.bin hx hy (fun x y => ?_)
  have := run_eql_iface_ptr_same (P := Tryz.prog) w (ti := 25) (tp := 231) E Tryz.underlying25 Tryz.underlying231 Tryz.type231 (by kernel_rfl) Tryz.type248
  simp [eqGuard_at_iface, this]

theorem build38w50 {ps : List (Nat × Value)} {cs : Array Value} (h : Instr.fill (fun i => ([(0, 1), (1, 1), (2, 1)] : List (Nat × Nat))[i]?) #[.int .i64 0, .int .i64 0, .slice none 0 0] ps = some cs) (w : World) : (Instr.build 38 ps.toArray).run Tryz.prog w = .ok (.agg cs) w := by
  simp [Instr.build, Tryz.runUnderlying38, Tryz.zeroValue38, Tryz.sizeOf3, Tryz.sizeOf36, Value.cells, h]
set_option maxRecDepth 100000 in
theorem choose_bad (E : Addr) (n : Int) (hb : n < 1 ∨ 4096 < n) (FA : Option Addr) (fc : Nat) (w : World) (er : ErrL E w) :
    Calls Tryz.prog 19 #[.int .i64 n, .agg #[.int .i64 16, .slice FA 4 fc, .int .i64 13]] w (Ret (fun v w' => v = .tuple #[.agg #[.int .i64 0, .int .i64 0, .slice none 0 0], .iface 231 (.pointer (some E))] ∧ Ch No w w')) := by
  have hG := er.lt
  refine calls_of_VC (args := [.int .i64 n, .agg #[.int .i64 16, .slice FA 4 fc, .int .i64 13]]) Tryz.func19 rfl Tryz.ntmps19 rfl (VC.seq (VC.region (VO.wk (Wk.box rfl) rfl rfl rfl ?_)))
  rintro _ w1 ⟨p1, rfl, N1⟩
  have c1 := N1.ch
  have e1 := N1.p; have z1 := N1.size
  have b3 := Bk.new N1
  refine VO.wk (Wk.alloc Tryz.zeroValue38) rfl rfl rfl ?_
  rintro _ w2 ⟨p2, rfl, N2⟩
  have c2 := N2.ch
  have e2 := N2.p; have z2 := N2.size
  have b4 := Bk.new N2
  refine VO.mv (Rn.assign rfl) rfl rfl rfl (VO.nil (VQ.then_code (VC.seq (VC.seq (VC.region (VO.mv (Rn.move rfl) rfl rfl rfl (VO.mv (Rn.lss rfl rfl) rfl rfl rfl ?_)))))))
  refine VO.mv (Rn.move rfl) rfl rfl rfl ?_
  refine VO.orJoin (b := _) 3 8 11 rfl (fun hc1 Jhc1 => by
      refine VO.skip rfl rfl rfl (VO.skip rfl rfl rfl (VO.mv (Rn.pick_true rfl rfl) rfl rfl rfl ?_))
      exact (VO.fg rfl (VO.fg rfl Jhc1))) (fun hc1 Jhc1 => by
      try simp only [Bool.and_eq_true, Bool.or_eq_true, Bool.not_eq_true', Bool.not_eq_false', Bool.and_eq_false_iff, Bool.or_eq_false_iff, decide_eq_true_eq, decide_eq_false_iff_not] at hc1
      refine VO.mv (Rn.move rfl) rfl rfl rfl (VO.mv (Rn.gtr rfl rfl) rfl rfl rfl (VO.mv (Rn.pick_false rfl rfl) rfl rfl rfl ?_))
      exact (VO.fg rfl (VO.fg rfl Jhc1))) ?_
  refine VO.nil (VQ.then_code (VC.cond rfl (fun hc2 => ?_) (fun hc2 => ?_)))
  · skip
    try simp only [Bool.and_eq_true, Bool.or_eq_true, Bool.not_eq_true', Bool.not_eq_false', Bool.and_eq_false_iff, Bool.or_eq_false_iff, decide_eq_true_eq, decide_eq_false_iff_not] at hc2
    refine VC.seq (VC.draws 3 [(0, true), (1, true), (2, false)] (fun w1 w' => Ch (Is p2) w1 w') mixed (by kernel_rfl) (fun _ _ => Ch.refl _ _) ?_)
    intro w3 D3
    have c3 := Ch.of_drew D3; have z3 := c3.size
    have er_3 := er.keep (c1.trans (c2.trans c3))
    have b3_3 := b3.keep (c2.trans c3)
    have b4_3 := b4.keep c3
    refine VH.mv (fun w' hS => Rn.build rfl (build38w50 rfl)) rfl rfl rfl rfl ?_
    refine VH.mv (fun w' hS => Rn.load Tryz.isAgg25 rfl (er_3.to hS (by first | exact fun _ _ _ _ => id | (intro q h1 h2 hx h3; omega))).get) rfl rfl rfl rfl ?_
    refine VH.wk0 (Wk.puts Tryz.sizeOf38 rfl rfl rfl rfl b4_3 (Nat.le_of_ble_eq_true rfl)) rfl rfl rfl ?_
    intro _ w4 Z4
    have c4 := Z4.ch; have z4 := Z4.size
    have b4_4 := Bk.put Z4
    have RD_4 : Ch (Is p2) w3 w4 := (Ch.refl (Is p2) w3).then c4 (by intro q h1 h2; rcases h2 with h2 | h2 <;> first | exact h2 | (exfalso; omega) | omega)
    refine ⟨RD_4, ?_⟩
    refine VH.done (VO.mv (Rn.assign rfl) rfl rfl rfl (VO.nil (VQ.noPanic (VQ.then_code (VC.ret (VQ.then_ret (VQ.retct rfl rfl Tryz.isAgg38 Tryz.sizeOf38 rfl (b4_4.all' rfl) rfl ?_)))))))
    refine Ret.mk ?_
    have cc_0_4 : Ch No w w4 := (Ch.then (E := No) ((c1.and c2).and c3) c4 (by intro q h1 h2; rcases h2 with h2 | h2 <;> first | exact h2 | (exfalso; omega)))
    have CH_4 := (Ch.refl (No) w).and cc_0_4
    exact ⟨rfl, CH_4⟩
  · skip
    try simp only [Bool.and_eq_true, Bool.or_eq_true, Bool.not_eq_true', Bool.not_eq_false', Bool.and_eq_false_iff, Bool.or_eq_false_iff, decide_eq_true_eq, decide_eq_false_iff_not] at hc2
    omega

set_option maxRecDepth 100000 in
theorem with_bad (E : Addr) (n : Int) (hb : n < 1 ∨ 4096 < n) (FA : Option Addr) (fc : Nat) (w : World) (er : ErrL E w) :
    Calls Tryz.prog 12 #[.int .i64 n, .agg #[.int .i64 16, .slice FA 4 fc, .int .i64 13], .int .i64 0] w (Ret (fun v w' => v = .tuple #[.pointer none, .iface 231 (.pointer (some E))] ∧ Ch No w w')) := by
  refine calls_of_VC (args := [.int .i64 n, .agg #[.int .i64 16, .slice FA 4 fc, .int .i64 13], .int .i64 0]) Tryz.func12 rfl Tryz.ntmps12 rfl (VC.seq (VC.region (VO.wk (Wk.box rfl) rfl rfl rfl ?_)))
  rintro _ w1 ⟨p1, rfl, N1⟩
  have c1 := N1.ch
  have e1 := N1.p; have z1 := N1.size
  have b4 := Bk.new N1
  refine VO.mv (Rn.assign rfl) rfl rfl rfl (VO.mv (Rn.assign rfl) rfl rfl rfl (VO.nil (VQ.then_code (VC.seq (VC.seq (VC.region (VO.mv (Rn.move rfl) rfl rfl rfl ?_)))))))
  refine VO.wk (Wk.call Tryz.call14 rfl (word_deep _)) rfl rfl rfl ?_
  rintro _ _ ⟨rfl, rfl⟩
  refine VO.mv (Rn.str_eql rfl rfl) rfl rfl rfl (VO.nil (VQ.then_code (VC.cond rfl (fun hc1 => ?_) (fun hc1 => ?_))))
  · skip
    try simp only [Bool.and_eq_true, Bool.or_eq_true, Bool.not_eq_true', Bool.not_eq_false', Bool.and_eq_false_iff, Bool.or_eq_false_iff, decide_eq_true_eq, decide_eq_false_iff_not] at hc1
    cases (hc1.symm.trans (show _ = false by kernel_rfl))
  · skip
    try simp only [Bool.and_eq_true, Bool.or_eq_true, Bool.not_eq_true', Bool.not_eq_false', Bool.and_eq_false_iff, Bool.or_eq_false_iff, decide_eq_true_eq, decide_eq_false_iff_not] at hc1
    refine VC.skip (VQ.then_code (VC.seq (VC.region (VO.mv (Rn.move rfl) rfl rfl rfl (VO.mv (Rn.loads Tryz.isAgg47 Tryz.sizeOf47 rfl rfl (b4.all' rfl)) rfl rfl rfl ?_)))))
    have er_1 := er.keep c1
    refine VO.wk (Wk.call Tryz.call19 rfl (choose_bad E n hb _ _ _ er_1)) rfl rfl rfl ?_
    rintro _ w2 ⟨rfl, c2⟩
    have z2 := c2.size
    refine VO.mv (Rn.move rfl) rfl rfl rfl (VO.mv (Rn.extract rfl rfl) rfl rfl rfl (VO.mv (Rn.extract rfl rfl) rfl rfl rfl (VO.wk (Wk.alloc Tryz.zeroValue38) rfl rfl rfl ?_)))
    rintro _ w3 ⟨p3, rfl, N3⟩
    have c3 := N3.ch
    have e3 := N3.p; have z3 := N3.size
    have b8 := Bk.new N3
    refine VO.wk0 (Wk.puts Tryz.sizeOf38 rfl rfl rfl rfl b8 (Nat.le_of_ble_eq_true rfl)) rfl rfl ?_
    intro _ w4 Z4
    have c4 := Z4.ch; have z4 := Z4.size
    have b8_4 := Bk.put Z4
    refine VO.mv (Rn.assign rfl) rfl rfl rfl (VO.nil (VQ.then_code (VC.seq (VC.seq (VC.region (VO.mv (Rn.move rfl) rfl rfl rfl (VO.mv (Rn.err_neq_nil Tryz.underlying25 rfl) rfl rfl rfl ?_)))))))
    refine VO.nil (VQ.then_code (VC.cond_true rfl (VC.seq (VC.region (VO.mv (Rn.move rfl) rfl rfl rfl (VO.mv (Rn.assign rfl) rfl rfl rfl (VO.mv (Rn.assign rfl) rfl rfl rfl ?_)))))))
    refine VO.nil (VQ.then_code (VC.ret (VQ.then_ret (VQ.ret2 rfl rfl rfl (Ret.mk ?_)))))
    have cc_0_4 : Ch No w w4 := (Ch.then (E := No) ((c1.and c2).and c3) c4 (by intro q h1 h2; rcases h2 with h2 | h2 <;> first | exact h2 | (exfalso; omega)))
    have CH_4 := (Ch.refl (No) w).and cc_0_4
    exact ⟨rfl, CH_4⟩

set_option maxRecDepth 100000 in
theorem new_bad (E : Addr) (n : Int) (hb : n < 1 ∨ 4096 < n) (w : World) (er : ErrL E w) :
    Calls Tryz.prog 6 #[.int .i64 n] w (Ret (fun v w' => v = .tuple #[.pointer none, .iface 231 (.pointer (some E))] ∧ Ch No w w')) := by
  refine calls_of_VC (args := [.int .i64 n]) Tryz.func6 rfl Tryz.ntmps6 rfl (VC.seq (VC.region (VO.mv (Rn.assign rfl) rfl rfl rfl (VO.mv (Rn.assign rfl) rfl rfl rfl (VO.nil (VQ.then_code (VC.seq ?_)))))))
  refine VC.region (VO.mv (Rn.move rfl) rfl rfl rfl (VO.wk (Wk.call Tryz.call13 rfl (planner_Usual _)) rfl rfl rfl ?_))
  rintro _ w1 ⟨FA, fc, rfl, sl, c1⟩
  have z1 := c1.size
  have er_1 := er.keep c1
  refine VO.wk (Wk.call Tryz.call12 rfl (with_bad E n hb _ _ _ er_1)) rfl rfl rfl ?_
  rintro _ w2 ⟨rfl, c2⟩
  have z2 := c2.size
  refine VO.mv (Rn.extract rfl rfl) rfl rfl rfl (VO.mv (Rn.extract rfl rfl) rfl rfl rfl (VO.mv (Rn.assign rfl) rfl rfl rfl (VO.mv (Rn.assign rfl) rfl rfl rfl (VO.nil (VQ.then_code (VC.ret (VQ.ret2 rfl rfl rfl ?_)))))))
  refine Ret.mk ?_
  have CH_2 := (Ch.refl (No) w).and (c1.trans c2)
  exact ⟨rfl, CH_2⟩

set_option maxRecDepth 100000 in
theorem law_PL_bad (E : Addr) (n : Int) (w : World) (st : StT w) (tab : TabB w.heap.size w) (hG : 11 ≤ w.heap.size) (hb : n < 1 ∨ 4096 < n) (er : ErrL E w) :
    Calls Tryz.prog 3 #[.int .i64 n] w (Ret (fun v w' => v = .bool true ∧ Ch No w w')) := by
  refine calls_of_VC (args := [.int .i64 n]) Tryz.func3 rfl Tryz.ntmps3 rfl (VC.seq (VC.region (VO.mv (Rn.assign rfl) rfl rfl rfl (VO.nil (VQ.then_code (VC.seq (VC.region ?_)))))))
  refine VO.wk (Wk.call Tryz.call5 rfl (law_alive _ st ((tab).up (by omega)) (by omega))) rfl rfl rfl ?_
  rintro _ w1 ⟨rfl, c1⟩
  have z1 := c1.size
  refine VO.mv (Rn.assign rfl) rfl rfl rfl (VO.nil (VQ.then_code (VC.seq (VC.seq (VC.region (VO.mv (Rn.move rfl) rfl rfl rfl (VO.mv (Rn.not rfl) rfl rfl rfl ?_)))))))
  refine VO.nil (VQ.then_code (VC.cond_false rfl (VC.skip (VQ.then_code (VC.seq (VC.region (VO.mv (Rn.move rfl) rfl rfl rfl ?_)))))))
  have er_1 := er.keep c1
  refine VO.wk (Wk.call Tryz.call6 rfl (new_bad E n hb _ er_1)) rfl rfl rfl ?_
  rintro _ w2 ⟨rfl, c2⟩
  have z2 := c2.size
  refine VO.mv (Rn.move rfl) rfl rfl rfl (VO.mv (Rn.extract rfl rfl) rfl rfl rfl (VO.mv (Rn.extract rfl rfl) rfl rfl rfl (VO.mv (Rn.assign rfl) rfl rfl rfl (VO.mv (Rn.assign rfl) rfl rfl rfl (VO.nil (VQ.then_code (VC.seq ?_)))))))
  refine VC.seq (VC.region (VO.mv (Rn.move rfl) rfl rfl rfl (VO.mv (Rn.lss rfl rfl) rfl rfl rfl (VO.mv (Rn.move rfl) rfl rfl rfl ?_))))
  refine VO.orJoin (b := _) 3 16 19 rfl (fun hc1 Jhc1 => by
      refine VO.skip rfl rfl rfl (VO.skip rfl rfl rfl (VO.mv (Rn.pick_true rfl rfl) rfl rfl rfl ?_))
      exact (VO.fg rfl (VO.fg rfl Jhc1))) (fun hc1 Jhc1 => by
      try simp only [Bool.and_eq_true, Bool.or_eq_true, Bool.not_eq_true', Bool.not_eq_false', Bool.and_eq_false_iff, Bool.or_eq_false_iff, decide_eq_true_eq, decide_eq_false_iff_not] at hc1
      refine VO.mv (Rn.move rfl) rfl rfl rfl (VO.mv (Rn.gtr rfl rfl) rfl rfl rfl (VO.mv (Rn.pick_false rfl rfl) rfl rfl rfl ?_))
      exact (VO.fg rfl (VO.fg rfl Jhc1))) ?_
  refine VO.nil (VQ.then_code (VC.cond rfl (fun hc2 => ?_) (fun hc2 => ?_)))
  · skip
    try simp only [Bool.and_eq_true, Bool.or_eq_true, Bool.not_eq_true', Bool.not_eq_false', Bool.and_eq_false_iff, Bool.or_eq_false_iff, decide_eq_true_eq, decide_eq_false_iff_not] at hc2
    refine VC.seq (VC.region (VO.mv (Rn.move rfl) rfl rfl rfl ?_))
    have er_2 := er_1.keep c2
    refine VO.mv (Rn.load Tryz.isAgg25 rfl er_2.get) rfl rfl rfl (VO.mv (Rn.errT rfl rfl) rfl rfl rfl (VO.mv (Rn.move rfl) rfl rfl rfl (VO.mv (Rn.move rfl) rfl rfl rfl (VO.mv (Rn.ptr_eql_nil Tryz.underlying23 rfl) rfl rfl rfl (VO.mv (Rn.pick_true rfl rfl) rfl rfl rfl (VO.mv (Rn.assign rfl) rfl rfl rfl (VO.nil ?_)))))))
    refine VQ.then_code (VC.ret (VQ.then_ret (VQ.ret1 rfl rfl (Ret.mk ?_))))
    have CH_2 := (Ch.refl (No) w).and (c1.trans c2)
    exact ⟨rfl, CH_2⟩
  · skip
    try simp only [Bool.and_eq_true, Bool.or_eq_true, Bool.not_eq_true', Bool.not_eq_false', Bool.and_eq_false_iff, Bool.or_eq_false_iff, decide_eq_true_eq, decide_eq_false_iff_not] at hc2
    omega

set_option maxRecDepth 100000 in
theorem law_PL_ok (n : Int) (w : World) (st : StT w) (tab : TabB w.heap.size w) (hG : 11 ≤ w.heap.size) (h1 : 1 ≤ n) (h2 : n ≤ 4096) :
    Calls Tryz.prog 3 #[.int .i64 n] w (Ret (fun v w' => v = .bool true ∧ Ch No w w')) := by
  refine calls_of_VC (args := [.int .i64 n]) Tryz.func3 rfl Tryz.ntmps3 rfl (VC.seq (VC.region (VO.mv (Rn.assign rfl) rfl rfl rfl (VO.nil (VQ.then_code (VC.seq (VC.region ?_)))))))
  refine VO.wk (Wk.call Tryz.call5 rfl (law_alive _ st ((tab).up (by omega)) (by omega))) rfl rfl rfl ?_
  rintro _ w1 ⟨rfl, c1⟩
  have z1 := c1.size
  refine VO.mv (Rn.assign rfl) rfl rfl rfl (VO.nil (VQ.then_code (VC.seq (VC.seq (VC.region (VO.mv (Rn.move rfl) rfl rfl rfl (VO.mv (Rn.not rfl) rfl rfl rfl ?_)))))))
  refine VO.nil (VQ.then_code (VC.cond_false rfl (VC.skip (VQ.then_code (VC.seq (VC.region (VO.mv (Rn.move rfl) rfl rfl rfl ?_)))))))
  have st_1 := st.keep c1
  have tab_1 := tab.keep c1
  refine VO.wk (Wk.call Tryz.call6 rfl (plan_New n (by omega) (by omega) (hasP_all h1 h2) _ st_1 ((tab_1).up (by omega)) (by omega))) rfl rfl rfl ?_
  rintro _ w2 ⟨p2, rr2, rfl, hr2, pl2, c2⟩
  have z2 := c2.size
  have hP := hasP_all h1 h2 _ hr2
  have hln : (plnM rr2.1).b.ln = n := (buildM_ln (GO.of_len (by rw [hP.1]; omega))).trans hP.1
  refine VO.mv (Rn.move rfl) rfl rfl rfl (VO.mv (Rn.extract rfl rfl) rfl rfl rfl (VO.mv (Rn.extract rfl rfl) rfl rfl rfl (VO.mv (Rn.assign rfl) rfl rfl rfl (VO.mv (Rn.assign rfl) rfl rfl rfl (VO.nil (VQ.then_code (VC.seq ?_)))))))
  refine VC.seq (VC.region (VO.mv (Rn.move rfl) rfl rfl rfl (VO.mv (Rn.lss rfl rfl) rfl rfl rfl (VO.mv (Rn.move rfl) rfl rfl rfl ?_))))
  refine VO.orJoin (b := _) 3 16 19 rfl (fun hc1 Jhc1 => by
      refine VO.skip rfl rfl rfl (VO.skip rfl rfl rfl (VO.mv (Rn.pick_true rfl rfl) rfl rfl rfl ?_))
      exact (VO.fg rfl (VO.fg rfl Jhc1))) (fun hc1 Jhc1 => by
      try simp only [Bool.and_eq_true, Bool.or_eq_true, Bool.not_eq_true', Bool.not_eq_false', Bool.and_eq_false_iff, Bool.or_eq_false_iff, decide_eq_true_eq, decide_eq_false_iff_not] at hc1
      refine VO.mv (Rn.move rfl) rfl rfl rfl (VO.mv (Rn.gtr rfl rfl) rfl rfl rfl (VO.mv (Rn.pick_false rfl rfl) rfl rfl rfl ?_))
      exact (VO.fg rfl (VO.fg rfl Jhc1))) ?_
  refine VO.nil (VQ.then_code (VC.cond rfl (fun hc2 => ?_) (fun hc2 => ?_)))
  · skip
    try simp only [Bool.and_eq_true, Bool.or_eq_true, Bool.not_eq_true', Bool.not_eq_false', Bool.and_eq_false_iff, Bool.or_eq_false_iff, decide_eq_true_eq, decide_eq_false_iff_not] at hc2
    omega
  · skip
    try simp only [Bool.and_eq_true, Bool.or_eq_true, Bool.not_eq_true', Bool.not_eq_false', Bool.and_eq_false_iff, Bool.or_eq_false_iff, decide_eq_true_eq, decide_eq_false_iff_not] at hc2
    refine VC.skip (VQ.then_code (VC.seq (VC.region (VO.mv (Rn.move rfl) rfl rfl rfl (VO.mv (Rn.nil_eql_nil Tryz.underlying25 rfl) rfl rfl rfl (VO.mv (Rn.move rfl) rfl rfl rfl (VO.mv (Rn.move rfl) rfl rfl rfl ?_)))))))
    refine VO.mv (Rn.ptr_neq_nil Tryz.underlying23 rfl) rfl rfl rfl (VO.mv (Rn.pick_true rfl rfl) rfl rfl rfl (VO.mv (Rn.move rfl) rfl rfl rfl (VO.mv (Rn.move rfl) rfl rfl rfl (VO.wk (Wk.call Tryz.call7 rfl (p_Length _ _ _ _ _ pl2 (by omega))) rfl rfl rfl ?_))))
    rintro _ _ ⟨rfl, rfl⟩
    refine VO.mv (Rn.move rfl) rfl rfl rfl (VO.mv (Rn.eqlT rfl rfl hln) rfl rfl rfl (VO.mv (Rn.pick_true rfl rfl) rfl rfl rfl (VO.mv (Rn.assign rfl) rfl rfl rfl (VO.nil (VQ.then_code (VC.ret (VQ.ret1 rfl rfl ?_)))))))
    refine Ret.mk ?_
    have CH_2 := (Ch.refl (No) w).and (c1.trans c2)
    exact ⟨rfl, CH_2⟩

end Go.Tm
namespace Go.Tm
open Go.RowKit Go.Proofs Go.ChangeShapes Go.WideShapes Go.Deep
open Go.Proofs.YtkinecckopionaaGreatDoor
theorem laidVars_at {P : Program} {w : World} : ∀ {l : List (String × DataW Unit)} {ps : List MemPlace} (i : Nat) {x : String × DataW Unit}, DataW.LaidVars P w l ps → l[i]? = some x → ∃ ps', DataW.LaidVars P w [x] ps' ∧ ps'.Sublist ps
  | [], _, _, _, _, h => by simp at h
  | (n, d) :: r, ps, 0, x, h, hi => by
    obtain ⟨g, t, cs, fuel, p, q, e1, e2, e3, e4, hr, rfl⟩ := h
    simp only [List.getElem?_cons_zero, Option.some.injEq] at hi
    subst hi
    exact ⟨_, ⟨g, t, cs, fuel, p, [], e1, e2, e3, e4, rfl, rfl⟩, by rw [List.append_nil]; exact List.sublist_append_left _ _⟩
  | (n, d) :: r, ps, i + 1, x, h, hi => by
    obtain ⟨g, t, cs, fuel, p, q, e1, e2, e3, e4, hr, rfl⟩ := h
    obtain ⟨ps', h1, h2⟩ := laidVars_at i hr (by simpa using hi)
    exact ⟨ps', h1, h2.trans (List.sublist_append_right _ _)⟩
theorem _root_.Go.laidMet.at {P : Program} {w : World} {l : List (String × DataW Unit)} {x : String × DataW Unit} (h : laidMet P l w) (i : Nat) (hi : l[i]? = some x) : laidMet P [x] w := by
  obtain ⟨ps, hl, hnd, hrows⟩ := h
  obtain ⟨ps', h1, h2⟩ := laidVars_at i hl hi
  exact ⟨ps', h1, h2.nodup hnd, fun b off hp => hrows b off (h2.subset hp)⟩
noncomputable abbrev laidL : List (String × DataW Unit) := Rows.planLengthsRow.laid
theorem gn_of {W : World} (h : laidMet Tryz.prog laidL W) : 11 ≤ W.heap.size := by
  obtain ⟨ps, ⟨g0, t0, cs0, f0, p0, q0, hg0, ht0, hv0, hd0, _, e0⟩, _, hrows⟩ := h.at 1 rfl
  have hg : Tryz.prog.globalNamed "math/bits.deBruijn64tab" = some 10 := by kernel_rfl
  obtain rfl := Option.some.inj (hg.symm.trans hg0)
  unfold World.var? at hv0
  rw [hg] at hv0
  simp only [Option.bind_some] at hv0
  split at hv0
  · rename_i hx
    have := blk_lt hx
    omega
  · cases hv0
theorem tab_of {W : World} (h : laidMet Tryz.prog laidL W) (hgn : 11 ≤ W.heap.size) : TabB W.heap.size W := by
  have hg : Tryz.prog.globalNamed "internal/strconv.uint64pow10" = some 8 := by kernel_rfl
  refine ⟨Lib.tabIs_of_head hg (by kernel_rfl) Tryz.underlying192 Tryz.underlying137 (by kernel_rfl) (by kernel_rfl) (h.at 2 (by kernel_rfl)), fun g e => ?_⟩
  obtain rfl := Option.some.inj (hg.symm.trans e)
  omega
section
variable {H : Type} {enc : TypeId × Value → H} {P : Program} {w : World} {base : Nat} {spare : Nat → Bool} {held : Bool}
theorem struct_cells {e : TypeId} {fs : Array Field} {fuel : Nat} {cs : List Value} {x : DataW H × List MemPlace} (he : P.underlying e = some (.struct fs))
    (hone : oneCellFields P fs = true) (hC : P.cellsOf e = fs.size) (h : DataW.trod enc P w base spare held fuel e cs = some x) :
    ∃ (ys : List (DataW H × List MemPlace)) (n : Nat), x.1 = .agg (ys.map (·.1)) ∧ cs.length = fs.size ∧ ∀ (j : Nat) (f : Field), fs[j]? = some f → ∃ (v : Value) (y : DataW H × List MemPlace), cs[j]? = some v ∧ ys[j]? = some y ∧ DataW.trod enc P w base spare held n f.type [v] = some y := by
  obtain ⟨ys, n', hn', hy, hlen, hyl, hf⟩ := DataW.trod_struct he h
  rw [hC] at hlen
  refine ⟨ys, n', by rw [hy], hlen, fun j f hj => ?_⟩
  obtain ⟨ho, hk⟩ := hone_of hone j f hj
  have hjl : j < fs.size := (Array.getElem?_eq_some_iff.1 hj).1
  have hv : cs[j]? = some (cs[j]'(by omega)) := List.getElem?_eq_getElem (by omega)
  have h1 := hf j f hj
  rw [ho, hk] at h1
  have hone' : (cs.drop j).take 1 = [cs[j]'(by omega)] := by
    rw [List.drop_eq_getElem_cons (by omega)]
    rfl
  rw [hone'] at h1
  have hys : ys[j]? = some (ys[j]'(by omega)) := List.getElem?_eq_getElem (by omega)
  exact ⟨_, _, hv, hys, h1.trans hys⟩
end
def stL : List (List UInt8 × Bool × Bool × Int × Bool) := [([], false, false, 0, false), ([103, 97, 116, 104, 101, 114], true, true, 0, false), ([115, 99, 97, 116, 116, 101, 114], true, true, 0, false), ([122, 101, 114, 111], false, false, 0, false), ([116, 119, 105, 115, 116], false, false, 16384, true), ([102, 108, 121], false, true, 5, false), ([100, 105, 114, 101, 99, 116], true, true, 64, false), ([99, 104, 105, 114, 112], false, false, 16384, false), ([102, 105, 108, 108], false, false, 16384, false), ([116, 105, 109, 101, 115], true, false, 0, false), ([99, 111, 110, 106], false, false, 0, false), ([111, 118, 101, 114], false, false, 16384, false)]
def stD : List (DataW Unit) := stL.map fun e => .agg [.lit (.string e.1), .lit (.bool e.2.1), .lit (.bool e.2.2.1), .lit (.int .i64 e.2.2.2.1), .lit (.bool e.2.2.2.2)]
def stK (i : Fin 12) : Bool := match stL[i.1]? with
  | some e => e.2.1 == kSrc i.1 && e.2.2.1 == kJmp i.1 && e.2.2.2.1 == kN i.1 && e.2.2.2.2 == kK i.1
  | none => false
theorem stK_spec {i : Nat} (hi : i < 12) (h : stK ⟨i, hi⟩ = true) : ∃ t, stD[i]? = some (.agg [.lit (.string t), .lit (.bool (kSrc i)), .lit (.bool (kJmp i)), .lit (.int .i64 (kN i)), .lit (.bool (kK i))]) := by
  unfold stK at h
  split at h
  · rename_i e he
    simp only [Bool.and_eq_true, beq_iff_eq] at h
    obtain ⟨⟨⟨h1, h2⟩, h3⟩, h4⟩ := h
    exact ⟨e.1, by rw [stD, List.getElem?_map, he, ← h1, ← h2, ← h3, ← h4]; rfl⟩
  · cases h
theorem add_glob (g k : Nat) : (⟨g, 0, none⟩ : Addr).add k = ⟨g, k, none⟩ := by
  by_cases hk : k = 0
  · subst hk; rfl
  · simp [Addr.add, hk]
theorem st_of {W : World} (h : laidMet Tryz.prog laidL W) : StT W := by
  obtain ⟨ps, ⟨g0, t0, cs0, f0, p0, q0, hg0, ht0, hv0, hd0, _, e0⟩, _, _⟩ := h.at 10 rfl
  obtain rfl := Option.some.inj ((show Tryz.prog.globalNamed "timbre/steps.table" = some 7 by kernel_rfl).symm.trans hg0)
  obtain rfl := Option.some.inj ((show (Tryz.prog.globals[7]?).map (·.type) = some 182 by kernel_rfl).symm.trans ht0)
  obtain ⟨xs, m1, rfl, hx1, hlen, hn12, hel⟩ := DataW.trod_array Tryz.underlying182 hd0
  have hxs := congrArg Prod.fst hx1
  have ck : Tryz.prog.cellsOf 181 = 5 := by kernel_rfl
  have c9 : Tryz.prog.cellsOf 9 = 1 := by kernel_rfl
  have c4 : Tryz.prog.cellsOf 4 = 1 := by kernel_rfl
  have c3 : Tryz.prog.cellsOf 3 = 1 := by kernel_rfl
  have key : ∀ (i : Nat) (t : List UInt8) (a b : Bool) (n : Int) (k : Bool), (xs.map (·.1))[i]? = some (.agg [.lit (.string t), .lit (.bool a), .lit (.bool b), .lit (.int .i64 n), .lit (.bool k)]) →
      ∃ s : ByteArray, CaR (· < 11) W ((⟨7, 0, none⟩ : Addr).add (i * 5)) [.string s, .bool a, .bool b, .int .i64 n, .bool k] := by
    intro i t a b n k hi
    rw [List.getElem?_map, Option.map_eq_some_iff] at hi
    obtain ⟨x, hx, hxd⟩ := hi
    have hi12 : i < 12 := by have := (List.getElem?_eq_some_iff.1 hx).1; omega
    have h1 := hel i hi12
    rw [hx, ck] at h1
    obtain ⟨ys, n', hy, hcl, hf⟩ := struct_cells Tryz.underlying181 (by kernel_rfl) (by kernel_rfl) h1
    obtain ⟨v0, y0, g0, k0, f0⟩ := hf 0 _ rfl
    obtain ⟨v1, y1, g1, k1, f1⟩ := hf 1 _ rfl
    obtain ⟨v2, y2, g2, k2, f2⟩ := hf 2 _ rfl
    obtain ⟨v3, y3, g3, k3, f3⟩ := hf 3 _ rfl
    obtain ⟨v4, y4, g4, k4, f4⟩ := hf 4 _ rfl
    obtain ⟨s, e0', e0'', _⟩ := DataW.trod_string Tryz.underlying9 f0
    obtain ⟨b1, e1', e1''⟩ := DataW.trod_bool Tryz.underlying4 f1
    obtain ⟨b2, e2', e2''⟩ := DataW.trod_bool Tryz.underlying4 f2
    obtain ⟨z3, e3', e3'', _⟩ := DataW.trod_int Tryz.underlying3 f3
    obtain ⟨b4, e4', e4''⟩ := DataW.trod_bool Tryz.underlying4 f4
    rw [hy] at hxd
    simp only [DataW.agg.injEq] at hxd
    subst e0'' e1'' e2'' e3'' e4''
    have q1 := congrArg (fun l => l[1]?) hxd; have q2 := congrArg (fun l => l[2]?) hxd; have q3 := congrArg (fun l => l[3]?) hxd; have q4 := congrArg (fun l => l[4]?) hxd
    simp only [List.getElem?_map, k1, k2, k3, k4, Option.map_some, List.getElem?_cons_succ, List.getElem?_cons_zero, Option.some.injEq, DataW.lit.injEq, Lit.bool.injEq, Lit.int.injEq, true_and] at q1 q2 q3 q4
    subst q1 q2 q3 q4
    simp only [List.cons.injEq, and_true] at e0' e1' e2' e3' e4'
    subst e0' e1' e2' e3' e4'
    have cell : ∀ j v, j < 5 → ((cs0.toList.drop (i * 5)).take 5)[j]? = some v → W.cell? (((⟨7, 0, none⟩ : Addr).add (i * 5)).add j) = some v := by
      intro j v hj5 hj
      rw [List.getElem?_take, if_pos hj5, List.getElem?_drop, Array.getElem?_toList] at hj
      have := World.var?_cell hg0 hv0 (i * 5 + j)
      rw [hj] at this
      rw [← this, Go.Deep.add_add, add_glob]
    refine ⟨s, fun j v hj => ?_, by rw [add_block]; decide⟩
    match j, hj with
    | 0, hj => obtain rfl := Option.some.inj hj; exact cell 0 _ (by decide) g0
    | 1, hj => obtain rfl := Option.some.inj hj; exact cell 1 _ (by decide) g1
    | 2, hj => obtain rfl := Option.some.inj hj; exact cell 2 _ (by decide) g2
    | 3, hj => obtain rfl := Option.some.inj hj; exact cell 3 _ (by decide) g3
    | 4, hj => obtain rfl := Option.some.inj hj; exact cell 4 _ (by decide) g4
    | j + 5, hj => simp at hj
  have hD : xs.map (·.1) = stD := by
    simp only [DataW.agg.injEq, Rows.laid_timbre_steps_table] at hxs
    exact hxs.symm
  rw [hD] at key
  have all : ∀ i, ∃ s : ByteArray, i < 12 → CaR (· < 11) W ((⟨7, 0, none⟩ : Addr).add (i * 5)) [.string s, .bool (kSrc i), .bool (kJmp i), .int .i64 (kN i), .bool (kK i)] := by
    intro i
    by_cases hi : i < 12
    · have h2 := (by decide : ∀ i : Fin 12, stK i = true) ⟨i, hi⟩
      obtain ⟨t, ht⟩ := stK_spec hi h2
      obtain ⟨s, hs⟩ := key i _ _ _ _ _ ht
      exact ⟨s, fun _ => hs⟩
    · exact ⟨⟨#[]⟩, fun h => absurd h hi⟩
  obtain ⟨nm, hnm⟩ := Classical.axiomOfChoice all
  exact ⟨nm, hnm⟩
theorem lowStar : "*" ++ "errors.errorString" = "*errors.errorString" := by decide
theorem rowErr (u : TypeId) (h : Tryz.prog.typeName? 3 u = some "*errors.errorString") : u = 231 :=
  typeName_ptr_named (nm := "errors.errorString") (by rw [lowStar]; kernel_rfl) (by kernel_rfl) (by decide) u (by rw [lowStar]; exact h)
set_option maxRecDepth 100000 in
theorem errL_of {W : World} (h0 : laidMet Tryz.prog laidL W) : ∃ E, ErrL E W := by
  have h := h0.at 4 rfl
  obtain ⟨ps, ⟨g0, t0, cs0, f0, p0, q0, hg0, ht0, hv0, hd0, _, e0⟩, _, hrows⟩ := h
  obtain rfl := Option.some.inj ((show Tryz.prog.globalNamed "timbre/api.ErrLength" = some 0 by kernel_rfl).symm.trans hg0)
  obtain rfl := Option.some.inj ((show (Tryz.prog.globals[0]?).map (·.type) = some 25 by kernel_rfl).symm.trans ht0)
  subst e0
  obtain ⟨l0⟩ := cs0
  have ok0 : ∀ u v, l0 = [.iface u v] → Value.okWide Tryz.prog W .any 0 u v := fun u v e => by
    subst e
    exact (hrows 0 0 (by simp [MemPlace.row])).2 u v (by simpa using World.var?_cell hg0 hv0 0)
  obtain ⟨a0, s0, rfl, hc0, hs0, hz0, hp0⟩ := errorString_of_trod Tryz.underlying25 rowErr Tryz.underlying231 Tryz.underlying248 rfl rfl Tryz.underlying9 (by kernel_rfl) (by kernel_rfl) hd0 ok0
  exact ⟨a0, ⟨by simpa using World.var?_cell hg0 hv0 0⟩⟩



end Go.Tm
