/- Lemmas of this claim, joined by program. Walks of functions: Full, Two; the law's own answer; lists held against each other. Walks of functions: the law HalfWhole. The law HalfWhole walks. Conditions: each lemma names its own. -/
import Derived.Test.YtdgiiehbbmfgoaaGreatDoorB16
set_option linter.all false
namespace Go.Tm
open Go.RowKit Go.Proofs
abbrev uI (al : List Int) : Nat → Int := fun j => al.getD j 0
theorem uI_bd {al : List Int} (h : ∀ z ∈ al, -1099511627776 ≤ z ∧ z ≤ 1099511627776) : U40 (uI al) := fun j => by
  simp only [List.getD]
  cases hi : al[j]? with
  | none => simp
  | some x => simpa using h x (List.mem_of_getElem? hi)
theorem U40.no0 {us : Nat → Int} (h : U40 us) (j : Nat) : (-1099511627776 ≤ us j ∧ us j ≤ 1099511627776) ∧ -1099511627776 ≤ no0 j ∧ no0 j ≤ 1099511627776 := ⟨h j, by simp, by simp⟩
theorem ceq_of {x y : CB} {n k : Nat} {us : Nat → Int} (hu : U40 us) (hn : n ≤ 4) (hx : WhC (cx x) (uvL n k us Go.Tm.no0 n).1 (uvL n k us Go.Tm.no0 n).2) (hy : WhC (cx y) (uvL n k us Go.Tm.no0 n).1 (uvL n k us Go.Tm.no0 n).2) : ceq x y = true := by
  have b := uv_bd (n := n) (k := k) hu.no0 n hn
  exact ceq_true hx hy (sm_of (by omega) (by omega)) (sm_of (by omega) (by omega))
theorem twE {za zb c9 z : CB} {a b : Int} (h : WhC (evenC (cx za) (conjC (cx zb))) a b) (F9 : cx c9 = conjC (cx zb)) (F : cx z = evenC (cx za) (cx c9)) : WhC (cx z) a b := by rw [F, F9]; exact h
theorem twM {za zb c9 c10 c11 z : CB} {a b : Int} (h : WhC (moddC (cx za) (conjC (cx zb))) a b) (F9 : cx c9 = conjC (cx zb)) (F10 : cx c10 = (fop .sub (cn za.1) (cn c9.1), fop .sub (cn za.2) (cn c9.2))) (F11 : cx c11 = minusI (cx c10)) (F : cx z = timesR (cx c11)) : WhC (cx z) a b := by
  have e2 : (fop .sub (cn za.1) (cn c9.1), fop .sub (cn za.2) (cn c9.2)) = lessC (cx za) (cx c9) := rfl
  rw [F, F11, F10, e2, F9]; exact h
set_option maxRecDepth 100000 in
theorem inf53w58 : Inf Tryz.prog 53 (.complex .f64 0 0) 1 16 := ⟨Tryz.t53, Tryz.type53, rfl, rfl, rfl⟩
set_option maxHeartbeats 1000000 in
set_option maxRecDepth 100000 in
theorem half_Full1 (SX : Nat → Prop) (X : Option Addr) (xc : Nat) (us : Nat → Int) (zs : List CB) (w : World) (sx : SlR SX w X 1 1 (zs.map cxV)) (hX : ∀ q, SX q → q < w.heap.size) (hu : U40 us) (hf : HalfOk 1 us zs) :
    Calls Tryz.prog 22 #[.slice X 1 xc] w (Ret (fun v w' => ∃ r A k os, v = .tuple #[.slice A 1 k, .nilIface] ∧ CR 53 w' r A 1 k os ∧ CxsOk 1 us os ∧ w.heap.size < r ∧ Ch No w w')) := by
  refine calls_of_VC (args := [.slice X 1 xc]) Tryz.func22 rfl Tryz.ntmps22 rfl (VC.seq (VC.region (VO.mv (Rn.assign rfl) rfl rfl rfl (VO.mv (Rn.assign rfl) rfl rfl rfl (VO.nil (VQ.then_code (VC.seq ?_)))))))
  refine VC.region (VO.mv (Rn.move rfl) rfl rfl rfl (VO.mv (Rn.len Tryz.underlying39 rfl) rfl rfl rfl ?_))
  refine VO.mv (Rn.sub rfl rfl (by rw [IntKind.wrap_i64]; omega)) rfl rfl rfl ?_
  refine VO.mv (Rn.assign rfl) rfl rfl rfl (VO.nil (VQ.then_code (VC.seq (VC.seq (VC.region (VO.mv (Rn.move rfl) rfl rfl rfl (VO.mv (Rn.lss rfl rfl) rfl rfl rfl ?_)))))))
  refine VO.mv (Rn.move rfl) rfl rfl rfl ?_
  refine VO.orJoin (b := _) 3 12 15 rfl (fun hc1 Jhc1 => by
      refine VO.skip rfl rfl rfl (VO.skip rfl rfl rfl (VO.mv (Rn.pick_true rfl rfl) rfl rfl rfl ?_))
      exact (VO.fg rfl (VO.fg rfl Jhc1))) (fun hc1 Jhc1 => by
      try simp only [Bool.and_eq_true, Bool.or_eq_true, Bool.not_eq_true', Bool.not_eq_false', Bool.and_eq_false_iff, Bool.or_eq_false_iff, decide_eq_true_eq, decide_eq_false_iff_not] at hc1
      refine VO.mv (Rn.move rfl) rfl rfl rfl (VO.mv (Rn.gtr rfl rfl) rfl rfl rfl (VO.mv (Rn.pick_false rfl rfl) rfl rfl rfl ?_))
      exact (VO.fg rfl (VO.fg rfl Jhc1))) ?_
  refine VO.nil (VQ.then_code (VC.cond rfl (fun hc2 => ?_) (fun hc2 => ?_)))
  · skip
    try simp only [Bool.and_eq_true, Bool.or_eq_true, Bool.not_eq_true', Bool.not_eq_false', Bool.and_eq_false_iff, Bool.or_eq_false_iff, decide_eq_true_eq, decide_eq_false_iff_not] at hc2
    omega
  · skip
    try simp only [Bool.and_eq_true, Bool.or_eq_true, Bool.not_eq_true', Bool.not_eq_false', Bool.and_eq_false_iff, Bool.or_eq_false_iff, decide_eq_true_eq, decide_eq_false_iff_not] at hc2
    refine VC.skip (VQ.then_code (VC.seq (VC.region (VO.mv (Rn.move rfl) rfl rfl rfl ?_))))
    refine VO.wk (Wk.append (S := _) Tryz.underlying39 inf53w58 rfl (by decide) rfl rfl (Ow.nil _ _ _) sx (cx_one _) (fun h => by simp at h) (by omega) (by simp only [maxLen]; omega)) rfl rfl rfl ?_
    rintro _ w1 ⟨r1, A1, k1, rfl, o1, c1, q1⟩
    have z1 := c1.size
    have y1 := o1.lt
    have yrp := Ow.r_pos o1 (by omega)
    refine VO.mv (Rn.assign rfl) rfl rfl rfl (VO.nil (VQ.then_code (VC.seq (VC.seq (VC.region (VO.mv (Rn.move rfl) rfl rfl rfl ?_))))))
    refine VO.mv (Rn.sub rfl rfl (by rw [IntKind.wrap_i64]; omega)) rfl rfl rfl ?_
    refine VO.mv (Rn.assign rfl) rfl rfl rfl (VO.nil (VQ.then_code (VC.block ?_)))
    have sx_1 := sx.to c1 (by first | exact fun _ _ _ _ => id | (intro q h1 h2 hx h3; have := hX q h2; omega))
    have CH_1 : Ch (No) w w1 := (Ch.refl (No) w).then c1 (by intro q h1 h2; rcases h2 with h2 | h2 <;> first | exact h2 | (exfalso; omega) | omega)
    refine VC.loopS (σ := Int × Nat × List CB × Nat × Option Addr × Nat) (fun (i, j, os, r2, A2, c2) => [(0, .slice X 1 xc), (5, .slice A2 (1 + j) c2), (6, .int .i64 i)]) (fun (i, j, os, r2, A2, c2) w' => (i = -1 - (j : Int) ∧ i ≤ -1 ∧ (j : Int) ≤ 0) ∧ os = zs ∧ w.heap.size < r2 ∧ w1.heap.size ≤ w'.heap.size ∧ CR 53 w' r2 A2 (1 + j) c2 os ∧ SlR SX w' X 1 1 (zs.map cxV) ∧ Ch (No) w w') (fun (i, j, os, r2, A2, c2) => i.toNat) (-1, 0, zs, r1, A1, k1) ?_ ⟨rfl, rfl, rfl, trivial⟩ ?_
    · exact ⟨⟨by omega, by omega, by omega⟩, rfl, (by omega), (Nat.le_refl _), o1, sx_1, CH_1⟩
    rintro ⟨i, j, os, r2, A2, c2⟩ w2 ⟨hi, ho, hr2, hsz2, row_2, sx_2, CH_2⟩
    show VC _ _ _ _ [(0, .slice X 1 xc), (5, .slice A2 (1 + j) c2), (6, .int .i64 i)] _
    refine VC.seq (VC.seq (VC.region (VO.mv (Rn.move rfl) rfl rfl rfl (VO.mv (Rn.geq rfl rfl) rfl rfl rfl (VO.nil (VQ.then_code (VC.cond_if rfl (fun hc3 => ?_) (fun hc3 => ?_))))))))
    · skip
      omega
    · skip
      refine VC.exit (VQ.then_exit (VQ.then_exit (VQ.block_exit (VQ.then_code (VC.seq (VC.region (VO.mv (Rn.move rfl) rfl rfl rfl ?_)))))))
      refine VO.mv (Rn.assign rfl) rfl rfl rfl (VO.mv (Rn.assign rfl) rfl rfl rfl (VO.nil (VQ.then_code (VC.ret (VQ.ret2 rfl rfl rfl (Ret.mk ?_))))))
      obtain rfl : j = 0 := by omega
      exact ⟨_, _, _, os, rfl, row_2, ⟨by rw [ho]; exact hf.len, fun i hi => by rw [ho]; exact hf.get i (by omega)⟩, hr2, CH_2⟩
set_option maxHeartbeats 1000000 in
set_option maxRecDepth 100000 in
theorem half_Full2 (SX : Nat → Prop) (X : Option Addr) (xc : Nat) (us : Nat → Int) (zs : List CB) (w : World) (sx : SlR SX w X 2 1 (zs.map cxV)) (hX : ∀ q, SX q → q < w.heap.size) (hu : U40 us) (hf : HalfOk 2 us zs) :
    Calls Tryz.prog 22 #[.slice X 2 xc] w (Ret (fun v w' => ∃ r A k os, v = .tuple #[.slice A 2 k, .nilIface] ∧ CR 53 w' r A 2 k os ∧ CxsOk 2 us os ∧ w.heap.size < r ∧ Ch No w w')) := by
  refine calls_of_VC (args := [.slice X 2 xc]) Tryz.func22 rfl Tryz.ntmps22 rfl (VC.seq (VC.region (VO.mv (Rn.assign rfl) rfl rfl rfl (VO.mv (Rn.assign rfl) rfl rfl rfl (VO.nil (VQ.then_code (VC.seq ?_)))))))
  refine VC.region (VO.mv (Rn.move rfl) rfl rfl rfl (VO.mv (Rn.len Tryz.underlying39 rfl) rfl rfl rfl ?_))
  refine VO.mv (Rn.sub rfl rfl (by rw [IntKind.wrap_i64]; omega)) rfl rfl rfl ?_
  refine VO.mv (Rn.assign rfl) rfl rfl rfl (VO.nil (VQ.then_code (VC.seq (VC.seq (VC.region (VO.mv (Rn.move rfl) rfl rfl rfl (VO.mv (Rn.lss rfl rfl) rfl rfl rfl ?_)))))))
  refine VO.mv (Rn.move rfl) rfl rfl rfl ?_
  refine VO.orJoin (b := _) 3 12 15 rfl (fun hc1 Jhc1 => by
      refine VO.skip rfl rfl rfl (VO.skip rfl rfl rfl (VO.mv (Rn.pick_true rfl rfl) rfl rfl rfl ?_))
      exact (VO.fg rfl (VO.fg rfl Jhc1))) (fun hc1 Jhc1 => by
      try simp only [Bool.and_eq_true, Bool.or_eq_true, Bool.not_eq_true', Bool.not_eq_false', Bool.and_eq_false_iff, Bool.or_eq_false_iff, decide_eq_true_eq, decide_eq_false_iff_not] at hc1
      refine VO.mv (Rn.move rfl) rfl rfl rfl (VO.mv (Rn.gtr rfl rfl) rfl rfl rfl (VO.mv (Rn.pick_false rfl rfl) rfl rfl rfl ?_))
      exact (VO.fg rfl (VO.fg rfl Jhc1))) ?_
  refine VO.nil (VQ.then_code (VC.cond rfl (fun hc2 => ?_) (fun hc2 => ?_)))
  · skip
    try simp only [Bool.and_eq_true, Bool.or_eq_true, Bool.not_eq_true', Bool.not_eq_false', Bool.and_eq_false_iff, Bool.or_eq_false_iff, decide_eq_true_eq, decide_eq_false_iff_not] at hc2
    omega
  · skip
    try simp only [Bool.and_eq_true, Bool.or_eq_true, Bool.not_eq_true', Bool.not_eq_false', Bool.and_eq_false_iff, Bool.or_eq_false_iff, decide_eq_true_eq, decide_eq_false_iff_not] at hc2
    refine VC.skip (VQ.then_code (VC.seq (VC.region (VO.mv (Rn.move rfl) rfl rfl rfl ?_))))
    refine VO.wk (Wk.append (S := _) Tryz.underlying39 inf53w58 rfl (by decide) rfl rfl (Ow.nil _ _ _) sx (cx_one _) (fun h => by simp at h) (by omega) (by simp only [maxLen]; omega)) rfl rfl rfl ?_
    rintro _ w1 ⟨r1, A1, k1, rfl, o1, c1, q1⟩
    have z1 := c1.size
    have y1 := o1.lt
    have yrp := Ow.r_pos o1 (by omega)
    refine VO.mv (Rn.assign rfl) rfl rfl rfl (VO.nil (VQ.then_code (VC.seq (VC.seq (VC.region (VO.mv (Rn.move rfl) rfl rfl rfl ?_))))))
    refine VO.mv (Rn.sub rfl rfl (by rw [IntKind.wrap_i64]; omega)) rfl rfl rfl ?_
    refine VO.mv (Rn.assign rfl) rfl rfl rfl (VO.nil (VQ.then_code (VC.block ?_)))
    have sx_1 := sx.to c1 (by first | exact fun _ _ _ _ => id | (intro q h1 h2 hx h3; have := hX q h2; omega))
    have CH_1 : Ch (No) w w1 := (Ch.refl (No) w).then c1 (by intro q h1 h2; rcases h2 with h2 | h2 <;> first | exact h2 | (exfalso; omega) | omega)
    refine VC.loopS (σ := Int × Nat × List CB × Nat × Option Addr × Nat) (fun (i, j, os, r2, A2, c2) => [(0, .slice X 2 xc), (5, .slice A2 (2 + j) c2), (6, .int .i64 i)]) (fun (i, j, os, r2, A2, c2) w' => (i = 0 - (j : Int) ∧ i ≤ 0 ∧ (j : Int) ≤ 0) ∧ FullU 1 us j os ∧ w.heap.size < r2 ∧ w1.heap.size ≤ w'.heap.size ∧ CR 53 w' r2 A2 (2 + j) c2 os ∧ SlR SX w' X 2 1 (zs.map cxV) ∧ Ch (No) w w') (fun (i, j, os, r2, A2, c2) => i.toNat) (0, 0, zs, r1, A1, k1) ?_ ⟨rfl, rfl, rfl, trivial⟩ ?_
    · exact ⟨⟨by omega, by omega, by omega⟩, (FullU.start (h := 1) rfl hf), (by omega), (Nat.le_refl _), o1, sx_1, CH_1⟩
    rintro ⟨i, j, os, r2, A2, c2⟩ w2 ⟨hi, ho, hr2, hsz2, row_2, sx_2, CH_2⟩
    show VC _ _ _ _ [(0, .slice X 2 xc), (5, .slice A2 (2 + j) c2), (6, .int .i64 i)] _
    refine VC.seq (VC.seq (VC.region (VO.mv (Rn.move rfl) rfl rfl rfl (VO.mv (Rn.geq rfl rfl) rfl rfl rfl (VO.nil (VQ.then_code (VC.cond_if rfl (fun hc3 => ?_) (fun hc3 => ?_))))))))
    · skip
      omega
    · skip
      refine VC.exit (VQ.then_exit (VQ.then_exit (VQ.block_exit (VQ.then_code (VC.seq (VC.region (VO.mv (Rn.move rfl) rfl rfl rfl ?_)))))))
      refine VO.mv (Rn.assign rfl) rfl rfl rfl (VO.mv (Rn.assign rfl) rfl rfl rfl (VO.nil (VQ.then_code (VC.ret (VQ.ret2 rfl rfl rfl (Ret.mk ?_))))))
      obtain rfl : j = 0 := by omega
      exact ⟨_, _, _, os, rfl, row_2, ⟨ho.len, fun i hi => ho.get i hi⟩, hr2, CH_2⟩
set_option maxHeartbeats 1000000 in
set_option maxRecDepth 100000 in
theorem half_Full4 (SX : Nat → Prop) (X : Option Addr) (xc : Nat) (us : Nat → Int) (zs : List CB) (w : World) (sx : SlR SX w X 3 1 (zs.map cxV)) (hX : ∀ q, SX q → q < w.heap.size) (hu : U40 us) (hf : HalfOk 4 us zs) :
    Calls Tryz.prog 22 #[.slice X 3 xc] w (Ret (fun v w' => ∃ r A k os, v = .tuple #[.slice A 4 k, .nilIface] ∧ CR 53 w' r A 4 k os ∧ CxsOk 4 us os ∧ w.heap.size < r ∧ Ch No w w')) := by
  refine calls_of_VC (args := [.slice X 3 xc]) Tryz.func22 rfl Tryz.ntmps22 rfl (VC.seq (VC.region (VO.mv (Rn.assign rfl) rfl rfl rfl (VO.mv (Rn.assign rfl) rfl rfl rfl (VO.nil (VQ.then_code (VC.seq ?_)))))))
  refine VC.region (VO.mv (Rn.move rfl) rfl rfl rfl (VO.mv (Rn.len Tryz.underlying39 rfl) rfl rfl rfl ?_))
  refine VO.mv (Rn.sub rfl rfl (by rw [IntKind.wrap_i64]; omega)) rfl rfl rfl ?_
  refine VO.mv (Rn.assign rfl) rfl rfl rfl (VO.nil (VQ.then_code (VC.seq (VC.seq (VC.region (VO.mv (Rn.move rfl) rfl rfl rfl (VO.mv (Rn.lss rfl rfl) rfl rfl rfl ?_)))))))
  refine VO.mv (Rn.move rfl) rfl rfl rfl ?_
  refine VO.orJoin (b := _) 3 12 15 rfl (fun hc1 Jhc1 => by
      refine VO.skip rfl rfl rfl (VO.skip rfl rfl rfl (VO.mv (Rn.pick_true rfl rfl) rfl rfl rfl ?_))
      exact (VO.fg rfl (VO.fg rfl Jhc1))) (fun hc1 Jhc1 => by
      try simp only [Bool.and_eq_true, Bool.or_eq_true, Bool.not_eq_true', Bool.not_eq_false', Bool.and_eq_false_iff, Bool.or_eq_false_iff, decide_eq_true_eq, decide_eq_false_iff_not] at hc1
      refine VO.mv (Rn.move rfl) rfl rfl rfl (VO.mv (Rn.gtr rfl rfl) rfl rfl rfl (VO.mv (Rn.pick_false rfl rfl) rfl rfl rfl ?_))
      exact (VO.fg rfl (VO.fg rfl Jhc1))) ?_
  refine VO.nil (VQ.then_code (VC.cond rfl (fun hc2 => ?_) (fun hc2 => ?_)))
  · skip
    try simp only [Bool.and_eq_true, Bool.or_eq_true, Bool.not_eq_true', Bool.not_eq_false', Bool.and_eq_false_iff, Bool.or_eq_false_iff, decide_eq_true_eq, decide_eq_false_iff_not] at hc2
    omega
  · skip
    try simp only [Bool.and_eq_true, Bool.or_eq_true, Bool.not_eq_true', Bool.not_eq_false', Bool.and_eq_false_iff, Bool.or_eq_false_iff, decide_eq_true_eq, decide_eq_false_iff_not] at hc2
    refine VC.skip (VQ.then_code (VC.seq (VC.region (VO.mv (Rn.move rfl) rfl rfl rfl ?_))))
    refine VO.wk (Wk.append (S := _) Tryz.underlying39 inf53w58 rfl (by decide) rfl rfl (Ow.nil _ _ _) sx (cx_one _) (fun h => by simp at h) (by omega) (by simp only [maxLen]; omega)) rfl rfl rfl ?_
    rintro _ w1 ⟨r1, A1, k1, rfl, o1, c1, q1⟩
    have z1 := c1.size
    have y1 := o1.lt
    have yrp := Ow.r_pos o1 (by omega)
    refine VO.mv (Rn.assign rfl) rfl rfl rfl (VO.nil (VQ.then_code (VC.seq (VC.seq (VC.region (VO.mv (Rn.move rfl) rfl rfl rfl ?_))))))
    refine VO.mv (Rn.sub rfl rfl (by rw [IntKind.wrap_i64]; omega)) rfl rfl rfl ?_
    refine VO.mv (Rn.assign rfl) rfl rfl rfl (VO.nil (VQ.then_code (VC.block ?_)))
    have sx_1 := sx.to c1 (by first | exact fun _ _ _ _ => id | (intro q h1 h2 hx h3; have := hX q h2; omega))
    have CH_1 : Ch (No) w w1 := (Ch.refl (No) w).then c1 (by intro q h1 h2; rcases h2 with h2 | h2 <;> first | exact h2 | (exfalso; omega) | omega)
    refine VC.loopS (σ := Int × Nat × List CB × Nat × Option Addr × Nat) (fun (i, j, os, r2, A2, c2) => [(0, .slice X 3 xc), (5, .slice A2 (3 + j) c2), (6, .int .i64 i)]) (fun (i, j, os, r2, A2, c2) w' => (i = 1 - (j : Int) ∧ i ≤ 1 ∧ (j : Int) ≤ 1) ∧ FullU 2 us j os ∧ w.heap.size < r2 ∧ w1.heap.size ≤ w'.heap.size ∧ CR 53 w' r2 A2 (3 + j) c2 os ∧ SlR SX w' X 3 1 (zs.map cxV) ∧ Ch (No) w w') (fun (i, j, os, r2, A2, c2) => i.toNat) (1, 0, zs, r1, A1, k1) ?_ ⟨rfl, rfl, rfl, trivial⟩ ?_
    · exact ⟨⟨by omega, by omega, by omega⟩, (FullU.start (h := 2) rfl hf), (by omega), (Nat.le_refl _), o1, sx_1, CH_1⟩
    rintro ⟨i, j, os, r2, A2, c2⟩ w2 ⟨hi, ho, hr2, hsz2, row_2, sx_2, CH_2⟩
    show VC _ _ _ _ [(0, .slice X 3 xc), (5, .slice A2 (3 + j) c2), (6, .int .i64 i)] _
    refine VC.seq (VC.seq (VC.region (VO.mv (Rn.move rfl) rfl rfl rfl (VO.mv (Rn.geq rfl rfl) rfl rfl rfl (VO.nil (VQ.then_code (VC.cond_if rfl (fun hc3 => ?_) (fun hc3 => ?_))))))))
    · skip
      refine VC.skip (VQ.then_code (VC.seq (VC.block (VC.region (VO.mv (Rn.move rfl) rfl rfl rfl (VO.mv (Rn.move rfl) rfl rfl rfl (VO.mv (Rn.move rfl) rfl rfl rfl ?_)))))))
      refine VO.mv (Rn.indexS Tryz.underlying39 Tryz.sizeOf53 rfl rfl (sx_2.ne (by omega)) (by omega) (by omega)) rfl rfl rfl (VO.mv (Rn.load Tryz.isAgg53 rfl (sx_2.getC (by omega) (by omega))) rfl rfl rfl (VO.wk (Wk.call Tryz.call47 rfl (cplx_Conj _ _ _)) rfl rfl rfl ?_))
      rintro _ w3 ⟨p3, q3, rfl, F3, c3⟩
      have z3 := c3.size
      refine VO.wk (Wk.lit Tryz.underlying39 inf53w58 (by decide) rfl rfl (by rfl) (by decide) (by decide) (by rfl)) rfl rfl rfl ?_
      rintro _ w4 ⟨p4, rfl, N4⟩
      have c4 := N4.ch
      have e4 := N4.p; have z4 := N4.size
      have l31 := SlR.of_new (sz := 1) (l := 1) N4 rfl
      have l31o := Ow.of_new (sz := 1) (l := 1) N4 rfl (by decide)
      have row_4 := row_2.keep (c3.trans c4)
      refine VO.wk (Wk.append (S := _) Tryz.underlying39 inf53w58 rfl (by decide) rfl rfl row_4 l31 (by rfl) (fun h => by simp at h) (by omega) (by simp only [maxLen]; omega)) rfl rfl rfl ?_
      rintro _ w5 ⟨r5, A5, k5, rfl, o5, c5, q5⟩
      have z5 := c5.size
      have y5 := o5.lt
      refine VO.mv (Rn.assign rfl) rfl rfl rfl (VO.nil (VQ.block_normal (VQ.then_code (VC.region (VO.mv (Rn.move rfl) rfl rfl rfl ?_)))))
      refine VO.mv (Rn.sub rfl rfl (by rw [IntKind.wrap_i64]; omega)) rfl rfl rfl ?_
      refine VO.mv (Rn.assign rfl) rfl rfl rfl (VO.nil ?_)
      refine VQ.round (i - 1, j + 1, os ++ [(p3, q3)], r5, A5, k5) (by first | omega | (dsimp only; omega)) ?_ ⟨rfl, rfl, rfl, trivial⟩
      have sx_4 := sx_2.keep (c3.trans c4)
      have sx_5 := sx_4.to c5 (by first | exact fun _ _ _ _ => id | (intro q h1 h2 hx h3; have := hX q h2; omega))
      have CH_4 := CH_2.and (c3.trans c4)
      have CH_5 : Ch (No) w w5 := CH_4.then c5 (by intro q h1 h2; rcases h2 with h2 | h2 <;> first | exact h2 | (exfalso; omega) | omega)
      exact ⟨⟨by omega, by omega, by omega⟩, (ho.push (by obtain rfl : j = 0 := (by omega); obtain rfl : i = 1 := (by omega); rw [F3]; exact full_half (h := 2) (by decide) hu (f := fun k => cx (zs.getD k (0, 0))) hf.get (k := 1) (by decide) (by decide))), (by omega), (by omega), (by have h9 := o5; show Ow _ _ _ _ _ _ _ _; rw [List.map_append]; exact h9), sx_5, CH_5⟩
    · skip
      refine VC.exit (VQ.then_exit (VQ.then_exit (VQ.block_exit (VQ.then_code (VC.seq (VC.region (VO.mv (Rn.move rfl) rfl rfl rfl ?_)))))))
      refine VO.mv (Rn.assign rfl) rfl rfl rfl (VO.mv (Rn.assign rfl) rfl rfl rfl (VO.nil (VQ.then_code (VC.ret (VQ.ret2 rfl rfl rfl (Ret.mk ?_))))))
      obtain rfl : j = 1 := by omega
      exact ⟨_, _, _, os, rfl, row_2, ⟨ho.len, fun i hi => ho.get i hi⟩, hr2, CH_2⟩
set_option maxHeartbeats 2000000 in
set_option maxRecDepth 100000 in
theorem half_Two (SX : Nat → Prop) (X Y : Option Addr) (n xc yc : Nat) (us vs : Nat → Int) (xs ys : List Nat) (w : World) (sx : SlR SX w X n 1 (xs.map flV)) (sy : SlR SX w Y n 1 (ys.map flV)) (hX : ∀ q, SX q → q < w.heap.size) (hu : U40 us) (hv : U40 vs) (hx : FlsOk n us xs) (hy : FlsOk n vs ys) (hn3 : N3 n) (hn : 1 ≤ n ∧ n ≤ 4) (st : StT w) (tab : TabB w.heap.size w) (hG : 12 ≤ w.heap.size) :
    Calls Tryz.prog 23 #[.slice X n xc, .slice Y n yc] w (Ret (fun v w' => ∃ q1 q2 zs1 zs2, v = .tuple #[.slice (some ⟨q1, 0, none⟩) n n, .slice (some ⟨q2, 0, none⟩) n n, .nilIface] ∧ CR 53 w' (q1 + 1) (some ⟨q1, 0, none⟩) n n zs1 ∧ CR 53 w' (q2 + 1) (some ⟨q2, 0, none⟩) n n zs2 ∧ CxsOk n us zs1 ∧ CxsOk n vs zs2 ∧ w.heap.size ≤ q1 ∧ w.heap.size ≤ q2 ∧ Ch No w w')) := by
  refine calls_of_VC (args := [.slice X n xc, .slice Y n yc]) Tryz.func23 rfl Tryz.ntmps23 rfl (VC.seq (VC.region (VO.mv (Rn.assign rfl) rfl rfl rfl (VO.mv (Rn.assign rfl) rfl rfl rfl (VO.mv (Rn.assign rfl) rfl rfl rfl (VO.nil (VQ.then_code ?_)))))))
  refine VC.seq (VC.region (VO.mv (Rn.move rfl) rfl rfl rfl (VO.mv (Rn.len Tryz.underlying27 rfl) rfl rfl rfl (VO.mv (Rn.assign rfl) rfl rfl rfl (VO.nil (VQ.then_code (VC.seq ?_)))))))
  refine VC.seq (VC.region (VO.mv (Rn.move rfl) rfl rfl rfl (VO.mv (Rn.eql rfl rfl) rfl rfl rfl (VO.mv (Rn.move rfl) rfl rfl rfl ?_))))
  refine VO.orJoin (b := _) 3 21 24 rfl (fun hc1 Jhc1 => by
      refine VO.skip rfl rfl rfl (VO.skip rfl rfl rfl (VO.mv (Rn.pick_true rfl rfl) rfl rfl rfl ?_))
      exact (VO.fg rfl (VO.fg rfl Jhc1))) (fun hc1 Jhc1 => by
      try simp only [Bool.and_eq_true, Bool.or_eq_true, Bool.not_eq_true', Bool.not_eq_false', Bool.and_eq_false_iff, Bool.or_eq_false_iff, decide_eq_true_eq, decide_eq_false_iff_not] at hc1
      refine VO.mv (Rn.move rfl) rfl rfl rfl (VO.mv (Rn.gtr rfl rfl) rfl rfl rfl (VO.mv (Rn.pick_false rfl rfl) rfl rfl rfl ?_))
      exact (VO.fg rfl (VO.fg rfl Jhc1))) ?_
  refine VO.mv (Rn.move rfl) rfl rfl rfl ?_
  refine VO.orJoin (b := _) 5 25 30 rfl (fun hc2 Jhc2 => by
      refine VO.skip rfl rfl rfl (VO.skip rfl rfl rfl (VO.skip rfl rfl rfl (VO.skip rfl rfl rfl (VO.mv (Rn.pick_true rfl rfl) rfl rfl rfl ?_))))
      exact (VO.fg rfl (VO.fg rfl (VO.fg rfl (VO.fg rfl Jhc2))))) (fun hc2 Jhc2 => by
      try simp only [Bool.and_eq_true, Bool.or_eq_true, Bool.not_eq_true', Bool.not_eq_false', Bool.and_eq_false_iff, Bool.or_eq_false_iff, decide_eq_true_eq, decide_eq_false_iff_not] at hc2
      refine VO.mv (Rn.move rfl) rfl rfl rfl (VO.mv (Rn.len Tryz.underlying27 rfl) rfl rfl rfl (VO.mv (Rn.move rfl) rfl rfl rfl (VO.mv (Rn.neq rfl rfl) rfl rfl rfl (VO.mv (Rn.pick_false rfl rfl) rfl rfl rfl ?_))))
      exact (VO.fg rfl (VO.fg rfl (VO.fg rfl (VO.fg rfl Jhc2))))) ?_
  refine VO.nil (VQ.then_code (VC.cond rfl (fun hc3 => ?_) (fun hc3 => ?_)))
  · skip
    try simp only [Bool.and_eq_true, Bool.or_eq_true, Bool.not_eq_true', Bool.not_eq_false', Bool.and_eq_false_iff, Bool.or_eq_false_iff, decide_eq_true_eq, decide_eq_false_iff_not] at hc3
    omega
  · skip
    try simp only [Bool.and_eq_true, Bool.or_eq_true, Bool.not_eq_true', Bool.not_eq_false', Bool.and_eq_false_iff, Bool.or_eq_false_iff, decide_eq_true_eq, decide_eq_false_iff_not] at hc3
    refine VC.skip (VQ.then_code (VC.seq (VC.region (VO.mv (Rn.move rfl) rfl rfl rfl (VO.wk (Wk.mkC Tryz.underlying39 inf53w58 rfl rfl (by omega) (by omega) (by omega)) rfl rfl rfl ?_)))))
    rintro _ w1 ⟨p1, rfl, o1, c1, e1, z1⟩
    refine VO.mv (Rn.assign rfl) rfl rfl rfl (VO.nil (VQ.then_code (VC.seq (VC.seq (VC.region (VO.mv (Rn.move rfl) rfl rfl rfl (VO.mv (Rn.len Tryz.underlying39 rfl) rfl rfl rfl ?_)))))))
    refine VO.mv (Rn.move rfl) rfl rfl rfl (VO.nil (VQ.then_code (VC.block ?_)))
    have sx_1 := sx.keep c1
    have sy_1 := sy.keep c1
    have st_1 := st.keep c1
    have tab_1 := tab.keep c1
    have CH_1 := (Ch.refl (No) w).and c1
    refine VC.loopS (σ := Nat) (fun j => [(0, .slice X n xc), (1, .slice Y n yc), (7, .int .i64 n), (8, .slice (some ⟨p1, 0, none⟩) n n), (35, .int .i64 n), (36, .int .i64 j)]) (fun j w' => j ≤ n ∧ w1.heap.size ≤ w'.heap.size ∧ CR 53 w' ((p1 + 1)) (some ⟨p1, 0, none⟩) n n (rowF n (xyC xs ys) j) ∧ SlR SX w' X n 1 (xs.map flV) ∧ SlR SX w' Y n 1 (ys.map flV) ∧ StT w' ∧ TabB w.heap.size w' ∧ Ch (No) w w') (fun j => n - j) 0 ?_ ⟨rfl, rfl, rfl, rfl, rfl, rfl, trivial⟩ ?_
    · exact ⟨(by omega), (Nat.le_refl _), (by rw [rowF_zero]; exact o1), sx_1, sy_1, st_1, tab_1, CH_1⟩
    rintro j w2 ⟨hj, hsz2, row_2, sx_2, sy_2, st_2, tab_2, CH_2⟩
    show VC _ _ _ _ [(0, .slice X n xc), (1, .slice Y n yc), (7, .int .i64 n), (8, .slice (some ⟨p1, 0, none⟩) n n), (35, .int .i64 n), (36, .int .i64 j)] _
    refine VC.seq (VC.region (VO.mv (Rn.lss rfl rfl) rfl rfl rfl (VO.nil (VQ.then_code (VC.seq (VC.cond_if rfl (fun hc4 => ?_) (fun hc4 => ?_)))))))
    · skip
      refine VC.skip (VQ.then_code (VC.seq (VC.block (VC.seq (VC.region (VO.mv (Rn.move rfl) rfl rfl rfl (VO.mv (Rn.assign rfl) rfl rfl rfl ?_)))))))
      refine VO.nil (VQ.then_code (VC.draws 12 [(0, true), (1, true), (2, true), (3, true), (4, true), (5, true), (6, true), (7, true), (8, true), (9, true), (10, true), (11, true)] (fun w1 w' => Ch (At (p1 + 1)) w1 w') mixed (by kernel_rfl) (fun _ _ => Ch.refl _ _) ?_))
      intro w3 D3
      have c3 := Ch.of_drew D3; have z3 := c3.size
      have sx_3 := sx_2.keep c3
      have sy_3 := sy_2.keep c3
      have row_3 := row_2.keep c3
      refine VH.mv (fun w' hS => Rn.move rfl) rfl rfl rfl rfl (VH.mv (fun w' hS => Rn.move rfl) rfl rfl rfl rfl (VH.mv (fun w' hS => Rn.move rfl) rfl rfl rfl rfl (VH.mv (fun w' hS => Rn.move rfl) rfl rfl rfl rfl ?_)))
      refine VH.mv (fun w' hS => Rn.indexS Tryz.underlying27 Tryz.sizeOf25 rfl rfl ((sx_3.to hS (by first | exact fun _ _ _ _ => id | (intro q h1 h2 hx h3; have := hX q h2; omega))).ne (by omega)) (by omega) (by omega)) rfl rfl rfl rfl ?_
      refine VH.mv (fun w' hS => Rn.load Tryz.isAgg25 rfl ((sx_3.to hS (by first | exact fun _ _ _ _ => id | (intro q h1 h2 hx h3; have := hX q h2; omega))).getF (by omega) (by omega))) rfl rfl rfl rfl ?_
      refine VH.mv (fun w' hS => Rn.move rfl) rfl rfl rfl rfl (VH.mv (fun w' hS => Rn.move rfl) rfl rfl rfl rfl ?_)
      refine VH.mv (fun w' hS => Rn.indexS Tryz.underlying27 Tryz.sizeOf25 rfl rfl ((sy_3.to hS (by first | exact fun _ _ _ _ => id | (intro q h1 h2 hx h3; have := hX q h2; omega))).ne (by omega)) (by omega) (by omega)) rfl rfl rfl rfl ?_
      refine VH.mv (fun w' hS => Rn.load Tryz.isAgg25 rfl ((sy_3.to hS (by first | exact fun _ _ _ _ => id | (intro q h1 h2 hx h3; have := hX q h2; omega))).getF (by omega) (by omega))) rfl rfl rfl rfl ?_
      refine VH.mv (fun w' hS => Rn.complex rfl rfl) rfl rfl rfl rfl (VH.mv (fun w' hS => Rn.indexS Tryz.underlying39 Tryz.sizeOf53 rfl rfl (row_3.sl.ne (by omega)) (by omega) (by omega)) rfl rfl rfl rfl (VH.done (VO.wk0 (Wk.putC Tryz.sizeOf53 rfl rfl (by omega) row_3) rfl rfl ?_)))
      rintro _ w4 ⟨o4, c4, z4⟩
      have y4 := o4.lt
      refine VO.nil (VQ.noPanic (VQ.block_normal (VQ.then_code (VC.region ?_))))
      refine VO.mv (Rn.add rfl rfl (by rw [IntKind.wrap_i64]; omega)) rfl rfl rfl ?_
      refine VO.mv (Rn.move rfl) rfl rfl rfl (VO.nil ?_)
      refine VQ.round (j + 1) (by first | omega | (dsimp only; omega)) ?_ ⟨rfl, rfl, rfl, rfl, rfl, rfl, trivial⟩
      have sx_4 := sx_3.to c4 (by first | exact fun _ _ _ _ => id | (intro q h1 h2 hx h3; have := hX q h2; omega))
      have sy_4 := sy_3.to c4 (by first | exact fun _ _ _ _ => id | (intro q h1 h2 hx h3; have := hX q h2; omega))
      have st_3 := st_2.keep c3
      have st_4 := st_3.to c4 (by first | exact fun _ _ _ _ => id | (intro q h1 h2 hx h3; omega))
      have tab_3 := tab_2.keep c3
      have tab_4 := tab_3.to c4 (by first | exact fun _ _ _ _ => id | (intro q h1 h2 hx h3; omega))
      have CH_3 := CH_2.and c3
      have CH_4 : Ch (No) w w4 := CH_3.then c4 (by intro q h1 h2; rcases h2 with h2 | h2 <;> first | exact h2 | (exfalso; omega) | omega)
      exact ⟨(by omega), (by omega), (by have h9 := o4; rw [Int.toNat_natCast] at h9; rw [← rowF_set (by omega)]; exact h9), sx_4, sy_4, st_4, tab_4, CH_4⟩
    · skip
      refine VC.exit (VQ.then_exit (VQ.then_exit (VQ.block_exit (VQ.then_code (VC.seq ?_)))))
      obtain rfl : j = n := by omega
      refine VC.region (VO.mv (Rn.move rfl) rfl rfl rfl (VO.wk (Wk.call Tryz.call46 rfl (half_transform0 _ _ j _ (rowF j (xyC xs ys) j) _ (row_2).sl (fun q hq => by omega) hn3 (by omega) st_2 ((tab_2).up (by omega)) (by omega))) rfl rfl rfl ?_))
      rintro _ w5 ⟨rT, AT, kT, ts, bT, rfl, tz5, htz, hL, yt5, c5⟩
      have htl := CR.len tz5; have ytl5 := Ow.lt tz5
      have z5 := c5.size
      have hmid := two_mid hL hu hv hx hy htz
      have htw := fun k hk => two_half hn3.h hu hv (z := fun i => cx (ts.getD i (0, 0))) hmid (k := k) hk
      refine VO.mv (Rn.move rfl) rfl rfl rfl (VO.mv (Rn.extract rfl rfl) rfl rfl rfl (VO.mv (Rn.extract rfl rfl) rfl rfl rfl (VO.mv (Rn.assign rfl) rfl rfl rfl (VO.mv (Rn.assign rfl) rfl rfl rfl (VO.nil (VQ.then_code (VC.seq ?_)))))))
      refine VC.seq (VC.region (VO.mv (Rn.move rfl) rfl rfl rfl (VO.mv (Rn.nil_neq_nil Tryz.underlying29 rfl) rfl rfl rfl (VO.nil (VQ.then_code (VC.cond_false rfl (VC.skip ?_)))))))
      refine VQ.then_code (VC.seq (VC.drawsT 5 (.mv 0 (.mv 2 (.two 1 (.mv 4 (.wk 3 .nil)) 3 (.wk 1 (.mv 4 .nil))))) (fun w1 w' => Ch (No) w1 w') mixed (by kernel_rfl) (fun _ _ => Ch.refl _ _) ?_))
      intro w6 D6
      have c6 := Ch.of_drew D6; have z6 := c6.size
      refine VT.mv (fun w' hS => Rn.move rfl) rfl rfl rfl rfl (VT.mv (fun w' hS => Rn.move rfl) rfl rfl rfl rfl (VT.two ?_ ?_))
      · skip
        refine VT.wk (Wk.mkC Tryz.underlying39 inf53w58 rfl rfl (by omega) (by omega) (by omega)) rfl rfl rfl rfl ?_
        rintro _ w7 ⟨p7, rfl, o7, c7, e7, z7⟩
        have RD_7 := (Ch.refl (No) w6).and c7
        refine ⟨RD_7, ?_⟩
        refine VT.mv (fun w' hS => Rn.assign rfl) rfl rfl rfl rfl (VT.wk (Wk.mkC Tryz.underlying39 inf53w58 rfl rfl (by omega) (by omega) (by omega)) rfl rfl rfl rfl ?_)
        rintro _ w8 ⟨p8, rfl, o8, c8, e8, z8⟩
        have RD_8 := RD_7.and c8
        refine ⟨RD_8, ?_⟩
        refine VT.done (VO.mv (Rn.assign rfl) rfl rfl rfl (VO.nil (VQ.noPanic (VQ.then_code (VC.seq (VC.seq (VC.region ?_)))))))
        refine VO.mv (Rn.move rfl) rfl rfl rfl (VO.mv (Rn.len Tryz.underlying39 rfl) rfl rfl rfl (VO.mv (Rn.move rfl) rfl rfl rfl (VO.nil (VQ.then_code (VC.block ?_)))))
        have tz_8 := tz5.keep (c6.trans (c7.trans c8))
        have o1_8 := o7.keep c8
        have CH_8 := CH_2.and (c5.trans (c6.trans (c7.trans c8)))
        refine VC.loopS (σ := Nat × List CB × List CB) (fun (k, a1, a2) => [(7, .int .i64 j), (10, .slice AT j kT), (12, .slice (some ⟨p7, 0, none⟩) j j), (13, .slice (some ⟨p8, 0, none⟩) j j), (65, .int .i64 j), (66, .int .i64 k)]) (fun (k, a1, a2) w' => k ≤ j ∧ CxU j us j k a1 ∧ CxU j vs j k a2 ∧ w8.heap.size ≤ w'.heap.size ∧ CR 53 w' rT AT j kT ts ∧ CR 53 w' ((p7 + 1)) (some ⟨p7, 0, none⟩) j j a1 ∧ CR 53 w' ((p8 + 1)) (some ⟨p8, 0, none⟩) j j a2 ∧ Ch (No) w w') (fun (k, a1, a2) => j - k) (0, List.replicate j (0, 0), List.replicate j (0, 0)) ?_ ⟨rfl, rfl, rfl, rfl, rfl, rfl, trivial⟩ ?_
        · exact ⟨(by omega), (CxU.zero _ _ _), (CxU.zero _ _ _), (Nat.le_refl _), tz_8, o1_8, o8, CH_8⟩
        rintro ⟨k, a1, a2⟩ w9 ⟨hk, h1, h2, hsz9, tz_9, o1_9, o2_9, CH_9⟩
        show VC _ _ _ _ [(7, .int .i64 j), (10, .slice AT j kT), (12, .slice (some ⟨p7, 0, none⟩) j j), (13, .slice (some ⟨p8, 0, none⟩) j j), (65, .int .i64 j), (66, .int .i64 k)] _
        have hem : k < j → ((j : Int) - (k : Int)) % (j : Int) = (((j - k) % j : Nat) : Int) := fun h => by rw [← Int.ofNat_sub (by omega)]; rfl
        have hml := Nat.mod_lt (j - k) (show 0 < j by omega)
        refine VC.seq (VC.region (VO.mv (Rn.lss rfl rfl) rfl rfl rfl (VO.nil (VQ.then_code (VC.seq (VC.cond_if rfl (fun hc5 => ?_) (fun hc5 => ?_)))))))
        · skip
          refine VC.skip (VQ.then_code (VC.seq (VC.block (VC.seq (VC.region (VO.mv (Rn.move rfl) rfl rfl rfl (VO.mv (Rn.assign rfl) rfl rfl rfl ?_)))))))
          refine VO.nil (VQ.then_code (VC.seq (VC.draws 14 [(0, true), (1, true), (2, true), (3, true), (4, true), (5, true), (6, true), (7, true), (8, true), (9, true), (10, true), (11, true), (12, false), (13, true)] (fun w1 w' => Ch (No) w1 w') mixed (by kernel_rfl) (fun _ _ => Ch.refl _ _) ?_)))
          intro w10 D10
          have c10 := Ch.of_drew D10; have z10 := c10.size
          have tz_10 := tz_9.keep c10
          have o1_10 := o1_9.keep c10
          have o2_10 := o2_9.keep c10
          refine VH.mv (fun w' hS => Rn.move rfl) rfl rfl rfl rfl (VH.mv (fun w' hS => Rn.move rfl) rfl rfl rfl rfl (VH.mv (fun w' hS => Rn.indexS Tryz.underlying39 Tryz.sizeOf53 rfl rfl (tz_10.sl.ne (by omega)) (by omega) (by omega)) rfl rfl rfl rfl (VH.mv (fun w' hS => Rn.load Tryz.isAgg53 rfl ((tz_10.keep hS).sl.getC (by omega) (by omega))) rfl rfl rfl rfl (VH.mv (fun w' hS => Rn.move rfl) rfl rfl rfl rfl (VH.mv (fun w' hS => Rn.move rfl) rfl rfl rfl rfl (VH.mv (fun w' hS => Rn.move rfl) rfl rfl rfl rfl ?_))))))
          refine VH.mv (fun w' hS => Rn.sub rfl rfl (by rw [IntKind.wrap_i64]; omega)) rfl rfl rfl rfl ?_
          refine VH.mv (fun w' hS => Rn.move rfl) rfl rfl rfl rfl (VH.mv (fun w' hS => Rn.rem0 rfl rfl (by omega) (by omega)) rfl rfl rfl rfl (VH.mv (fun w' hS => Rn.indexS Tryz.underlying39 Tryz.sizeOf53 rfl rfl (tz_10.sl.ne (by omega)) (by omega) (by omega)) rfl rfl rfl rfl (VH.mv (fun w' hS => Rn.load Tryz.isAgg53 rfl ((tz_10.keep hS).sl.getC (by omega) (by omega))) rfl rfl rfl rfl (VH.wk (Wk.call Tryz.call47 rfl (cplx_Conj _ _ _)) rfl rfl rfl rfl ?_))))
          rintro _ w11 ⟨p11, q11, rfl, F11, c11⟩
          have z11 := c11.size
          have RD_11 := (Ch.refl (No) w10).and c11
          refine ⟨RD_11, ?_⟩
          refine VH.mv (fun w' hS => Rn.assign rfl) rfl rfl rfl rfl (VH.done (VO.mv (Rn.assign rfl) rfl rfl rfl (VO.nil (VQ.noPanic (VQ.then_code (VC.seq (VC.region ?_)))))))
          refine VO.mv (Rn.move rfl) rfl rfl rfl (VO.mv (Rn.move rfl) rfl rfl rfl (VO.mv (Rn.move rfl) rfl rfl rfl (VO.mv (Rn.move rfl) rfl rfl rfl (VO.wk (Wk.call Tryz.call50 rfl (half_even _ _ _ _ _)) rfl rfl rfl ?_))))
          rintro _ w12 ⟨p12, q12, rfl, F12, c12⟩
          have z12 := c12.size
          have o1_12 := o1_10.keep (c11.trans c12)
          refine VO.mv (Rn.indexS Tryz.underlying39 Tryz.sizeOf53 rfl rfl (o1_12.sl.ne (by omega)) (by omega) (by omega)) rfl rfl rfl (VO.wk0 (Wk.putC Tryz.sizeOf53 rfl rfl (by omega) o1_12) rfl rfl ?_)
          rintro _ w13 ⟨o13, c13, z13⟩
          have y13 := o13.lt
          refine VO.nil (VQ.then_code (VC.region (VO.mv (Rn.move rfl) rfl rfl rfl (VO.mv (Rn.move rfl) rfl rfl rfl (VO.mv (Rn.move rfl) rfl rfl rfl (VO.mv (Rn.move rfl) rfl rfl rfl (VO.wk (Wk.cbin (.inr rfl) rfl rfl) rfl rfl rfl ?_)))))))
          rintro _ w14 ⟨p14, q14, rfl, F14, c14⟩
          have z14 := c14.size
          refine VO.wk (Wk.call Tryz.call49 rfl (cplx_MinusI _ _ _)) rfl rfl rfl ?_
          rintro _ w15 ⟨p15, q15, rfl, F15, c15⟩
          have z15 := c15.size
          refine VO.wk (Wk.call Tryz.call48 rfl (cplx_TimesH _ _ _)) rfl rfl rfl ?_
          rintro _ w16 ⟨p16, q16, rfl, F16, c16⟩
          have z16 := c16.size
          have o2_12 := o2_10.keep (c11.trans c12)
          have o2_13 := o2_12.to c13 (by first | exact fun _ _ _ _ => id | (intro q h1 h2 hx h3; omega))
          have o2_16 := o2_13.keep (c14.trans (c15.trans c16))
          refine VO.mv (Rn.indexS Tryz.underlying39 Tryz.sizeOf53 rfl rfl (o2_16.sl.ne (by omega)) (by omega) (by omega)) rfl rfl rfl (VO.wk0 (Wk.putC Tryz.sizeOf53 rfl rfl (by omega) o2_16) rfl rfl ?_)
          rintro _ w17 ⟨o17, c17, z17⟩
          have y17 := o17.lt
          refine VO.nil (VQ.block_normal (VQ.then_code (VC.region ?_)))
          refine VO.mv (Rn.add rfl rfl (by rw [IntKind.wrap_i64]; omega)) rfl rfl rfl ?_
          refine VO.mv (Rn.move rfl) rfl rfl rfl (VO.nil ?_)
          refine VQ.round (k + 1, a1.set k (p12, q12), a2.set k (p16, q16)) (by first | omega | (dsimp only; omega)) ?_ ⟨rfl, rfl, rfl, rfl, rfl, rfl, trivial⟩
          have tz_12 := tz_10.keep (c11.trans c12)
          have tz_13 := tz_12.to c13 (by first | exact fun _ _ _ _ => id | (intro q h1 h2 hx h3; omega))
          have tz_16 := tz_13.keep (c14.trans (c15.trans c16))
          have tz_17 := tz_16.to c17 (by first | exact fun _ _ _ _ => id | (intro q h1 h2 hx h3; omega))
          have o1_16 := o13.keep (c14.trans (c15.trans c16))
          have o1_17 := o1_16.to c17 (by first | exact fun _ _ _ _ => id | (intro q h1 h2 hx h3; omega))
          have CH_12 := CH_9.and (c10.trans (c11.trans c12))
          have CH_13 : Ch (No) w w13 := CH_12.then c13 (by intro q h1 h2; rcases h2 with h2 | h2 <;> first | exact h2 | (exfalso; omega) | omega)
          have CH_16 := CH_13.and (c14.trans (c15.trans c16))
          have CH_17 : Ch (No) w w17 := CH_16.then c17 (by intro q h1 h2; rcases h2 with h2 | h2 <;> first | exact h2 | (exfalso; omega) | omega)
          exact ⟨(by omega), (h1.step (by omega) (by rw [hem (by omega), Int.toNat_natCast] at F11; exact twE (htw k (by omega)).1 F11 F12)), (h2.step (by omega) (by rw [hem (by omega), Int.toNat_natCast] at F11; exact twM (htw k (by omega)).2 F11 F14 F15 F16)), (by omega), tz_17, o1_17, o17, CH_17⟩
        · skip
          refine VC.exit (VQ.then_exit (VQ.then_exit (VQ.block_exit (VQ.then_code (VC.seq (VC.region (VO.mv (Rn.move rfl) rfl rfl rfl ?_)))))))
          refine VO.mv (Rn.move rfl) rfl rfl rfl (VO.mv (Rn.assign rfl) rfl rfl rfl (VO.mv (Rn.assign rfl) rfl rfl rfl (VO.mv (Rn.assign rfl) rfl rfl rfl (VO.nil (VQ.then_code (VC.ret (VQ.ret3 rfl rfl rfl rfl ?_)))))))
          refine Ret.mk ?_
          obtain rfl : k = j := by omega
          exact ⟨_, _, a1, a2, rfl, o1_9, o2_9, ⟨h1.len, h1.get⟩, ⟨h2.len, h2.get⟩, by omega, by omega, CH_9⟩
      · skip
        refine VT.wk (Wk.mkC Tryz.underlying39 inf53w58 rfl rfl (by omega) (by omega) (by omega)) rfl rfl rfl rfl ?_
        rintro _ w18 ⟨p18, rfl, o18, c18, e18, z18⟩
        have RD_18 := (Ch.refl (No) w6).and c18
        refine ⟨RD_18, ?_⟩
        refine VT.wk (Wk.mkC Tryz.underlying39 inf53w58 rfl rfl (by omega) (by omega) (by omega)) rfl rfl rfl rfl ?_
        rintro _ w19 ⟨p19, rfl, o19, c19, e19, z19⟩
        have RD_19 := RD_18.and c19
        refine ⟨RD_19, ?_⟩
        refine VT.mv (fun w' hS => Rn.assign rfl) rfl rfl rfl rfl (VT.done (VO.mv (Rn.assign rfl) rfl rfl rfl (VO.nil (VQ.noPanic (VQ.then_code (VC.seq (VC.seq ?_)))))))
        refine VC.region (VO.mv (Rn.move rfl) rfl rfl rfl (VO.mv (Rn.len Tryz.underlying39 rfl) rfl rfl rfl (VO.mv (Rn.move rfl) rfl rfl rfl (VO.nil (VQ.then_code (VC.block ?_))))))
        have tz_19 := tz5.keep (c6.trans (c18.trans c19))
        have o2_19 := o18.keep c19
        have CH_19 := CH_2.and (c5.trans (c6.trans (c18.trans c19)))
        refine VC.loopS (σ := Nat × List CB × List CB) (fun (k, a1, a2) => [(7, .int .i64 j), (10, .slice AT j kT), (12, .slice (some ⟨p19, 0, none⟩) j j), (13, .slice (some ⟨p18, 0, none⟩) j j), (65, .int .i64 j), (66, .int .i64 k)]) (fun (k, a1, a2) w' => k ≤ j ∧ CxU j us j k a1 ∧ CxU j vs j k a2 ∧ w19.heap.size ≤ w'.heap.size ∧ CR 53 w' rT AT j kT ts ∧ CR 53 w' ((p19 + 1)) (some ⟨p19, 0, none⟩) j j a1 ∧ CR 53 w' ((p18 + 1)) (some ⟨p18, 0, none⟩) j j a2 ∧ Ch (No) w w') (fun (k, a1, a2) => j - k) (0, List.replicate j (0, 0), List.replicate j (0, 0)) ?_ ⟨rfl, rfl, rfl, rfl, rfl, rfl, trivial⟩ ?_
        · exact ⟨(by omega), (CxU.zero _ _ _), (CxU.zero _ _ _), (Nat.le_refl _), tz_19, o19, o2_19, CH_19⟩
        rintro ⟨k, a1, a2⟩ w20 ⟨hk, h1, h2, hsz20, tz_20, o1_20, o2_20, CH_20⟩
        show VC _ _ _ _ [(7, .int .i64 j), (10, .slice AT j kT), (12, .slice (some ⟨p19, 0, none⟩) j j), (13, .slice (some ⟨p18, 0, none⟩) j j), (65, .int .i64 j), (66, .int .i64 k)] _
        have hem : k < j → ((j : Int) - (k : Int)) % (j : Int) = (((j - k) % j : Nat) : Int) := fun h => by rw [← Int.ofNat_sub (by omega)]; rfl
        have hml := Nat.mod_lt (j - k) (show 0 < j by omega)
        refine VC.seq (VC.region (VO.mv (Rn.lss rfl rfl) rfl rfl rfl (VO.nil (VQ.then_code (VC.seq (VC.cond_if rfl (fun hc6 => ?_) (fun hc6 => ?_)))))))
        · skip
          refine VC.skip (VQ.then_code (VC.seq (VC.block (VC.seq (VC.region (VO.mv (Rn.move rfl) rfl rfl rfl (VO.mv (Rn.assign rfl) rfl rfl rfl ?_)))))))
          refine VO.nil (VQ.then_code (VC.seq (VC.draws 14 [(0, true), (1, true), (2, true), (3, true), (4, true), (5, true), (6, true), (7, true), (8, true), (9, true), (10, true), (11, true), (12, false), (13, true)] (fun w1 w' => Ch (No) w1 w') mixed (by kernel_rfl) (fun _ _ => Ch.refl _ _) ?_)))
          intro w21 D21
          have c21 := Ch.of_drew D21; have z21 := c21.size
          have tz_21 := tz_20.keep c21
          have o2_21 := o2_20.keep c21
          have o1_21 := o1_20.keep c21
          refine VH.mv (fun w' hS => Rn.move rfl) rfl rfl rfl rfl (VH.mv (fun w' hS => Rn.move rfl) rfl rfl rfl rfl (VH.mv (fun w' hS => Rn.indexS Tryz.underlying39 Tryz.sizeOf53 rfl rfl (tz_21.sl.ne (by omega)) (by omega) (by omega)) rfl rfl rfl rfl (VH.mv (fun w' hS => Rn.load Tryz.isAgg53 rfl ((tz_21.keep hS).sl.getC (by omega) (by omega))) rfl rfl rfl rfl (VH.mv (fun w' hS => Rn.move rfl) rfl rfl rfl rfl (VH.mv (fun w' hS => Rn.move rfl) rfl rfl rfl rfl (VH.mv (fun w' hS => Rn.move rfl) rfl rfl rfl rfl ?_))))))
          refine VH.mv (fun w' hS => Rn.sub rfl rfl (by rw [IntKind.wrap_i64]; omega)) rfl rfl rfl rfl ?_
          refine VH.mv (fun w' hS => Rn.move rfl) rfl rfl rfl rfl (VH.mv (fun w' hS => Rn.rem0 rfl rfl (by omega) (by omega)) rfl rfl rfl rfl (VH.mv (fun w' hS => Rn.indexS Tryz.underlying39 Tryz.sizeOf53 rfl rfl (tz_21.sl.ne (by omega)) (by omega) (by omega)) rfl rfl rfl rfl (VH.mv (fun w' hS => Rn.load Tryz.isAgg53 rfl ((tz_21.keep hS).sl.getC (by omega) (by omega))) rfl rfl rfl rfl (VH.wk (Wk.call Tryz.call47 rfl (cplx_Conj _ _ _)) rfl rfl rfl rfl ?_))))
          rintro _ w22 ⟨p22, q22, rfl, F22, c22⟩
          have z22 := c22.size
          have RD_22 := (Ch.refl (No) w21).and c22
          refine ⟨RD_22, ?_⟩
          refine VH.mv (fun w' hS => Rn.assign rfl) rfl rfl rfl rfl (VH.done (VO.mv (Rn.assign rfl) rfl rfl rfl (VO.nil (VQ.noPanic (VQ.then_code (VC.seq (VC.region ?_)))))))
          refine VO.mv (Rn.move rfl) rfl rfl rfl (VO.mv (Rn.move rfl) rfl rfl rfl (VO.mv (Rn.move rfl) rfl rfl rfl (VO.mv (Rn.move rfl) rfl rfl rfl (VO.wk (Wk.call Tryz.call50 rfl (half_even _ _ _ _ _)) rfl rfl rfl ?_))))
          rintro _ w23 ⟨p23, q23, rfl, F23, c23⟩
          have z23 := c23.size
          have o1_23 := o1_21.keep (c22.trans c23)
          refine VO.mv (Rn.indexS Tryz.underlying39 Tryz.sizeOf53 rfl rfl (o1_23.sl.ne (by omega)) (by omega) (by omega)) rfl rfl rfl (VO.wk0 (Wk.putC Tryz.sizeOf53 rfl rfl (by omega) o1_23) rfl rfl ?_)
          rintro _ w24 ⟨o24, c24, z24⟩
          have y24 := o24.lt
          refine VO.nil (VQ.then_code (VC.region (VO.mv (Rn.move rfl) rfl rfl rfl (VO.mv (Rn.move rfl) rfl rfl rfl (VO.mv (Rn.move rfl) rfl rfl rfl (VO.mv (Rn.move rfl) rfl rfl rfl (VO.wk (Wk.cbin (.inr rfl) rfl rfl) rfl rfl rfl ?_)))))))
          rintro _ w25 ⟨p25, q25, rfl, F25, c25⟩
          have z25 := c25.size
          refine VO.wk (Wk.call Tryz.call49 rfl (cplx_MinusI _ _ _)) rfl rfl rfl ?_
          rintro _ w26 ⟨p26, q26, rfl, F26, c26⟩
          have z26 := c26.size
          refine VO.wk (Wk.call Tryz.call48 rfl (cplx_TimesH _ _ _)) rfl rfl rfl ?_
          rintro _ w27 ⟨p27, q27, rfl, F27, c27⟩
          have z27 := c27.size
          have o2_23 := o2_21.keep (c22.trans c23)
          have o2_24 := o2_23.to c24 (by first | exact fun _ _ _ _ => id | (intro q h1 h2 hx h3; omega))
          have o2_27 := o2_24.keep (c25.trans (c26.trans c27))
          refine VO.mv (Rn.indexS Tryz.underlying39 Tryz.sizeOf53 rfl rfl (o2_27.sl.ne (by omega)) (by omega) (by omega)) rfl rfl rfl (VO.wk0 (Wk.putC Tryz.sizeOf53 rfl rfl (by omega) o2_27) rfl rfl ?_)
          rintro _ w28 ⟨o28, c28, z28⟩
          have y28 := o28.lt
          refine VO.nil (VQ.block_normal (VQ.then_code (VC.region ?_)))
          refine VO.mv (Rn.add rfl rfl (by rw [IntKind.wrap_i64]; omega)) rfl rfl rfl ?_
          refine VO.mv (Rn.move rfl) rfl rfl rfl (VO.nil ?_)
          refine VQ.round (k + 1, a1.set k (p23, q23), a2.set k (p27, q27)) (by first | omega | (dsimp only; omega)) ?_ ⟨rfl, rfl, rfl, rfl, rfl, rfl, trivial⟩
          have tz_23 := tz_21.keep (c22.trans c23)
          have tz_24 := tz_23.to c24 (by first | exact fun _ _ _ _ => id | (intro q h1 h2 hx h3; omega))
          have tz_27 := tz_24.keep (c25.trans (c26.trans c27))
          have tz_28 := tz_27.to c28 (by first | exact fun _ _ _ _ => id | (intro q h1 h2 hx h3; omega))
          have o1_27 := o24.keep (c25.trans (c26.trans c27))
          have o1_28 := o1_27.to c28 (by first | exact fun _ _ _ _ => id | (intro q h1 h2 hx h3; omega))
          have CH_23 := CH_20.and (c21.trans (c22.trans c23))
          have CH_24 : Ch (No) w w24 := CH_23.then c24 (by intro q h1 h2; rcases h2 with h2 | h2 <;> first | exact h2 | (exfalso; omega) | omega)
          have CH_27 := CH_24.and (c25.trans (c26.trans c27))
          have CH_28 : Ch (No) w w28 := CH_27.then c28 (by intro q h1 h2; rcases h2 with h2 | h2 <;> first | exact h2 | (exfalso; omega) | omega)
          exact ⟨(by omega), (h1.step (by omega) (by rw [hem (by omega), Int.toNat_natCast] at F22; exact twE (htw k (by omega)).1 F22 F23)), (h2.step (by omega) (by rw [hem (by omega), Int.toNat_natCast] at F22; exact twM (htw k (by omega)).2 F22 F25 F26 F27)), (by omega), tz_28, o1_28, o28, CH_28⟩
        · skip
          refine VC.exit (VQ.then_exit (VQ.then_exit (VQ.block_exit (VQ.then_code (VC.seq (VC.region (VO.mv (Rn.move rfl) rfl rfl rfl ?_)))))))
          refine VO.mv (Rn.move rfl) rfl rfl rfl (VO.mv (Rn.assign rfl) rfl rfl rfl (VO.mv (Rn.assign rfl) rfl rfl rfl (VO.mv (Rn.assign rfl) rfl rfl rfl (VO.nil (VQ.then_code (VC.ret (VQ.ret3 rfl rfl rfl rfl ?_)))))))
          refine Ret.mk ?_
          obtain rfl : k = j := by omega
          exact ⟨_, _, a1, a2, rfl, o1_20, o2_20, ⟨h1.len, h1.get⟩, ⟨h2.len, h2.get⟩, by omega, by omega, CH_20⟩
set_option maxRecDepth 100000 in
theorem hand_Equal (SA SB : Nat → Prop) (A B : Option Addr) (la lb ca cb : Nat) (xs ys : List CB) (w : World) (sa : SlR SA w A la 1 (xs.map cxV)) (sb : SlR SB w B lb 1 (ys.map cxV)) (hl : la = lb) (hl2 : la ≤ 1000000) (he : ∀ j, j < la → ceq (xs.getD j (0, 0)) (ys.getD j (0, 0)) = true) :
    Calls Tryz.prog 19 #[.slice A la ca, .slice B lb cb] w (Ret (fun v w' => v = .bool true ∧ Ch No w w')) := by
  refine calls_of_VC (args := [.slice A la ca, .slice B lb cb]) Tryz.func19 rfl Tryz.ntmps19 rfl (VC.seq (VC.region (VO.mv (Rn.assign rfl) rfl rfl rfl (VO.nil (VQ.then_code (VC.seq (VC.seq ?_)))))))
  refine VC.region (VO.mv (Rn.move rfl) rfl rfl rfl (VO.mv (Rn.len Tryz.underlying39 rfl) rfl rfl rfl (VO.mv (Rn.move rfl) rfl rfl rfl (VO.mv (Rn.len Tryz.underlying39 rfl) rfl rfl rfl (VO.mv (Rn.neq rfl rfl) rfl rfl rfl (VO.nil (VQ.then_code ?_)))))))
  refine VC.cond_if rfl (fun hc1 => ?_) (fun hc1 => ?_)
  · skip
    omega
  · skip
    refine VC.skip (VQ.then_code (VC.seq (VC.seq (VC.region (VO.mv (Rn.move rfl) rfl rfl rfl (VO.mv (Rn.len Tryz.underlying39 rfl) rfl rfl rfl (VO.mv (Rn.move rfl) rfl rfl rfl ?_)))))))
    refine VO.nil (VQ.then_code (VC.block (VC.loopS (σ := Nat) (fun j => [(0, .slice A la ca), (1, .slice B lb cb), (12, .int .i64 la), (13, .int .i64 j)]) (fun j w' => j ≤ la ∧ w.heap.size ≤ w'.heap.size ∧ SlR SA w' A la 1 (xs.map cxV) ∧ SlR SB w' B lb 1 (ys.map cxV) ∧ Ch (No) w w') (fun j => la - j) 0 ?_ ⟨rfl, rfl, rfl, rfl, trivial⟩ ?_)))
    · exact ⟨(by omega), (Nat.le_refl _), sa, sb, (Ch.refl (No) w)⟩
    rintro j w1 ⟨hj, hsz1, sa_1, sb_1, CH_1⟩
    show VC _ _ _ _ [(0, .slice A la ca), (1, .slice B lb cb), (12, .int .i64 la), (13, .int .i64 j)] _
    refine VC.seq (VC.region (VO.mv (Rn.lss rfl rfl) rfl rfl rfl (VO.nil (VQ.then_code (VC.seq (VC.cond_if rfl (fun hc2 => ?_) (fun hc2 => ?_)))))))
    · skip
      refine VC.skip (VQ.then_code (VC.seq (VC.block (VC.seq (VC.region (VO.mv (Rn.move rfl) rfl rfl rfl (VO.mv (Rn.assign rfl) rfl rfl rfl ?_)))))))
      refine VO.nil (VQ.then_code (VC.seq (VC.draws 9 [(0, true), (1, true), (2, true), (3, true), (4, true), (5, true), (6, true), (7, true), (8, true)] (fun w1 w' => Ch (No) w1 w') mixed (by kernel_rfl) (fun _ _ => Ch.refl _ _) ?_)))
      intro w2 D2
      have c2 := Ch.of_drew D2; have z2 := c2.size
      have sa_2 := sa_1.keep c2
      have sb_2 := sb_1.keep c2
      refine VH.mv (fun w' hS => Rn.move rfl) rfl rfl rfl rfl (VH.mv (fun w' hS => Rn.move rfl) rfl rfl rfl rfl (VH.mv (fun w' hS => Rn.indexS Tryz.underlying39 Tryz.sizeOf53 rfl rfl ((sa_2.keep hS).ne (by omega)) (by omega) (by omega)) rfl rfl rfl rfl (VH.mv (fun w' hS => Rn.load Tryz.isAgg53 rfl ((sa_2.keep hS).getC (by omega) (by omega))) rfl rfl rfl rfl (VH.mv (fun w' hS => Rn.move rfl) rfl rfl rfl rfl (VH.mv (fun w' hS => Rn.move rfl) rfl rfl rfl rfl (VH.mv (fun w' hS => Rn.indexS Tryz.underlying39 Tryz.sizeOf53 rfl rfl ((sb_2.keep hS).ne (by omega)) (by omega) (by omega)) rfl rfl rfl rfl (VH.mv (fun w' hS => Rn.load Tryz.isAgg53 rfl ((sb_2.keep hS).getC (by omega) (by omega))) rfl rfl rfl rfl ?_)))))))
      refine VH.mv (fun w' hS => Rn.cneqF rfl rfl (he j (by omega))) rfl rfl rfl rfl (VH.done (VO.nil (VQ.noPanic (VQ.then_code (VC.cond_false rfl (VC.skip (VQ.block_normal ?_)))))))
      refine VQ.then_code (VC.region ?_)
      refine VO.mv (Rn.add rfl rfl (by rw [IntKind.wrap_i64]; omega)) rfl rfl rfl ?_
      refine VO.mv (Rn.move rfl) rfl rfl rfl (VO.nil ?_)
      refine VQ.round (j + 1) (by first | omega | (dsimp only; omega)) ?_ ⟨rfl, rfl, rfl, rfl, trivial⟩
      have CH_2 := CH_1.and c2
      exact ⟨(by omega), (by omega), sa_2, sb_2, CH_2⟩
    · skip
      refine VC.exit (VQ.then_exit (VQ.then_exit (VQ.block_exit (VQ.then_code (VC.seq (VC.region (VO.mv (Rn.assign rfl) rfl rfl rfl ?_)))))))
      refine VO.nil (VQ.then_code (VC.ret (VQ.ret1 rfl rfl (Ret.mk ?_))))
      exact ⟨rfl, CH_1⟩
end Go.Tm
namespace Go.Tm
open Go.RowKit Go.Proofs
theorem ev0 {n k j : Nat} {us : Nat → Int} {u v : Int} (h : 4 * (j * k) / n % 4 = 0) (hu : (u, v) = uvL n k us no0 j) : (u + us j, v) = uvL n k us no0 (j + 1) := by
  have := uv0 h hu; simpa using this
theorem ev1 {n k j : Nat} {us : Nat → Int} {u v : Int} (h : 4 * (j * k) / n % 4 = 1) (hu : (u, v) = uvL n k us no0 j) : (u, v - us j) = uvL n k us no0 (j + 1) := by
  have := uv1 h hu; simpa using this
theorem ev2 {n k j : Nat} {us : Nat → Int} {u v : Int} (h : 4 * (j * k) / n % 4 = 2) (hu : (u, v) = uvL n k us no0 j) : (u - us j, v) = uvL n k us no0 (j + 1) := by
  have := uv2 h hu; simpa using this
theorem ev3 {n k j : Nat} {us : Nat → Int} {u v : Int} (h : 4 * (j * k) / n % 4 = 3) (hu : (u, v) = uvL n k us no0 j) : (u, v + us j) = uvL n k us no0 (j + 1) := by
  have := uv3 h hu; simpa using this
theorem CxU.pushI {n k : Nat} {us : Nat → Int} (hU : U40 us) (hn : n ≤ 4) {zs : List CB} {re im : Int} (h : CxU n us k k zs) (hu : (re, im) = uvL n k us Go.Tm.no0 n) : CxU n us (k + 1) (k + 1) (zs ++ [(FloatKind.f64.nearest re, FloatKind.f64.nearest im)]) := by
  have b := uv_bd (n := n) (k := k) hU.no0 n hn
  refine h.push ?_
  rw [← hu] at b ⊢
  exact whC_int (sm_of (by omega) (by omega)) (sm_of (by omega) (by omega))
def cutN (m : Nat) : Nat := if m < 2 then 1 else if m < 4 then 2 else 4
theorem cutN3 (m : Nat) : N3 (cutN m) := ⟨by unfold cutN; split; exact .inl rfl; split; exact .inr (.inl rfl); exact .inr (.inr rfl)⟩
abbrev fm (ls : List Int) : Nat → Int := fun j => (ls.getD j 0).tmod 1099511627777
def alM (ls : List Int) (j : Nat) : List Int := (List.range j).map (fm ls)
def flM (ls : List Int) (j : Nat) : List Nat := (List.range j).map (fun i => FloatKind.f64.nearest (fm ls i))
theorem alM_succ (ls : List Int) (j : Nat) : (alM ls (j + 1)).map IV = (alM ls j).map IV ++ [.int .i64 (fm ls j)] := by simp [alM, List.range_succ]
theorem flM_succ (ls : List Int) (j : Nat) : (flM ls (j + 1)).map flV = (flM ls j).map flV ++ [.float .f64 (FloatKind.f64.nearest (fm ls j))] := by simp [flM, List.range_succ]
theorem alM_bd (ls : List Int) (n : Nat) : U40 (uI (alM ls n)) := uI_bd fun z hz => by
  obtain ⟨i, _, rfl⟩ := List.mem_map.1 hz
  exact tm_bd _
theorem flM_ok (ls : List Int) (n : Nat) : FlsOk n (uI (alM ls n)) (flM ls n) := by
  refine ⟨by simp [flM], fun k hk => ?_⟩
  have e1 : (flM ls n).getD k 0 = FloatKind.f64.nearest (fm ls k) := by simp [flM, List.getD, hk]
  have e2 : uI (alM ls n) k = fm ls k := by simp [uI, alM, List.getD, hk]
  rw [e1, e2]
  have b : -1099511627776 ≤ fm ls k ∧ fm ls k ≤ 1099511627776 := tm_bd (ls.getD k 0)
  exact Wh.cn_int (sm_of (by omega) (by omega))
theorem SlR.hi {S : Nat → Prop} {w : World} {A : Option Addr} {l : Nat} {cs : List Value} (h : SlR S w A l 1 cs) {i : Nat} (hi : i ≤ l) : SlR S w A i 1 (cs.take i) := by
  have := SlR.sub (c := l + 1) h (i := 0) (j := i) (by omega) hi (by omega)
  rw [if_neg (by omega)] at this
  have e : A.map (·.add (0 * 1)) = A := by cases A <;> simp [Addr.add]
  simpa [e] using this
theorem SlR.hiI {S : Nat → Prop} {w : World} {A : Option Addr} {l : Nat} {ls : List Int} (h : SlR S w A l 1 (ls.map IV)) {i : Nat} (hi : i ≤ l) : SlR S w A i 1 ((ls.take i).map IV) := by
  have := SlR.hi h hi; rwa [← List.map_take] at this
theorem SlR.hiC {S : Nat → Prop} {w : World} {A : Option Addr} {l : Nat} {ls : List CB} (h : SlR S w A l 1 (ls.map cxV)) {i : Nat} (hi : i ≤ l) : SlR S w A i 1 ((ls.take i).map cxV) := by
  have := SlR.hi h hi; rwa [← List.map_take] at this
theorem take_getDI {ls : List Int} {i j : Nat} (h : j < i) : (ls.take i).getD j 0 = ls.getD j 0 := by
  simp only [List.getD, List.getElem?_take, if_pos h]
theorem take_getDC {ls : List CB} {i j : Nat} (h : j < i) : (ls.take i).getD j (0, 0) = ls.getD j (0, 0) := by
  simp only [List.getD, List.getElem?_take, if_pos h]
theorem feq_wh {u v : Nat} {a : Int} (hx : Wh (cn u) a) (hy : Wh (cn v) a) (h1 : -1099511627776 ≤ a) (h2 : a ≤ 1099511627776) : (Ieee.double.order u v == some .eq) = true := Wh.eq_true hx hy (sm_of (by omega) (by omega))
abbrev u4 : Nat → Int := fun j => if j < 4 then (j : Int) + 1 else 0
theorem u4_bd : U40 u4 := fun j => by unfold u4; split <;> omega
abbrev L4f : List Nat := [4607182418800017408, 4611686018427387904, 4613937818241073152, 4616189618054758400]
theorem l4_ok : FlsOk 4 u4 L4f := ⟨rfl, fun k hk => by
  match k, hk with
  | 0, _ => exact ⟨false, by kernel_rfl, by decide⟩
  | 1, _ => exact ⟨false, by kernel_rfl, by decide⟩
  | 2, _ => exact ⟨false, by kernel_rfl, by decide⟩
  | 3, _ => exact ⟨false, by kernel_rfl, by decide⟩⟩
abbrev L3c : List CB := [(4621819117588971520, 0), (13835058055282163712, 4611686018427387904), (13835058055282163712, 0)]
theorem l3_ok : HalfOk 4 u4 L3c := ⟨rfl, fun k hk => by
  match k, hk with
  | 0, _ => exact ⟨⟨false, by kernel_rfl, by decide⟩, ⟨false, by kernel_rfl, by decide⟩⟩
  | 1, _ => exact ⟨⟨true, by kernel_rfl, by decide⟩, ⟨false, by kernel_rfl, by decide⟩⟩
  | 2, _ => exact ⟨⟨true, by kernel_rfl, by decide⟩, ⟨false, by kernel_rfl, by decide⟩⟩⟩
set_option maxRecDepth 100000 in
theorem inf3w59 : Inf Tryz.prog 3 (.int .i64 0) 1 8 := ⟨Tryz.t3, Tryz.type3, rfl, rfl, rfl⟩
set_option maxRecDepth 100000 in
theorem inf25w59 : Inf Tryz.prog 25 (.float .f64 0) 1 8 := ⟨Tryz.t25, Tryz.type25, rfl, rfl, rfl⟩
set_option maxRecDepth 100000 in
theorem inf53w59 : Inf Tryz.prog 53 (.complex .f64 0 0) 1 16 := ⟨Tryz.t53, Tryz.type53, rfl, rfl, rfl⟩
set_option maxHeartbeats 2000000 in
set_option maxRecDepth 100000 in
theorem law22_exactly (SX : Nat → Prop) (X : Option Addr) (n xc : Nat) (al : List Int) (w : World) (sx : SlR SX w X n 1 (al.map IV)) (hX : ∀ q, SX q → q < w.heap.size) (hU : U40 (uI al)) (hn : 1 ≤ n ∧ n ≤ 4) :
    Calls Tryz.prog 20 #[.slice X n xc] w (Ret (fun v w' => ∃ r A c os, v = .slice A n c ∧ CR 53 w' r A n c os ∧ CxsOk n (uI al) os ∧ w.heap.size < r ∧ Ch No w w')) := by
  refine calls_of_VC (args := [.slice X n xc]) Tryz.func20 rfl Tryz.ntmps20 rfl (VC.seq (VC.region (VO.mv (Rn.assign rfl) rfl rfl rfl (VO.nil (VQ.then_code (VC.seq (VC.region ?_)))))))
  refine VO.wk (Wk.lit0 Tryz.underlying39 inf53w59) rfl rfl rfl ?_
  rintro _ w1 ⟨p1, rfl, N1⟩
  have c1 := N1.ch
  have e1 := N1.p; have z1 := N1.size
  have l9o := Ow.of_new (cs := []) (sz := 1) (l := 0) N1 rfl (by decide)
  refine VO.mv (Rn.assign rfl) rfl rfl rfl (VO.nil (VQ.then_code (VC.seq (VC.seq (VC.region (VO.mv (Rn.move rfl) rfl rfl rfl (VO.mv (Rn.len Tryz.underlying36 rfl) rfl rfl rfl ?_)))))))
  refine VO.mv (Rn.move rfl) rfl rfl rfl (VO.nil (VQ.then_code (VC.block ?_)))
  have sx_1 := sx.keep c1
  have CH_1 := (Ch.refl (No) w).and c1
  refine VC.loopS (σ := Nat × List CB × Nat × Option Addr × Nat) (fun (k, os, r2, A2, c2) => [(0, .slice X n xc), (3, .slice A2 k c2), (10, .slice X n xc), (11, .int .i64 n), (12, .int .i64 k)]) (fun (k, os, r2, A2, c2) w' => k ≤ n ∧ CxU n (uI al) k k os ∧ w.heap.size < r2 ∧ w1.heap.size ≤ w'.heap.size ∧ CR 53 w' r2 A2 k c2 os ∧ SlR SX w' X n 1 (al.map IV) ∧ Ch (No) w w') (fun (k, os, r2, A2, c2) => n - k) (0, [], (p1 + 1), (some ⟨p1, 0, none⟩), 0) ?_ ⟨rfl, rfl, rfl, rfl, rfl, trivial⟩ ?_
  · exact ⟨(by omega), ⟨rfl, fun i h => absurd h (by omega)⟩, (by omega), (Nat.le_refl _), l9o, sx_1, CH_1⟩
  rintro ⟨k, os, r2, A2, c2⟩ w2 ⟨hk, ho, hr2, hsz2, row_2, sx_2, CH_2⟩
  show VC _ _ _ _ [(0, .slice X n xc), (3, .slice A2 k c2), (10, .slice X n xc), (11, .int .i64 n), (12, .int .i64 k)] _
  refine VC.seq (VC.region (VO.mv (Rn.lss rfl rfl) rfl rfl rfl (VO.nil (VQ.then_code (VC.seq (VC.cond_if rfl (fun hc1 => ?_) (fun hc1 => ?_)))))))
  · skip
    refine VC.skip (VQ.then_code (VC.seq (VC.block (VC.seq (VC.region (VO.mv (Rn.move rfl) rfl rfl rfl (VO.mv (Rn.assign rfl) rfl rfl rfl ?_)))))))
    refine VO.nil (VQ.then_code (VC.seq (VC.region (VO.mv (Rn.assign rfl) rfl rfl rfl (VO.mv (Rn.assign rfl) rfl rfl rfl (VO.nil (VQ.then_code ?_)))))))
    refine VC.seq (VC.seq (VC.region (VO.mv (Rn.move rfl) rfl rfl rfl (VO.mv (Rn.len Tryz.underlying36 rfl) rfl rfl rfl (VO.mv (Rn.move rfl) rfl rfl rfl (VO.nil (VQ.then_code ?_)))))))
    refine VC.block (VC.loopS (σ := Nat × Int × Int) (fun (j, re, im) => [(0, .slice X n xc), (3, .slice A2 k c2), (10, .slice X n xc), (11, .int .i64 n), (12, .int .i64 k), (4, .int .i64 k), (5, .int .i64 re), (6, .int .i64 im), (15, .slice X n xc), (16, .int .i64 n), (17, .int .i64 j)]) (fun (j, re, im) w' => j ≤ n ∧ (re, im) = uvL n k (uI al) no0 j ∧ w2.heap.size ≤ w'.heap.size ∧ CR 53 w' r2 A2 k c2 os ∧ SlR SX w' X n 1 (al.map IV) ∧ Ch (No) w w') (fun (j, re, im) => n - j) (0, 0, 0) ?_ ⟨rfl, rfl, rfl, rfl, rfl, rfl, rfl, rfl, rfl, rfl, rfl, trivial⟩ ?_)
    · exact ⟨(by omega), (by rfl), (Nat.le_refl _), row_2, sx_2, CH_2⟩
    rintro ⟨j, re, im⟩ w3 ⟨hj, hu, hsz3, row_3, sx_3, CH_3⟩
    show VC _ _ _ _ [(0, .slice X n xc), (3, .slice A2 k c2), (10, .slice X n xc), (11, .int .i64 n), (12, .int .i64 k), (4, .int .i64 k), (5, .int .i64 re), (6, .int .i64 im), (15, .slice X n xc), (16, .int .i64 n), (17, .int .i64 j)] _
    have hjk : 4 * (j : Int) * (k : Int) = ((4 * (j * k) : Nat) : Int) := by push_cast; rw [Int.mul_assoc]
    have hjk2 : j ≤ 4 ∧ k ≤ 4 → j * k ≤ 4 * 4 := fun h => Nat.mul_le_mul h.1 h.2
    have hjk3 := hjk2 ⟨by omega, by omega⟩
    obtain ⟨Q, hQ⟩ : ∃ Q, 4 * (j * k) / n = Q := ⟨_, rfl⟩
    have hq : 4 * (j : Int) * (k : Int) / (n : Int) = (Q : Int) := by rw [hjk, ← hQ]; norm_cast
    have hbd := uv_bd (n := n) (k := k) hU.no0 j (by omega)
    obtain ⟨hu1, hv1⟩ := uv_fst hu
    have hfj : -1099511627776 ≤ al.getD ((j : Int)).toNat 0 ∧ al.getD ((j : Int)).toNat 0 ≤ 1099511627776 := hU j
    refine VC.seq (VC.region (VO.mv (Rn.lss rfl rfl) rfl rfl rfl (VO.nil (VQ.then_code (VC.seq (VC.cond_if rfl (fun hc2 => ?_) (fun hc2 => ?_)))))))
    · skip
      refine VC.skip (VQ.then_code (VC.seq (VC.block (VC.seq (VC.region (VO.mv (Rn.move rfl) rfl rfl rfl (VO.mv (Rn.indexS Tryz.underlying36 Tryz.sizeOf3 rfl rfl (sx_3.ne (by omega)) (by omega) (by omega)) rfl rfl rfl ?_)))))))
      refine VO.mv (Rn.load Tryz.isAgg3 rfl ((sx_3).getI (by omega) (by omega))) rfl rfl rfl (VO.mv (Rn.assign rfl) rfl rfl rfl (VO.mv (Rn.assign rfl) rfl rfl rfl (VO.nil (VQ.then_code (VC.seq (VC.region (VO.mv (Rn.move rfl) rfl rfl rfl ?_)))))))
      refine VO.mv (Rn.mul rfl rfl (by rw [IntKind.wrap_i64]; omega)) rfl rfl rfl ?_
      refine VO.mv (Rn.move rfl) rfl rfl rfl ?_
      refine VO.mv (Rn.mul rfl rfl (by rw [IntKind.wrap_i64]; omega)) rfl rfl rfl ?_
      refine VO.mv (Rn.move rfl) rfl rfl rfl (VO.mv (Rn.len Tryz.underlying36 rfl) rfl rfl rfl (VO.mv (Rn.quo0 rfl rfl (by omega) (by omega) (by omega)) rfl rfl rfl (VO.mv (Rn.rem0 rfl rfl (by omega) (by omega)) rfl rfl rfl (VO.nil (VQ.then_code (VC.block (VC.seq ?_)))))))
      refine VC.region (VO.mv (Rn.eql rfl rfl) rfl rfl rfl (VO.mv (Rn.assign rfl) rfl rfl rfl (VO.nil (VQ.then_code (VC.cond_if rfl (fun hc3 => ?_) (fun hc3 => ?_))))))
      · skip
        refine VC.region (VO.mv (Rn.move rfl) rfl rfl rfl (VO.mv (Rn.move rfl) rfl rfl rfl ?_))
        refine VO.mv (Rn.add rfl rfl (by rw [IntKind.wrap_i64]; omega)) rfl rfl rfl ?_
        refine VO.mv (Rn.assign rfl) rfl rfl rfl (VO.nil (VQ.block_normal (VQ.block_normal (VQ.then_code (VC.region ?_)))))
        refine VO.mv (Rn.add rfl rfl (by rw [IntKind.wrap_i64]; omega)) rfl rfl rfl ?_
        refine VO.mv (Rn.move rfl) rfl rfl rfl (VO.nil ?_)
        refine VQ.round (j + 1, _, _) (by first | omega | (dsimp only; omega)) ?_ ⟨rfl, rfl, rfl, rfl, rfl, rfl, rfl, rfl, rfl, rfl, rfl, trivial⟩
        exact ⟨by omega, (ev0 (by rw [hQ]; omega) hu), by omega, row_3, sx_3, CH_3⟩
      · skip
        refine VC.seq (VC.region (VO.mv (Rn.eql rfl rfl) rfl rfl rfl (VO.mv (Rn.assign rfl) rfl rfl rfl (VO.nil (VQ.then_code (VC.cond_if rfl (fun hc4 => ?_) (fun hc4 => ?_)))))))
        · skip
          refine VC.region (VO.mv (Rn.move rfl) rfl rfl rfl (VO.mv (Rn.move rfl) rfl rfl rfl ?_))
          refine VO.mv (Rn.sub rfl rfl (by rw [IntKind.wrap_i64]; omega)) rfl rfl rfl ?_
          refine VO.mv (Rn.assign rfl) rfl rfl rfl (VO.nil (VQ.block_normal (VQ.block_normal (VQ.then_code (VC.region ?_)))))
          refine VO.mv (Rn.add rfl rfl (by rw [IntKind.wrap_i64]; omega)) rfl rfl rfl ?_
          refine VO.mv (Rn.move rfl) rfl rfl rfl (VO.nil ?_)
          refine VQ.round (j + 1, _, _) (by first | omega | (dsimp only; omega)) ?_ ⟨rfl, rfl, rfl, rfl, rfl, rfl, rfl, rfl, rfl, rfl, rfl, trivial⟩
          exact ⟨by omega, (ev1 (by rw [hQ]; omega) hu), by omega, row_3, sx_3, CH_3⟩
        · skip
          refine VC.seq (VC.region (VO.mv (Rn.eql rfl rfl) rfl rfl rfl (VO.mv (Rn.assign rfl) rfl rfl rfl (VO.nil (VQ.then_code (VC.cond_if rfl (fun hc5 => ?_) (fun hc5 => ?_)))))))
          · skip
            refine VC.region (VO.mv (Rn.move rfl) rfl rfl rfl (VO.mv (Rn.move rfl) rfl rfl rfl ?_))
            refine VO.mv (Rn.sub rfl rfl (by rw [IntKind.wrap_i64]; omega)) rfl rfl rfl ?_
            refine VO.mv (Rn.assign rfl) rfl rfl rfl (VO.nil (VQ.block_normal (VQ.block_normal (VQ.then_code (VC.region ?_)))))
            refine VO.mv (Rn.add rfl rfl (by rw [IntKind.wrap_i64]; omega)) rfl rfl rfl ?_
            refine VO.mv (Rn.move rfl) rfl rfl rfl (VO.nil ?_)
            refine VQ.round (j + 1, _, _) (by first | omega | (dsimp only; omega)) ?_ ⟨rfl, rfl, rfl, rfl, rfl, rfl, rfl, rfl, rfl, rfl, rfl, trivial⟩
            exact ⟨by omega, (ev2 (by rw [hQ]; omega) hu), by omega, row_3, sx_3, CH_3⟩
          · skip
            refine VC.seq (VC.region (VO.mv (Rn.eql rfl rfl) rfl rfl rfl (VO.mv (Rn.assign rfl) rfl rfl rfl (VO.nil (VQ.then_code (VC.cond_if rfl (fun hc6 => ?_) (fun hc6 => ?_)))))))
            · skip
              refine VC.region (VO.mv (Rn.move rfl) rfl rfl rfl (VO.mv (Rn.move rfl) rfl rfl rfl ?_))
              refine VO.mv (Rn.add rfl rfl (by rw [IntKind.wrap_i64]; omega)) rfl rfl rfl ?_
              refine VO.mv (Rn.assign rfl) rfl rfl rfl (VO.nil (VQ.block_normal (VQ.block_normal (VQ.then_code (VC.region ?_)))))
              refine VO.mv (Rn.add rfl rfl (by rw [IntKind.wrap_i64]; omega)) rfl rfl rfl ?_
              refine VO.mv (Rn.move rfl) rfl rfl rfl (VO.nil ?_)
              refine VQ.round (j + 1, _, _) (by first | omega | (dsimp only; omega)) ?_ ⟨rfl, rfl, rfl, rfl, rfl, rfl, rfl, rfl, rfl, rfl, rfl, trivial⟩
              exact ⟨by omega, (ev3 (by rw [hQ]; omega) hu), by omega, row_3, sx_3, CH_3⟩
            · skip
              omega
    · skip
      have ej : j = n := by omega
      rw [ej] at hu
      refine VC.exit (VQ.then_exit (VQ.then_exit (VQ.block_exit (VQ.then_code (VC.region (VO.mv (Rn.move rfl) rfl rfl rfl (VO.mv (Rn.move rfl) rfl rfl rfl ?_)))))))
      refine VO.mv (Rn.conv_if Tryz.underlying3 Tryz.underlying25 rfl) rfl rfl rfl (VO.mv (Rn.move rfl) rfl rfl rfl (VO.mv (Rn.conv_if Tryz.underlying3 Tryz.underlying25 rfl) rfl rfl rfl (VO.mv (Rn.complex rfl rfl) rfl rfl rfl (VO.wk (Wk.lit Tryz.underlying39 inf53w59 (by decide) rfl rfl (by rfl) (by decide) (by decide) (by rfl)) rfl rfl rfl ?_))))
      rintro _ w4 ⟨p4, rfl, N4⟩
      have c4 := N4.ch
      have e4 := N4.p; have z4 := N4.size
      have l57 := SlR.of_new (sz := 1) (l := 1) N4 rfl
      have l57o := Ow.of_new (sz := 1) (l := 1) N4 rfl (by decide)
      have row_4 := row_3.keep c4
      refine VO.wk (Wk.append (S := _) Tryz.underlying39 inf53w59 rfl (by decide) rfl rfl row_4 l57 (by rfl) (fun h => by simp at h) (by omega) (by simp only [maxLen]; omega)) rfl rfl rfl ?_
      rintro _ w5 ⟨r5, A5, k5, rfl, o5, c5, q5⟩
      have z5 := c5.size
      have y5 := o5.lt
      refine VO.mv (Rn.assign rfl) rfl rfl rfl (VO.nil (VQ.block_normal (VQ.then_code (VC.region ?_))))
      refine VO.mv (Rn.add rfl rfl (by rw [IntKind.wrap_i64]; omega)) rfl rfl rfl ?_
      refine VO.mv (Rn.move rfl) rfl rfl rfl (VO.nil ?_)
      refine VQ.round (k + 1, os ++ [(FloatKind.f64.nearest re, FloatKind.f64.nearest im)], r5, A5, k5) (by first | omega | (dsimp only; omega)) ?_ ⟨rfl, rfl, rfl, rfl, rfl, trivial⟩
      have sx_4 := sx_3.keep c4
      have sx_5 := sx_4.to c5 (by first | exact fun _ _ _ _ => id | (intro q h1 h2 hx h3; have := hX q h2; omega))
      have CH_4 := CH_3.and c4
      have CH_5 : Ch (No) w w5 := CH_4.then c5 (by intro q h1 h2; rcases h2 with h2 | h2 <;> first | exact h2 | (exfalso; omega) | omega)
      exact ⟨(by omega), (ho.pushI hU (by omega) hu), (by omega), (by omega), (by have h9 := o5; show Ow _ _ _ _ _ _ _ _; rw [List.map_append]; exact h9), sx_5, CH_5⟩
  · skip
    refine VC.exit (VQ.then_exit (VQ.then_exit (VQ.block_exit (VQ.then_code (VC.seq (VC.region (VO.mv (Rn.move rfl) rfl rfl rfl ?_)))))))
    refine VO.mv (Rn.assign rfl) rfl rfl rfl (VO.nil (VQ.then_code (VC.ret (VQ.ret1 rfl rfl (Ret.mk ?_)))))
    obtain rfl : k = n := by omega
    exact ⟨_, _, _, os, rfl, row_2, ⟨ho.len, ho.get⟩, hr2, CH_2⟩
set_option maxHeartbeats 1000000 in
set_option maxRecDepth 100000 in
theorem law22_cut (SX : Nat → Prop) (X : Option Addr) (m xc : Nat) (ls : List Int) (w : World) (sx : SlR SX w X m 1 (ls.map IV)) (hX : ∀ q, SX q → q < w.heap.size) (hm : 1 ≤ m) (hm2 : m ≤ 9223372036854775807) (hc0 : m ≤ xc) :
    Calls Tryz.prog 17 #[.slice X m xc] w (Ret (fun v w' => ∃ ra Aa ca rb Ab cb, v = .tuple #[.slice Aa (cutN m) ca, .slice Ab (cutN m) cb] ∧ IR 3 w' ra Aa (cutN m) ca (alM ls (cutN m)) ∧ FR 25 w' rb Ab (cutN m) cb (flM ls (cutN m)) ∧ w.heap.size < ra ∧ w.heap.size < rb ∧ Ch No w w')) := by
  refine calls_of_VC (args := [.slice X m xc]) Tryz.func17 rfl Tryz.ntmps17 rfl (VC.seq (VC.region (VO.mv (Rn.assign rfl) rfl rfl rfl (VO.mv (Rn.assign rfl) rfl rfl rfl (VO.nil (VQ.then_code (VC.seq ?_)))))))
  refine VC.region (VO.mv (Rn.assign rfl) rfl rfl rfl (VO.nil (VQ.then_code (VC.seq (VC.block (VC.loopS (σ := Nat) (fun nn => [(0, .slice X m xc), (4, .int .i64 nn)]) (fun nn w' => (nn = 1 ∨ (nn = 2 ∧ 2 ≤ m) ∨ (nn = 4 ∧ 4 ≤ m)) ∧ w.heap.size ≤ w'.heap.size ∧ SlR SX w' X m 1 (ls.map IV) ∧ Ch (No) w w') (fun nn => 4 - nn) 1 ?_ ⟨rfl, rfl, trivial⟩ ?_))))))
  · exact ⟨(.inl rfl), (Nat.le_refl _), sx, (Ch.refl (No) w)⟩
  rintro nn w1 ⟨hd, hsz1, sx_1, CH_1⟩
  show VC _ _ _ _ [(0, .slice X m xc), (4, .int .i64 nn)] _
  refine VC.seq (VC.seq (VC.region (VO.mv (Rn.move rfl) rfl rfl rfl ?_)))
  refine VO.mv (Rn.mul rfl rfl (by rw [IntKind.wrap_i64]; omega)) rfl rfl rfl ?_
  refine VO.mv (Rn.move rfl) rfl rfl rfl (VO.mv (Rn.len Tryz.underlying36 rfl) rfl rfl rfl (VO.mv (Rn.leq rfl rfl) rfl rfl rfl (VO.mv (Rn.move rfl) rfl rfl rfl ?_)))
  refine VO.andJoin (b := _) 3 14 17 rfl (fun hc1 Jhc1 => by
      try simp only [Bool.and_eq_true, Bool.or_eq_true, Bool.not_eq_true', Bool.not_eq_false', Bool.and_eq_false_iff, Bool.or_eq_false_iff, decide_eq_true_eq, decide_eq_false_iff_not] at hc1
      refine VO.mv (Rn.move rfl) rfl rfl rfl (VO.mv (Rn.lss rfl rfl) rfl rfl rfl (VO.mv (Rn.pick_true rfl rfl) rfl rfl rfl ?_))
      exact (VO.fg rfl (VO.fg rfl Jhc1))) (fun hc1 Jhc1 => by
      refine VO.skip rfl rfl rfl (VO.skip rfl rfl rfl (VO.mv (Rn.pick_false rfl rfl) rfl rfl rfl ?_))
      exact (VO.fg rfl (VO.fg rfl Jhc1))) ?_
  refine VO.nil (VQ.then_code (VC.cond rfl (fun hc2 => ?_) (fun hc2 => ?_)))
  · skip
    try simp only [Bool.and_eq_true, Bool.or_eq_true, Bool.not_eq_true', Bool.not_eq_false', Bool.and_eq_false_iff, Bool.or_eq_false_iff, decide_eq_true_eq, decide_eq_false_iff_not] at hc2
    refine VC.skip (VQ.then_code (VC.block (VC.region (VO.mv (Rn.move rfl) rfl rfl rfl ?_))))
    refine VO.mv (Rn.mul rfl rfl (by rw [IntKind.wrap_i64]; omega)) rfl rfl rfl ?_
    refine VO.mv (Rn.assign rfl) rfl rfl rfl (VO.nil (VQ.block_normal ?_))
    refine VQ.round (nn * 2) (by first | omega | (dsimp only; omega)) ?_ ⟨rfl, rfl, trivial⟩
    exact ⟨(by omega), (by omega), sx_1, CH_1⟩
  · skip
    try simp only [Bool.and_eq_true, Bool.or_eq_true, Bool.not_eq_true', Bool.not_eq_false', Bool.and_eq_false_iff, Bool.or_eq_false_iff, decide_eq_true_eq, decide_eq_false_iff_not] at hc2
    refine VC.exit (VQ.then_exit (VQ.then_exit (VQ.block_exit (VQ.then_code (VC.seq ?_)))))
    have hcn : nn = cutN m := by unfold cutN; split <;> (try split) <;> omega
    have hle : nn ≤ m ∧ nn ≤ 4 := by omega
    clear hd hc2
    refine VC.region (VO.wk (Wk.lit0 Tryz.underlying36 inf3w59) rfl rfl rfl ?_)
    rintro _ w2 ⟨p2, rfl, N2⟩
    have c2 := N2.ch
    have e2 := N2.p; have z2 := N2.size
    have l20o := Ow.of_new (cs := []) (sz := 1) (l := 0) N2 rfl (by decide)
    refine VO.wk (Wk.lit0 Tryz.underlying27 inf25w59) rfl rfl rfl ?_
    rintro _ w3 ⟨p3, rfl, N3⟩
    have c3 := N3.ch
    have e3 := N3.p; have z3 := N3.size
    have l21o := Ow.of_new (cs := []) (sz := 1) (l := 0) N3 rfl (by decide)
    refine VO.mv (Rn.assign rfl) rfl rfl rfl (VO.mv (Rn.assign rfl) rfl rfl rfl (VO.nil (VQ.then_code (VC.seq (VC.seq ?_)))))
    have sx_3 := sx_1.keep (c2.trans c3)
    have sb := (sx_3).hiI hle.1
    refine VC.region (VO.mv (Rn.move rfl) rfl rfl rfl (VO.mv (Rn.move rfl) rfl rfl rfl (VO.mv (Rn.sliceHi Tryz.underlying36 Tryz.sizeOf3 rfl rfl (by omega) (by omega)) rfl rfl rfl (VO.mv (Rn.len Tryz.underlying36 rfl) rfl rfl rfl (VO.mv (Rn.move rfl) rfl rfl rfl (VO.nil (VQ.then_code ?_)))))))
    refine VC.block ?_
    have l20o_3 := l20o.keep c3
    have CH_3 := CH_1.and (c2.trans c3)
    refine VC.loopS (σ := Nat × Nat × Option Addr × Nat × Nat × Option Addr × Nat) (fun (j, r1, A1, c1, r2, A2, c2) => [(5, .slice A1 j c1), (6, .slice A2 j c2), (24, .slice X nn xc), (25, .int .i64 nn), (26, .int .i64 j)]) (fun (j, r1, A1, c1, r2, A2, c2) w' => j ≤ nn ∧ w.heap.size < r1 ∧ w.heap.size < r2 ∧ ¬ r1 = r2 ∧ w3.heap.size ≤ w'.heap.size ∧ Ow w' r1 3 1 A1 j c1 ((alM ls j).map IV) ∧ Ow w' r2 25 1 A2 j c2 ((flM ls j).map flV) ∧ SlR SX w' X nn 1 ((ls.take nn).map IV) ∧ Ch (No) w w') (fun (j, r1, A1, c1, r2, A2, c2) => nn - j) (0, (p2 + 1), (some ⟨p2, 0, none⟩), 0, (p3 + 1), (some ⟨p3, 0, none⟩), 0) ?_ ⟨rfl, rfl, rfl, rfl, rfl, trivial⟩ ?_
    · exact ⟨(by omega), (by omega), (by omega), (by omega), (Nat.le_refl _), l20o_3, l21o, sb, CH_3⟩
    rintro ⟨j, r1, A1, c1, r2, A2, c2⟩ w4 ⟨hj, hr1, hr2, hr3, hsz4, ra_4, rb_4, sb_4, CH_4⟩
    show VC _ _ _ _ [(5, .slice A1 j c1), (6, .slice A2 j c2), (24, .slice X nn xc), (25, .int .i64 nn), (26, .int .i64 j)] _
    have yra9 := Ow.lt ra_4; have yrb9 := Ow.lt rb_4
    refine VC.seq (VC.region (VO.mv (Rn.lss rfl rfl) rfl rfl rfl (VO.nil (VQ.then_code (VC.seq (VC.cond_if rfl (fun hc3 => ?_) (fun hc3 => ?_)))))))
    · skip
      refine VC.skip (VQ.then_code (VC.seq (VC.block (VC.seq (VC.region (VO.mv (Rn.indexS Tryz.underlying36 Tryz.sizeOf3 rfl rfl (sb_4.ne (by omega)) (by omega) (by omega)) rfl rfl rfl (VO.mv (Rn.load Tryz.isAgg3 rfl ((sb_4).getI (by omega) (by omega))) rfl rfl rfl ?_)))))))
      refine VO.mv (Rn.assign rfl) rfl rfl rfl (VO.nil (VQ.then_code (VC.seq (VC.region (VO.mv (Rn.move rfl) rfl rfl rfl (VO.mv (Rn.rem rfl rfl (by decide)) rfl rfl rfl (VO.mv (Rn.assign rfl) rfl rfl rfl ?_)))))))
      refine VO.nil (VQ.then_code (VC.seq (VC.region (VO.mv (Rn.move rfl) rfl rfl rfl (VO.mv (Rn.move rfl) rfl rfl rfl (VO.wk (Wk.lit Tryz.underlying36 inf3w59 (by decide) rfl rfl (by rfl) (by decide) (by decide) (by rfl)) rfl rfl rfl ?_))))))
      rintro _ w5 ⟨p5, rfl, N5⟩
      have c5 := N5.ch
      have e5 := N5.p; have z5 := N5.size
      have l34 := SlR.of_new (sz := 1) (l := 1) N5 rfl
      have l34o := Ow.of_new (sz := 1) (l := 1) N5 rfl (by decide)
      have ra_5 := ra_4.keep c5
      refine VO.wk (Wk.append (S := _) Tryz.underlying36 inf3w59 rfl (by decide) rfl rfl ra_5 l34 (by rfl) (fun h => by simp at h) (by omega) (by simp only [maxLen]; omega)) rfl rfl rfl ?_
      rintro _ w6 ⟨r6, A6, k6, rfl, o6, c6, q6⟩
      have z6 := c6.size
      have y6 := o6.lt
      refine VO.mv (Rn.assign rfl) rfl rfl rfl (VO.nil (VQ.then_code (VC.region (VO.mv (Rn.move rfl) rfl rfl rfl (VO.mv (Rn.move rfl) rfl rfl rfl (VO.mv (Rn.conv_if Tryz.underlying3 Tryz.underlying25 rfl) rfl rfl rfl (VO.wk (Wk.lit Tryz.underlying27 inf25w59 (by decide) rfl rfl (by rfl) (by decide) (by decide) (by rfl)) rfl rfl rfl ?_)))))))
      rintro _ w7 ⟨p7, rfl, N7⟩
      have c7 := N7.ch
      have e7 := N7.p; have z7 := N7.size
      have l39 := SlR.of_new (sz := 1) (l := 1) N7 rfl
      have l39o := Ow.of_new (sz := 1) (l := 1) N7 rfl (by decide)
      have rb_5 := rb_4.keep c5
      have rb_6 := rb_5.to c6 (by first | exact fun _ _ _ _ => id | (intro q h1 h2 hx h3; omega))
      have rb_7 := rb_6.keep c7
      refine VO.wk (Wk.append (S := _) Tryz.underlying27 inf25w59 rfl (by decide) rfl rfl rb_7 l39 (by rfl) (fun h => by simp at h) (by omega) (by simp only [maxLen]; omega)) rfl rfl rfl ?_
      rintro _ w8 ⟨r8, A8, k8, rfl, o8, c8, q8⟩
      have z8 := c8.size
      have y8 := o8.lt
      refine VO.mv (Rn.assign rfl) rfl rfl rfl (VO.nil (VQ.block_normal (VQ.then_code (VC.region ?_))))
      refine VO.mv (Rn.add rfl rfl (by rw [IntKind.wrap_i64]; omega)) rfl rfl rfl ?_
      refine VO.mv (Rn.move rfl) rfl rfl rfl (VO.nil ?_)
      refine VQ.round (j + 1, r6, A6, k6, r8, A8, k8) (by first | omega | (dsimp only; omega)) ?_ ⟨rfl, rfl, rfl, rfl, rfl, trivial⟩
      have ra_7 := o6.keep c7
      have ra_8 := ra_7.to c8 (by first | exact fun _ _ _ _ => id | (intro q h1 h2 hx h3; omega))
      have sb_5 := sb_4.keep c5
      have sb_6 := sb_5.to c6 (by first | exact fun _ _ _ _ => id | (intro q h1 h2 hx h3; have := hX q h2; omega))
      have sb_7 := sb_6.keep c7
      have sb_8 := sb_7.to c8 (by first | exact fun _ _ _ _ => id | (intro q h1 h2 hx h3; have := hX q h2; omega))
      have CH_5 := CH_4.and c5
      have CH_6 : Ch (No) w w6 := CH_5.then c6 (by intro q h1 h2; rcases h2 with h2 | h2 <;> first | exact h2 | (exfalso; omega) | omega)
      have CH_7 := CH_6.and c7
      have CH_8 : Ch (No) w w8 := CH_7.then c8 (by intro q h1 h2; rcases h2 with h2 | h2 <;> first | exact h2 | (exfalso; omega) | omega)
      exact ⟨(by omega), (by omega), (by omega), (by omega), (by omega), (by rw [alM_succ]; have h9 := ra_8; rw [Int.toNat_natCast, take_getDI (by omega)] at h9; exact h9), (by rw [flM_succ]; have h9 := o8; rw [Int.toNat_natCast, take_getDI (by omega)] at h9; exact h9), sb_8, CH_8⟩
    · skip
      refine VC.exit (VQ.then_exit (VQ.then_exit (VQ.block_exit (VQ.then_code (VC.seq (VC.region (VO.mv (Rn.move rfl) rfl rfl rfl ?_)))))))
      refine VO.mv (Rn.move rfl) rfl rfl rfl (VO.mv (Rn.assign rfl) rfl rfl rfl (VO.mv (Rn.assign rfl) rfl rfl rfl (VO.nil (VQ.then_code (VC.ret (VQ.ret2 rfl rfl rfl (Ret.mk ?_)))))))
      obtain rfl : j = nn := by omega
      subst hcn
      exact ⟨_, _, _, _, _, _, rfl, ra_4, rb_4, hr1, hr2, CH_4⟩
end Go.Tm
namespace Go.Tm
open Go.RowKit Go.Proofs
theorem cutN_bd (m : Nat) : 1 ≤ cutN m ∧ cutN m ≤ 4 ∧ cutN m / 2 + 1 ≤ cutN m := by unfold cutN; split; decide; split; decide; decide
theorem half_ForwardL (n : Nat) (hn : N3 n) (SX : Nat → Prop) (X : Option Addr) (xc : Nat) (us : Nat → Int) (xs : List Nat) (w : World) (sx : SlR SX w X n 1 (xs.map flV)) (hX : ∀ q, SX q → q < w.heap.size) (hu : U40 us) (hx : FlsOk n us xs) (st : StT w) (tab : TabB w.heap.size w) (hG : 12 ≤ w.heap.size) :
    Calls Tryz.prog 18 #[.slice X n xc] w (Ret fun v w' => ∃ q zs, v = .tuple #[.slice (some ⟨q, 0, none⟩) (n / 2 + 1) (n / 2 + 1), .nilIface] ∧ CR 53 w' (q + 1) (some ⟨q, 0, none⟩) (n / 2 + 1) (n / 2 + 1) zs ∧ HalfOk n us zs ∧ w.heap.size ≤ q ∧ Ch No w w') := by
  rcases hn.h with rfl | rfl | rfl
  · exact half_Forward1 SX X xc us xs w sx hX hu hx st tab hG
  · exact half_Forward2 SX X xc us xs w sx hX hu hx st tab hG
  · exact half_Forward4 SX X xc us xs w sx hX hu hx st tab hG
theorem half_InverseL (n : Nat) (hn : N3 n) (SX : Nat → Prop) (X : Option Addr) (xc : Nat) (us : Nat → Int) (zs : List CB) (w : World) (sx : SlR SX w X (n / 2 + 1) 1 (zs.map cxV)) (hX : ∀ q, SX q → q < w.heap.size) (hu : U40 us) (hf : HalfOk n us zs) (st : StT w) (tab : TabB w.heap.size w) (hG : 12 ≤ w.heap.size) :
    Calls Tryz.prog 21 #[.slice X (n / 2 + 1) xc] w (Ret fun v w' => ∃ r A k os, v = .tuple #[.slice A n k, .nilIface] ∧ FR 25 w' r A n k os ∧ FlsOk n us os ∧ w.heap.size < r ∧ Ch No w w') := by
  rcases hn.h with rfl | rfl | rfl
  · exact half_Inverse1 SX X xc us zs w sx hX hu hf st tab hG
  · exact half_Inverse2 SX X xc us zs w sx hX hu hf st tab hG
  · exact half_Inverse4 SX X xc us zs w sx hX hu hf st tab hG
theorem half_FullL (n : Nat) (hn : N3 n) (SX : Nat → Prop) (X : Option Addr) (xc : Nat) (us : Nat → Int) (zs : List CB) (w : World) (sx : SlR SX w X (n / 2 + 1) 1 (zs.map cxV)) (hX : ∀ q, SX q → q < w.heap.size) (hu : U40 us) (hf : HalfOk n us zs) :
    Calls Tryz.prog 22 #[.slice X (n / 2 + 1) xc] w (Ret fun v w' => ∃ r A k os, v = .tuple #[.slice A n k, .nilIface] ∧ CR 53 w' r A n k os ∧ CxsOk n us os ∧ w.heap.size < r ∧ Ch No w w') := by
  rcases hn.h with rfl | rfl | rfl
  · exact half_Full1 SX X xc us zs w sx hX hu hf
  · exact half_Full2 SX X xc us zs w sx hX hu hf
  · exact half_Full4 SX X xc us zs w sx hX hu hf
set_option maxRecDepth 100000 in
theorem inf25w60 : Inf Tryz.prog 25 (.float .f64 0) 1 8 := ⟨Tryz.t25, Tryz.type25, rfl, rfl, rfl⟩
set_option maxRecDepth 100000 in
theorem inf53w60 : Inf Tryz.prog 53 (.complex .f64 0 0) 1 16 := ⟨Tryz.t53, Tryz.type53, rfl, rfl, rfl⟩
set_option maxHeartbeats 1000000 in
set_option maxRecDepth 100000 in
theorem law22_lives (w : World) (st : StT w) (tab : TabB w.heap.size w) (hG : 12 ≤ w.heap.size) :
    Calls Tryz.prog 16 #[] w (Ret (fun v w' => v = .bool true ∧ Ch No w w')) := by
  refine calls_of_VC (args := []) Tryz.func16 rfl Tryz.ntmps16 rfl (VC.seq (VC.region (VO.mv (Rn.assign rfl) rfl rfl rfl (VO.nil (VQ.then_code (VC.seq (VC.region ?_)))))))
  refine VO.wk (Wk.lit Tryz.underlying27 inf25w60 (by decide) rfl rfl (by rfl) (by decide) (by decide) (by rfl)) rfl rfl rfl ?_
  rintro _ w1 ⟨p1, rfl, N1⟩
  have c1 := N1.ch
  have e1 := N1.p; have z1 := N1.size
  have l6 := SlR.of_new (sz := 1) (l := 4) N1 rfl
  have l6o := Ow.of_new (sz := 1) (l := 4) N1 rfl (by decide)
  have st_1 := st.keep c1
  have tab_1 := tab.keep c1
  refine VO.wk (Wk.call Tryz.call18 rfl (half_Forward4 _ _ _ u4 L4f _ l6 (fun q hq => by omega) u4_bd l4_ok st_1 ((tab_1).up (by omega)) (by omega))) rfl rfl rfl ?_
  rintro _ w2 ⟨q2, hz2, rfl, hf2, hok2, e2, c2⟩
  have ylhf2 := Ow.lt hf2
  have z2 := c2.size
  refine VO.mv (Rn.move rfl) rfl rfl rfl (VO.mv (Rn.extract rfl rfl) rfl rfl rfl (VO.mv (Rn.extract rfl rfl) rfl rfl rfl (VO.mv (Rn.assign rfl) rfl rfl rfl (VO.mv (Rn.assign rfl) rfl rfl rfl (VO.nil (VQ.then_code (VC.seq ?_)))))))
  refine VC.region (VO.wk (Wk.lit Tryz.underlying39 inf53w60 (by decide) rfl rfl (by rfl) (by decide) (by decide) (by rfl)) rfl rfl rfl ?_)
  rintro _ w3 ⟨p3, rfl, N3⟩
  have c3 := N3.ch
  have e3 := N3.p; have z3 := N3.size
  have l11 := SlR.of_new (sz := 1) (l := 3) N3 rfl
  have l11o := Ow.of_new (sz := 1) (l := 3) N3 rfl (by decide)
  have st_3 := st_1.keep (c2.trans c3)
  have tab_3 := tab_1.keep (c2.trans c3)
  refine VO.wk (Wk.call Tryz.call21 rfl (half_Inverse4 _ _ _ u4 L3c _ l11 (fun q hq => by omega) u4_bd l3_ok st_3 ((tab_3).up (by omega)) (by omega))) rfl rfl rfl ?_
  rintro _ w4 ⟨r4, A4, k4, fs4, rfl, bk4, hfl4, yr4, c4⟩
  have ylbk4 := Ow.lt bk4
  have z4 := c4.size
  refine VO.mv (Rn.move rfl) rfl rfl rfl (VO.mv (Rn.extract rfl rfl) rfl rfl rfl (VO.mv (Rn.extract rfl rfl) rfl rfl rfl (VO.mv (Rn.assign rfl) rfl rfl rfl (VO.mv (Rn.assign rfl) rfl rfl rfl (VO.nil (VQ.then_code (VC.seq ?_)))))))
  refine VC.region (VO.mv (Rn.move rfl) rfl rfl rfl (VO.mv (Rn.nil_eql_nil Tryz.underlying29 rfl) rfl rfl rfl (VO.mv (Rn.move rfl) rfl rfl rfl (VO.mv (Rn.move rfl) rfl rfl rfl (VO.mv (Rn.nil_eql_nil Tryz.underlying29 rfl) rfl rfl rfl (VO.mv (Rn.pick_true rfl rfl) rfl rfl rfl (VO.mv (Rn.move rfl) rfl rfl rfl ?_)))))))
  refine VO.mv (Rn.move rfl) rfl rfl rfl (VO.wk (Wk.lit Tryz.underlying39 inf53w60 (by decide) rfl rfl (by rfl) (by decide) (by decide) (by rfl)) rfl rfl rfl ?_)
  rintro _ w5 ⟨p5, rfl, N5⟩
  have c5 := N5.ch
  have e5 := N5.p; have z5 := N5.size
  have l23 := SlR.of_new (sz := 1) (l := 3) N5 rfl
  have l23o := Ow.of_new (sz := 1) (l := 3) N5 rfl (by decide)
  have hf_5 := hf2.keep (c3.trans (c4.trans c5))
  refine VO.wk (Wk.call Tryz.call19 rfl (hand_Equal _ _ _ _ _ _ _ _ hz2 L3c _ (hf_5).sl l23 rfl (by omega) (fun j hj => ceq_of u4_bd (by omega) (hok2.get j (by omega)) (l3_ok.get j (by omega))))) rfl rfl rfl ?_
  rintro _ w6 ⟨rfl, c6⟩
  have z6 := c6.size
  refine VO.mv (Rn.pick_true rfl rfl) rfl rfl rfl (VO.mv (Rn.move rfl) rfl rfl rfl (VO.mv (Rn.move rfl) rfl rfl rfl (VO.mv (Rn.len Tryz.underlying27 rfl) rfl rfl rfl (VO.mv (Rn.eql rfl rfl) rfl rfl rfl (VO.mv (Rn.pick_true rfl rfl) rfl rfl rfl (VO.mv (Rn.move rfl) rfl rfl rfl ?_))))))
  refine VO.andJoin (b := _) 5 31 36 rfl (fun hc1 Jhc1 => by
      try simp only [Bool.and_eq_true, Bool.or_eq_true, Bool.not_eq_true', Bool.not_eq_false', Bool.and_eq_false_iff, Bool.or_eq_false_iff, decide_eq_true_eq, decide_eq_false_iff_not] at hc1
      refine VO.mv (Rn.move rfl) rfl rfl rfl ?_
      have bk_6 := bk4.keep (c5.trans c6)
      refine VO.mv (Rn.indexS Tryz.underlying27 Tryz.sizeOf25 rfl rfl (bk_6.sl.ne (by omega)) (by omega) (by omega)) rfl rfl rfl (VO.mv (Rn.load Tryz.isAgg25 rfl (bk_6.sl.getF (by omega) (by omega))) rfl rfl rfl (VO.mv (Rn.feqlT rfl rfl (feq_wh (hfl4.get 0 (by decide)) (a := u4 0) ⟨false, by kernel_rfl, by decide⟩ (by decide) (by decide))) rfl rfl rfl (VO.mv (Rn.pick_true rfl rfl) rfl rfl rfl ?_)))
      exact (VO.fg rfl (VO.fg rfl (VO.fg rfl (VO.fg rfl Jhc1))))) (fun hc1 Jhc1 => by
      refine VO.skip rfl rfl rfl (VO.skip rfl rfl rfl (VO.skip rfl rfl rfl (VO.skip rfl rfl rfl (VO.mv (Rn.pick_false rfl rfl) rfl rfl rfl ?_))))
      exact (VO.fg rfl (VO.fg rfl (VO.fg rfl (VO.fg rfl Jhc1))))) ?_
  refine VO.mv (Rn.move rfl) rfl rfl rfl ?_
  refine VO.andJoin (b := _) 5 37 42 rfl (fun hc2 Jhc2 => by
      try simp only [Bool.and_eq_true, Bool.or_eq_true, Bool.not_eq_true', Bool.not_eq_false', Bool.and_eq_false_iff, Bool.or_eq_false_iff, decide_eq_true_eq, decide_eq_false_iff_not] at hc2
      refine VO.mv (Rn.move rfl) rfl rfl rfl ?_
      have bk_6 := bk4.keep (c5.trans c6)
      refine VO.mv (Rn.indexS Tryz.underlying27 Tryz.sizeOf25 rfl rfl (bk_6.sl.ne (by omega)) (by omega) (by omega)) rfl rfl rfl (VO.mv (Rn.load Tryz.isAgg25 rfl (bk_6.sl.getF (by omega) (by omega))) rfl rfl rfl (VO.mv (Rn.feqlT rfl rfl (feq_wh (hfl4.get 3 (by decide)) (a := u4 3) ⟨false, by kernel_rfl, by decide⟩ (by decide) (by decide))) rfl rfl rfl (VO.mv (Rn.pick_true rfl rfl) rfl rfl rfl ?_)))
      exact (VO.fg rfl (VO.fg rfl (VO.fg rfl (VO.fg rfl Jhc2))))) (fun hc2 Jhc2 => by
      refine VO.skip rfl rfl rfl (VO.skip rfl rfl rfl (VO.skip rfl rfl rfl (VO.skip rfl rfl rfl (VO.mv (Rn.pick_false rfl rfl) rfl rfl rfl ?_))))
      exact (VO.fg rfl (VO.fg rfl (VO.fg rfl (VO.fg rfl Jhc2))))) ?_
  refine VO.mv (Rn.assign rfl) rfl rfl rfl (VO.nil (VQ.then_code (VC.ret (VQ.ret1 rfl rfl (Ret.mk ?_)))))
  have CH_6 := (Ch.refl (No) w).and (c1.trans (c2.trans (c3.trans (c4.trans (c5.trans c6)))))
  exact ⟨rfl, CH_6⟩
set_option maxHeartbeats 2000000 in
set_option maxRecDepth 100000 in
theorem law_HalfWhole (SX : Nat → Prop) (X Y : Option Addr) (m m2 xc yc : Nat) (ls qs : List Int) (w : World) (sx : SlR SX w X m 1 (ls.map IV)) (sy : SlR SX w Y m2 1 (qs.map IV)) (hX : ∀ q, SX q → q < w.heap.size) (hm : m ≤ 9223372036854775807) (hm2 : m2 ≤ 9223372036854775807) (hcx : m ≤ xc) (hcy : m2 ≤ yc) (st : StT w) (tab : TabB w.heap.size w) (hG : 12 ≤ w.heap.size) :
    Calls Tryz.prog 4 #[.slice X m xc, .slice Y m2 yc] w (Ret (fun v w' => v = .bool true ∧ Ch No w w')) := by
  have hn3 := cutN3 m
  obtain ⟨hn1, hn4, hnh⟩ := cutN_bd m
  refine calls_of_VC (args := [.slice X m xc, .slice Y m2 yc]) Tryz.func4 rfl Tryz.ntmps4 rfl (VC.seq (VC.region (VO.mv (Rn.assign rfl) rfl rfl rfl (VO.nil (VQ.then_code (VC.seq (VC.region ?_)))))))
  refine VO.wk (Wk.call Tryz.call16 rfl (law22_lives _ st ((tab).up (by omega)) (by omega))) rfl rfl rfl ?_
  rintro _ w1 ⟨rfl, c1⟩
  have z1 := c1.size
  refine VO.mv (Rn.assign rfl) rfl rfl rfl (VO.nil (VQ.then_code (VC.seq (VC.seq (VC.region (VO.mv (Rn.move rfl) rfl rfl rfl (VO.mv (Rn.not rfl) rfl rfl rfl ?_)))))))
  refine VO.mv (Rn.move rfl) rfl rfl rfl (VO.mv (Rn.move rfl) rfl rfl rfl (VO.mv (Rn.len Tryz.underlying36 rfl) rfl rfl rfl (VO.mv (Rn.eql rfl rfl) rfl rfl rfl (VO.mv (Rn.pick_false rfl rfl) rfl rfl rfl (VO.mv (Rn.move rfl) rfl rfl rfl ?_)))))
  refine VO.orJoin (b := _) 6 27 33 rfl (fun hc1 Jhc1 => by
      refine VO.skip rfl rfl rfl (VO.skip rfl rfl rfl (VO.skip rfl rfl rfl (VO.skip rfl rfl rfl (VO.skip rfl rfl rfl (VO.mv (Rn.pick_true rfl rfl) rfl rfl rfl ?_)))))
      exact (VO.fg rfl (VO.fg rfl (VO.fg rfl (VO.fg rfl (VO.fg rfl Jhc1)))))) (fun hc1 Jhc1 => by
      try simp only [Bool.and_eq_true, Bool.or_eq_true, Bool.not_eq_true', Bool.not_eq_false', Bool.and_eq_false_iff, Bool.or_eq_false_iff, decide_eq_true_eq, decide_eq_false_iff_not] at hc1
      refine VO.mv (Rn.move rfl) rfl rfl rfl (VO.mv (Rn.len Tryz.underlying36 rfl) rfl rfl rfl (VO.mv (Rn.move rfl) rfl rfl rfl (VO.mv (Rn.len Tryz.underlying36 rfl) rfl rfl rfl (VO.mv (Rn.lss rfl rfl) rfl rfl rfl (VO.mv (Rn.pick_false rfl rfl) rfl rfl rfl ?_)))))
      exact (VO.fg rfl (VO.fg rfl (VO.fg rfl (VO.fg rfl (VO.fg rfl Jhc1)))))) ?_
  refine VO.nil (VQ.then_code (VC.cond rfl (fun hc2 => ?_) (fun hc2 => ?_)))
  · skip
    try simp only [Bool.and_eq_true, Bool.or_eq_true, Bool.not_eq_true', Bool.not_eq_false', Bool.and_eq_false_iff, Bool.or_eq_false_iff, decide_eq_true_eq, decide_eq_false_iff_not] at hc2
    refine VC.seq (VC.region (VO.mv (Rn.move rfl) rfl rfl rfl (VO.mv (Rn.assign rfl) rfl rfl rfl (VO.nil (VQ.then_code (VC.ret (VQ.then_ret ?_)))))))
    refine VQ.ret1 rfl rfl (Ret.mk ?_)
    have CH_1 := (Ch.refl (No) w).and c1
    exact ⟨rfl, CH_1⟩
  · skip
    try simp only [Bool.and_eq_true, Bool.or_eq_true, Bool.not_eq_true', Bool.not_eq_false', Bool.and_eq_false_iff, Bool.or_eq_false_iff, decide_eq_true_eq, decide_eq_false_iff_not] at hc2
    refine VC.skip (VQ.then_code (VC.seq (VC.region (VO.mv (Rn.move rfl) rfl rfl rfl ?_))))
    have sx_1 := sx.keep c1
    refine VO.wk (Wk.call Tryz.call17 rfl (law22_cut SX X m xc ls _ sx_1 (fun q hq => by have := hX q hq; omega) (by omega) hm hcx)) rfl rfl rfl ?_
    rintro _ w2 ⟨ra2, Aa2, ca2, rb2, Ab2, cb2, rfl, ia2, xa2, ya2, yb2, c2⟩
    have ylia2 := Ow.lt ia2
    have ylxa2 := Ow.lt xa2
    have z2 := c2.size
    refine VO.mv (Rn.move rfl) rfl rfl rfl (VO.mv (Rn.extract rfl rfl) rfl rfl rfl (VO.mv (Rn.extract rfl rfl) rfl rfl rfl (VO.mv (Rn.assign rfl) rfl rfl rfl (VO.mv (Rn.assign rfl) rfl rfl rfl (VO.nil (VQ.then_code (VC.seq ?_)))))))
    have sy_2 := sy.keep (c1.trans c2)
    have sq := (sy_2).hiI (i := m) (by omega)
    refine VC.region (VO.mv (Rn.move rfl) rfl rfl rfl (VO.mv (Rn.move rfl) rfl rfl rfl (VO.mv (Rn.len Tryz.underlying36 rfl) rfl rfl rfl (VO.mv (Rn.sliceHi Tryz.underlying36 Tryz.sizeOf3 rfl rfl (by omega) (by omega)) rfl rfl rfl ?_))))
    refine VO.wk (Wk.call Tryz.call17 rfl (law22_cut SX Y m yc (qs.take m) _ sq (fun q hq => by have := hX q hq; omega) (by omega) hm (by omega))) rfl rfl rfl ?_
    rintro _ w3 ⟨ra3, Aa3, ca3, rb3, Ab3, cb3, rfl, ib3, xb3, ya3, yb3, c3⟩
    have ylib3 := Ow.lt ib3
    have ylxb3 := Ow.lt xb3
    have z3 := c3.size
    refine VO.mv (Rn.move rfl) rfl rfl rfl (VO.mv (Rn.extract rfl rfl) rfl rfl rfl (VO.mv (Rn.extract rfl rfl) rfl rfl rfl (VO.mv (Rn.assign rfl) rfl rfl rfl (VO.mv (Rn.assign rfl) rfl rfl rfl (VO.nil (VQ.then_code (VC.seq ?_)))))))
    refine VC.region (VO.mv (Rn.move rfl) rfl rfl rfl (VO.mv (Rn.len Tryz.underlying36 rfl) rfl rfl rfl (VO.mv (Rn.assign rfl) rfl rfl rfl (VO.nil (VQ.then_code (VC.seq (VC.region ?_)))))))
    refine VO.mv (Rn.move rfl) rfl rfl rfl ?_
    have xa_3 := xa2.keep c3
    have st_3 := st.keep (c1.trans (c2.trans c3))
    have tab_3 := tab.keep (c1.trans (c2.trans c3))
    refine VO.wk (Wk.call Tryz.call18 rfl (half_ForwardL (cutN m) hn3 _ _ _ (uI (alM ls (cutN m))) (flM ls (cutN m)) _ (xa_3).sl (fun q hq => by omega) (alM_bd _ _) (flM_ok _ _) st_3 ((tab_3).up (by omega)) (by omega))) rfl rfl rfl ?_
    rintro _ w4 ⟨q4, hz4, rfl, hf4, hok4, e4, c4⟩
    have ylhf4 := Ow.lt hf4
    have z4 := c4.size
    obtain ⟨hzF, hzE⟩ : ∃ z, z = hz4 := ⟨_, rfl⟩
    rw [← hzE] at hf4 hok4
    have hokF := hok4
    refine VO.mv (Rn.move rfl) rfl rfl rfl (VO.mv (Rn.extract rfl rfl) rfl rfl rfl (VO.mv (Rn.extract rfl rfl) rfl rfl rfl (VO.mv (Rn.assign rfl) rfl rfl rfl (VO.mv (Rn.assign rfl) rfl rfl rfl (VO.nil (VQ.then_code (VC.seq ?_)))))))
    refine VC.seq (VC.region (VO.mv (Rn.move rfl) rfl rfl rfl (VO.mv (Rn.nil_neq_nil Tryz.underlying29 rfl) rfl rfl rfl (VO.mv (Rn.move rfl) rfl rfl rfl (VO.mv (Rn.move rfl) rfl rfl rfl (VO.mv (Rn.move rfl) rfl rfl rfl ?_))))))
    have ia_4 := ia2.keep (c3.trans c4)
    refine VO.wk (Wk.call Tryz.call20 rfl (law22_exactly _ _ (cutN m) _ (alM ls (cutN m)) _ (ia_4).sl (fun q hq => by omega) (alM_bd _ _) (by omega))) rfl rfl rfl ?_
    rintro _ w5 ⟨r5, A5, k5, os5, rfl, e05, hex5, yr5, c5⟩
    have yle05 := Ow.lt e05
    have z5 := c5.size
    have hcE := Ow.cap e05 (by omega)
    have se := (e05).sl.hiC (i := ((((cutN m : Nat) : Int) / 2 + 1).toNat)) (by omega)
    have hexE := hex5
    refine VO.mv (Rn.move rfl) rfl rfl rfl (VO.mv (Rn.quo0 rfl rfl (by omega) (by omega) (by omega)) rfl rfl rfl ?_)
    refine VO.mv (Rn.add rfl rfl (by rw [IntKind.wrap_i64]; omega)) rfl rfl rfl ?_
    refine VO.mv (Rn.sliceHi Tryz.underlying39 Tryz.sizeOf53 rfl rfl (by omega) (by omega)) rfl rfl rfl ?_
    have hf_5 := hf4.keep c5
    refine VO.wk (Wk.call Tryz.call19 rfl (hand_Equal _ _ _ _ _ _ _ _ hzF _ _ (hf_5).sl se (by omega) (by omega) (fun j hj => ceq_of (alM_bd _ _) (by omega) (hokF.get j (by omega)) (by rw [take_getDC (by omega)]; exact hexE.get j (by omega))))) rfl rfl rfl ?_
    rintro _ w6 ⟨rfl, c6⟩
    have z6 := c6.size
    refine VO.mv (Rn.not rfl) rfl rfl rfl (VO.mv (Rn.pick_false rfl rfl) rfl rfl rfl (VO.nil (VQ.then_code (VC.cond_false rfl (VC.skip (VQ.then_code (VC.seq ?_)))))))
    refine VC.region (VO.mv (Rn.move rfl) rfl rfl rfl ?_)
    have hf_6 := hf_5.keep c6
    have st_6 := st_3.keep (c4.trans (c5.trans c6))
    have tab_6 := tab_3.keep (c4.trans (c5.trans c6))
    refine VO.wk (Wk.call Tryz.call21 rfl (half_InverseL (cutN m) hn3 _ _ _ (uI (alM ls (cutN m))) hzF _ (hf_6).sl (fun q hq => by omega) (alM_bd _ _) hokF st_6 ((tab_6).up (by omega)) (by omega))) rfl rfl rfl ?_
    rintro _ w7 ⟨r7, A7, k7, fs7, rfl, bk7, hfl7, yr7, c7⟩
    have ylbk7 := Ow.lt bk7
    have z7 := c7.size
    obtain ⟨fsB, hfE⟩ : ∃ z, z = fs7 := ⟨_, rfl⟩
    rw [← hfE] at bk7 hfl7
    have hflB := hfl7
    have ylk := Ow.lt bk7
    refine VO.mv (Rn.move rfl) rfl rfl rfl (VO.mv (Rn.extract rfl rfl) rfl rfl rfl (VO.mv (Rn.extract rfl rfl) rfl rfl rfl (VO.mv (Rn.assign rfl) rfl rfl rfl (VO.mv (Rn.assign rfl) rfl rfl rfl (VO.nil (VQ.then_code (VC.seq ?_)))))))
    refine VC.seq (VC.region (VO.mv (Rn.move rfl) rfl rfl rfl (VO.mv (Rn.nil_neq_nil Tryz.underlying29 rfl) rfl rfl rfl (VO.mv (Rn.move rfl) rfl rfl rfl (VO.mv (Rn.move rfl) rfl rfl rfl (VO.mv (Rn.len Tryz.underlying27 rfl) rfl rfl rfl (VO.mv (Rn.move rfl) rfl rfl rfl ?_)))))))
    refine VO.mv (Rn.neqF rfl rfl rfl) rfl rfl rfl (VO.mv (Rn.pick_false rfl rfl) rfl rfl rfl (VO.nil (VQ.then_code (VC.cond_false rfl (VC.skip (VQ.then_code (VC.seq ?_)))))))
    refine VC.seq (VC.region (VO.mv (Rn.move rfl) rfl rfl rfl (VO.mv (Rn.len Tryz.underlying27 rfl) rfl rfl rfl (VO.mv (Rn.move rfl) rfl rfl rfl (VO.nil (VQ.then_code (VC.block ?_)))))))
    have ia_7 := ia_4.keep (c5.trans (c6.trans c7))
    have xa_7 := xa_3.keep (c4.trans (c5.trans (c6.trans c7)))
    have ib_7 := ib3.keep (c4.trans (c5.trans (c6.trans c7)))
    have xb_7 := xb3.keep (c4.trans (c5.trans (c6.trans c7)))
    have hf_7 := hf_6.keep c7
    have st_7 := st_6.keep c7
    have tab_7 := tab_6.keep c7
    have CH_7 := (Ch.refl (No) w).and (c1.trans (c2.trans (c3.trans (c4.trans (c5.trans (c6.trans c7))))))
    refine VC.loopS (σ := Nat) (fun i => [(6, .slice Aa2 (cutN m) ca2), (7, .slice Ab2 (cutN m) cb2), (8, .slice Aa3 (cutN m) ca3), (9, .slice Ab3 (cutN m) cb3), (11, .slice (some ⟨q4, 0, none⟩) (cutN m / 2 + 1) (cutN m / 2 + 1)), (13, .slice A7 (cutN m) k7), (82, .int .i64 (cutN m : Nat)), (83, .int .i64 i)]) (fun i w' => i ≤ cutN m ∧ w7.heap.size ≤ w'.heap.size ∧ IR 3 w' ra2 Aa2 (cutN m) ca2 (alM ls (cutN m)) ∧ FR 25 w' rb2 Ab2 (cutN m) cb2 (flM ls (cutN m)) ∧ IR 3 w' ra3 Aa3 (cutN m) ca3 (alM (qs.take m) (cutN m)) ∧ FR 25 w' rb3 Ab3 (cutN m) cb3 (flM (qs.take m) (cutN m)) ∧ CR 53 w' (q4 + 1) (some ⟨q4, 0, none⟩) (cutN m / 2 + 1) (cutN m / 2 + 1) hzF ∧ FR 25 w' r7 A7 (cutN m) k7 fsB ∧ StT w' ∧ TabB w.heap.size w' ∧ Ch (No) w w') (fun i => cutN m - i) 0 ?_ ⟨rfl, rfl, rfl, rfl, rfl, rfl, rfl, rfl, trivial⟩ ?_
    · exact ⟨(Nat.zero_le _), (Nat.le_refl _), ia_7, xa_7, ib_7, xb_7, hf_7, bk7, st_7, tab_7, CH_7⟩
    rintro i w8 ⟨hi, hsz8, ia_8, xa_8, ib_8, xb_8, hf_8, bk_8, st_8, tab_8, CH_8⟩
    show VC _ _ _ _ [(6, .slice Aa2 (cutN m) ca2), (7, .slice Ab2 (cutN m) cb2), (8, .slice Aa3 (cutN m) ca3), (9, .slice Ab3 (cutN m) cb3), (11, .slice (some ⟨q4, 0, none⟩) (cutN m / 2 + 1) (cutN m / 2 + 1)), (13, .slice A7 (cutN m) k7), (82, .int .i64 (cutN m : Nat)), (83, .int .i64 i)] _
    refine VC.seq (VC.region (VO.mv (Rn.lss rfl rfl) rfl rfl rfl (VO.nil (VQ.then_code (VC.seq (VC.cond_if rfl (fun hc3 => ?_) (fun hc3 => ?_)))))))
    · skip
      refine VC.skip (VQ.then_code (VC.seq (VC.block (VC.seq (VC.region (VO.mv (Rn.move rfl) rfl rfl rfl (VO.mv (Rn.assign rfl) rfl rfl rfl ?_)))))))
      refine VO.nil (VQ.then_code (VC.seq (VC.draws 9 [(0, true), (1, true), (2, true), (3, true), (4, true), (5, true), (6, true), (7, true), (8, true)] (fun w1 w' => Ch (No) w1 w') mixed (by kernel_rfl) (fun _ _ => Ch.refl _ _) ?_)))
      intro w9 D9
      have c9 := Ch.of_drew D9; have z9 := c9.size
      have ia_9 := ia_8.keep c9
      have xa_9 := xa_8.keep c9
      have ib_9 := ib_8.keep c9
      have xb_9 := xb_8.keep c9
      have hf_9 := hf_8.keep c9
      have bk_9 := bk_8.keep c9
      refine VH.mv (fun w' hS => Rn.move rfl) rfl rfl rfl rfl (VH.mv (fun w' hS => Rn.move rfl) rfl rfl rfl rfl (VH.mv (fun w' hS => Rn.indexS Tryz.underlying27 Tryz.sizeOf25 rfl rfl (bk_9.sl.ne (by omega)) (by omega) (by omega)) rfl rfl rfl rfl (VH.mv (fun w' hS => Rn.load Tryz.isAgg25 rfl ((bk_9.keep hS).sl.getF (by omega) (by omega))) rfl rfl rfl rfl (VH.mv (fun w' hS => Rn.move rfl) rfl rfl rfl rfl (VH.mv (fun w' hS => Rn.move rfl) rfl rfl rfl rfl (VH.mv (fun w' hS => Rn.indexS Tryz.underlying27 Tryz.sizeOf25 rfl rfl (xa_9.sl.ne (by omega)) (by omega) (by omega)) rfl rfl rfl rfl (VH.mv (fun w' hS => Rn.load Tryz.isAgg25 rfl ((xa_9.keep hS).sl.getF (by omega) (by omega))) rfl rfl rfl rfl ?_)))))))
      refine VH.mv (fun w' hS => Rn.fneqF rfl rfl (feq_wh (hflB.get i (by omega)) ((flM_ok ls (cutN m)).get i (by omega)) (alM_bd ls (cutN m) i).1 (alM_bd ls (cutN m) i).2)) rfl rfl rfl rfl (VH.done (VO.nil (VQ.noPanic (VQ.then_code (VC.cond_false rfl (VC.skip (VQ.block_normal ?_)))))))
      refine VQ.then_code (VC.region ?_)
      refine VO.mv (Rn.add rfl rfl (by rw [IntKind.wrap_i64]; omega)) rfl rfl rfl ?_
      refine VO.mv (Rn.move rfl) rfl rfl rfl (VO.nil ?_)
      refine VQ.round (i + 1) (by first | omega | (dsimp only; omega)) ?_ ⟨rfl, rfl, rfl, rfl, rfl, rfl, rfl, rfl, trivial⟩
      have st_9 := st_8.keep c9
      have tab_9 := tab_8.keep c9
      have CH_9 := CH_8.and c9
      exact ⟨(by omega), (by omega), ia_9, xa_9, ib_9, xb_9, hf_9, bk_9, st_9, tab_9, CH_9⟩
    · skip
      refine VC.exit (VQ.then_exit (VQ.then_exit (VQ.block_exit (VQ.then_code (VC.seq (VC.region (VO.mv (Rn.move rfl) rfl rfl rfl ?_)))))))
      refine VO.wk (Wk.call Tryz.call22 rfl (half_FullL (cutN m) hn3 _ _ _ (uI (alM ls (cutN m))) hzF _ (hf_8).sl (fun q hq => by omega) (alM_bd _ _) hokF)) rfl rfl rfl ?_
      rintro _ w10 ⟨r10, A10, k10, gs10, rfl, fu10, hfu10, yr10, c10⟩
      have ylfu10 := Ow.lt fu10
      have z10 := c10.size
      have hfuF := hfu10
      refine VO.mv (Rn.move rfl) rfl rfl rfl (VO.mv (Rn.extract rfl rfl) rfl rfl rfl (VO.mv (Rn.extract rfl rfl) rfl rfl rfl (VO.mv (Rn.assign rfl) rfl rfl rfl (VO.mv (Rn.assign rfl) rfl rfl rfl (VO.nil (VQ.then_code (VC.seq ?_)))))))
      refine VC.region (VO.mv (Rn.move rfl) rfl rfl rfl (VO.mv (Rn.move rfl) rfl rfl rfl ?_))
      have xa_10 := xa_8.keep c10
      have xb_10 := xb_8.keep c10
      have st_10 := st_8.keep c10
      have tab_10 := tab_8.keep c10
      refine VO.wk (Wk.call Tryz.call23 rfl (half_Two (fun q => q < w10.heap.size) _ _ (cutN m) _ _ (uI (alM ls (cutN m))) (uI (alM (qs.take m) (cutN m))) _ _ _ ((xa_10).sl.weak (fun q hq => by have := (xa_10).lt; omega)) ((xb_10).sl.weak (fun q hq => by have := (xb_10).lt; omega)) (fun q hq => hq) (alM_bd _ _) (alM_bd _ _) (flM_ok _ _) (flM_ok _ _) hn3 (by omega) st_10 ((tab_10).up (by omega)) (by omega))) rfl rfl rfl ?_
      rintro _ w11 ⟨qa11, qb11, za11, zb11, rfl, t111, t211, hta11, htb11, ea11, eb11, c11⟩
      have ylt111 := Ow.lt t111
      have ylt211 := Ow.lt t211
      have z11 := c11.size
      have htaF := hta11; have htbF := htb11
      refine VO.mv (Rn.move rfl) rfl rfl rfl (VO.mv (Rn.extract rfl rfl) rfl rfl rfl (VO.mv (Rn.extract rfl rfl) rfl rfl rfl (VO.mv (Rn.extract rfl rfl) rfl rfl rfl (VO.mv (Rn.assign rfl) rfl rfl rfl (VO.mv (Rn.assign rfl) rfl rfl rfl (VO.mv (Rn.assign rfl) rfl rfl rfl (VO.nil ?_)))))))
      refine VQ.then_code (VC.seq (VC.region (VO.mv (Rn.move rfl) rfl rfl rfl (VO.mv (Rn.nil_eql_nil Tryz.underlying29 rfl) rfl rfl rfl (VO.mv (Rn.move rfl) rfl rfl rfl (VO.mv (Rn.move rfl) rfl rfl rfl (VO.mv (Rn.nil_eql_nil Tryz.underlying29 rfl) rfl rfl rfl ?_)))))))
      refine VO.mv (Rn.pick_true rfl rfl) rfl rfl rfl (VO.mv (Rn.move rfl) rfl rfl rfl (VO.mv (Rn.move rfl) rfl rfl rfl (VO.mv (Rn.move rfl) rfl rfl rfl ?_)))
      have ia_11 := ia_8.keep (c10.trans c11)
      refine VO.wk (Wk.call Tryz.call20 rfl (law22_exactly _ _ (cutN m) _ (alM ls (cutN m)) _ (ia_11).sl (fun q hq => by omega) (alM_bd _ _) (by omega))) rfl rfl rfl ?_
      rintro _ w12 ⟨r12, A12, k12, os12, rfl, e112, hex12, yr12, c12⟩
      have yle112 := Ow.lt e112
      have z12 := c12.size
      have hexE1 := hex12
      have fu_12 := fu10.keep (c11.trans c12)
      refine VO.wk (Wk.call Tryz.call19 rfl (hand_Equal _ _ _ _ _ _ _ _ _ _ _ (fu_12).sl (e112).sl rfl (by omega) (fun j hj => ceq_of (alM_bd _ _) (by omega) (hfuF.get j hj) (hexE1.get j hj)))) rfl rfl rfl ?_
      rintro _ w13 ⟨rfl, c13⟩
      have z13 := c13.size
      refine VO.mv (Rn.pick_true rfl rfl) rfl rfl rfl (VO.mv (Rn.move rfl) rfl rfl rfl (VO.mv (Rn.move rfl) rfl rfl rfl (VO.mv (Rn.move rfl) rfl rfl rfl ?_)))
      have ia_13 := ia_11.keep (c12.trans c13)
      refine VO.wk (Wk.call Tryz.call20 rfl (law22_exactly _ _ (cutN m) _ (alM ls (cutN m)) _ (ia_13).sl (fun q hq => by omega) (alM_bd _ _) (by omega))) rfl rfl rfl ?_
      rintro _ w14 ⟨r14, A14, k14, os14, rfl, e214, hex14, yr14, c14⟩
      have yle214 := Ow.lt e214
      have z14 := c14.size
      have hexE2 := hex14
      have t1_14 := t111.keep (c12.trans (c13.trans c14))
      refine VO.wk (Wk.call Tryz.call19 rfl (hand_Equal _ _ _ _ _ _ _ _ _ _ _ (t1_14).sl (e214).sl rfl (by omega) (fun j hj => ceq_of (alM_bd _ _) (by omega) (htaF.get j hj) (hexE2.get j hj)))) rfl rfl rfl ?_
      rintro _ w15 ⟨rfl, c15⟩
      have z15 := c15.size
      refine VO.mv (Rn.pick_true rfl rfl) rfl rfl rfl (VO.mv (Rn.move rfl) rfl rfl rfl (VO.mv (Rn.move rfl) rfl rfl rfl (VO.mv (Rn.move rfl) rfl rfl rfl ?_)))
      have ib_15 := ib_8.keep (c10.trans (c11.trans (c12.trans (c13.trans (c14.trans c15)))))
      refine VO.wk (Wk.call Tryz.call20 rfl (law22_exactly _ _ (cutN m) _ (alM (qs.take m) (cutN m)) _ (ib_15).sl (fun q hq => by omega) (alM_bd _ _) (by omega))) rfl rfl rfl ?_
      rintro _ w16 ⟨r16, A16, k16, os16, rfl, e316, hex16, yr16, c16⟩
      have yle316 := Ow.lt e316
      have z16 := c16.size
      have hexE3 := hex16
      have t2_16 := t211.keep (c12.trans (c13.trans (c14.trans (c15.trans c16))))
      refine VO.wk (Wk.call Tryz.call19 rfl (hand_Equal _ _ _ _ _ _ _ _ _ _ _ (t2_16).sl (e316).sl rfl (by omega) (fun j hj => ceq_of (alM_bd _ _) (by omega) (htbF.get j hj) (hexE3.get j hj)))) rfl rfl rfl ?_
      rintro _ w17 ⟨rfl, c17⟩
      have z17 := c17.size
      refine VO.mv (Rn.pick_true rfl rfl) rfl rfl rfl (VO.mv (Rn.assign rfl) rfl rfl rfl (VO.nil (VQ.then_code (VC.ret (VQ.ret1 rfl rfl (Ret.mk ?_))))))
      have CH_17 := CH_8.and (c10.trans (c11.trans (c12.trans (c13.trans (c14.trans (c15.trans (c16.trans c17)))))))
      exact ⟨rfl, CH_17⟩
end Go.Tm
