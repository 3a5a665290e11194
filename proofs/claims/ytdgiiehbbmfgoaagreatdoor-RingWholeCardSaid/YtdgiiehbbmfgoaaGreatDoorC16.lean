/- Lemmas of this claim, joined by program. Walks of functions: sums from the left; the convolutions by their sums, on whole numbers. append where there is room; append of a made row. Walks of functions: the linear convolution by its sum; convolutions by plans of 1, 2 and 4. Conditions: each lemma names its own. -/
import Derived.Test.YtdgiiehbbmfgoaaGreatDoorC15
set_option linter.all false
namespace Go.Tm
open Go.RowKit Go.Proofs
def rowN (n : Nat) (f : Nat → Nat) (j : Nat) : List Nat := (List.range j).map f ++ List.replicate (n - j) 0
theorem rowN_zero (n : Nat) (f : Nat → Nat) : rowN n f 0 = List.replicate n 0 := by simp [rowN]
theorem rowN_set {n j : Nat} {f : Nat → Nat} (h : j < n) : (rowN n f j).set j (f j) = rowN n f (j + 1) := by
  unfold rowN
  obtain ⟨m, hm⟩ : ∃ m, n - j = m + 1 := ⟨n - j - 1, by omega⟩
  rw [hm, show n - (j + 1) = m by omega, List.set_append_right _ _ (by simp), List.range_succ, List.map_append]
  simp [List.replicate_succ]
theorem rowN_get {n i j : Nat} {f : Nat → Nat} (h : i < j) : (rowN n f j).getD i 0 = f i := by
  simp only [rowN, List.getD]
  rw [List.getElem?_append_left (by simpa using h)]
  simp [h]
theorem left_step {n j : Nat} {u : Nat → Int} {xs : List Nat} {s r : Nat} (ht : Tame u n) (hw : ∀ j, j < n → Wh (cn (xs.getD j 0)) (u j)) (hj : j + 1 < n) (hs : Wh (cn s) (isum u (j + 1))) (hr : cn r = fop .add (cn s) (cn (((xs.drop 1).take (n - 1)).getD j 0))) : Wh (cn r) (isum u (j + 1 + 1)) := by
  rw [hr, sub_getD (by omega), Nat.add_comm 1 j]
  have h1 := ht.sum (j := j + 1) (by omega)
  have h2 := ht.el hj
  have h3 := ht.sum (j := j + 1 + 1) (by omega)
  exact hs.add (hw _ hj) (by unfold Sm; omega) (by unfold Sm; omega) (by show Sm (isum u (j + 1 + 1)); unfold Sm; omega)
set_option maxRecDepth 100000 in
theorem inf25w62 : Inf Tryz.prog 25 (.float .f64 0) 1 8 := ⟨Tryz.t25, Tryz.type25, rfl, rfl, rfl⟩
set_option maxRecDepth 100000 in
theorem inf53w62 : Inf Tryz.prog 53 (.complex .f64 0 0) 1 16 := ⟨Tryz.t53, Tryz.type53, rfl, rfl, rfl⟩
set_option maxHeartbeats 1000000 in
set_option maxRecDepth 100000 in
theorem sums_parts (SX : Nat → Prop) (X : Option Addr) (n xc : Nat) (zs : List CB) (w : World) (sx : SlR SX w X n 1 (zs.map cxV)) (hX : ∀ q, SX q → q < w.heap.size) (hn : n ≤ 1000000) :
    Calls Tryz.prog 98 #[.slice X n xc] w (Ret (fun v w' => ∃ q1 q2, v = .tuple #[.slice (some ⟨q1, 0, none⟩) n n, .slice (some ⟨q2, 0, none⟩) n n] ∧ FR 25 w' (q1 + 1) (some ⟨q1, 0, none⟩) n n (rowN n (fun i => (zs.getD i (0, 0)).1) n) ∧ FR 25 w' (q2 + 1) (some ⟨q2, 0, none⟩) n n (rowN n (fun i => (zs.getD i (0, 0)).2) n) ∧ w.heap.size ≤ q1 ∧ w.heap.size ≤ q2 ∧ Ch No w w')) := by
  refine calls_of_VC (args := [.slice X n xc]) Tryz.func98 rfl Tryz.ntmps98 rfl (VC.seq (VC.region (VO.mv (Rn.assign rfl) rfl rfl rfl (VO.mv (Rn.assign rfl) rfl rfl rfl (VO.nil (VQ.then_code (VC.seq ?_)))))))
  refine VC.drawsT 7 (.mv 0 (.mv 1 (.mv 3 (.mv 4 (.two 2 (.mv 6 (.wk 5 .nil)) 5 (.wk 2 (.mv 6 .nil))))))) (fun w1 w' => Ch (No) w1 w') mixed (by kernel_rfl) (fun _ _ => Ch.refl _ _) ?_
  intro w1 D1
  have c1 := Ch.of_drew D1; have z1 := c1.size
  refine VT.mv (fun w' hS => Rn.move rfl) rfl rfl rfl rfl (VT.mv (fun w' hS => Rn.len Tryz.underlying39 rfl) rfl rfl rfl rfl (VT.mv (fun w' hS => Rn.move rfl) rfl rfl rfl rfl (VT.mv (fun w' hS => Rn.len Tryz.underlying39 rfl) rfl rfl rfl rfl (VT.two ?_ ?_))))
  · skip
    refine VT.wk (Wk.mkF Tryz.underlying27 inf25w62 rfl rfl (by omega) (by omega) (by omega)) rfl rfl rfl rfl ?_
    rintro _ w2 ⟨p2, rfl, o2, c2, e2, z2⟩
    have RD_2 := (Ch.refl (No) w1).and c2
    refine ⟨RD_2, ?_⟩
    refine VT.mv (fun w' hS => Rn.assign rfl) rfl rfl rfl rfl (VT.wk (Wk.mkF Tryz.underlying27 inf25w62 rfl rfl (by omega) (by omega) (by omega)) rfl rfl rfl rfl ?_)
    rintro _ w3 ⟨p3, rfl, o3, c3, e3, z3⟩
    have RD_3 := RD_2.and c3
    refine ⟨RD_3, ?_⟩
    refine VT.done (VO.mv (Rn.assign rfl) rfl rfl rfl (VO.nil (VQ.noPanic (VQ.then_code (VC.seq (VC.seq (VC.region ?_)))))))
    refine VO.mv (Rn.move rfl) rfl rfl rfl (VO.mv (Rn.len Tryz.underlying39 rfl) rfl rfl rfl (VO.mv (Rn.move rfl) rfl rfl rfl (VO.nil (VQ.then_code (VC.block ?_)))))
    have ra_3 := o2.keep c3
    have sx_3 := sx.keep (c1.trans (c2.trans c3))
    have CH_3 := (Ch.refl (No) w).and (c1.trans (c2.trans c3))
    refine VC.loopS (σ := Nat) (fun j => [(4, .slice (some ⟨p2, 0, none⟩) n n), (5, .slice (some ⟨p3, 0, none⟩) n n), (14, .slice X n xc), (15, .int .i64 n), (16, .int .i64 j)]) (fun j w' => j ≤ n ∧ w3.heap.size ≤ w'.heap.size ∧ FR 25 w' (p2 + 1) (some ⟨p2, 0, none⟩) n n (rowN n (fun i => (zs.getD i (0, 0)).1) j) ∧ FR 25 w' (p3 + 1) (some ⟨p3, 0, none⟩) n n (rowN n (fun i => (zs.getD i (0, 0)).2) j) ∧ SlR SX w' X n 1 (zs.map cxV) ∧ Ch (No) w w') (fun j => n - j) 0 ?_ ⟨rfl, rfl, rfl, rfl, rfl, trivial⟩ ?_
    · exact ⟨(by omega), (Nat.le_refl _), (by rw [rowN_zero]; exact ra_3), (by rw [rowN_zero]; exact o3), sx_3, CH_3⟩
    rintro j w4 ⟨hj, hsz4, ra_4, rb_4, sx_4, CH_4⟩
    show VC _ _ _ _ [(4, .slice (some ⟨p2, 0, none⟩) n n), (5, .slice (some ⟨p3, 0, none⟩) n n), (14, .slice X n xc), (15, .int .i64 n), (16, .int .i64 j)] _
    refine VC.seq (VC.region (VO.mv (Rn.lss rfl rfl) rfl rfl rfl (VO.nil (VQ.then_code (VC.seq (VC.cond_if rfl (fun hc1 => ?_) (fun hc1 => ?_)))))))
    · skip
      refine VC.skip (VQ.then_code (VC.seq (VC.block (VC.seq (VC.region (VO.mv (Rn.move rfl) rfl rfl rfl (VO.mv (Rn.indexS Tryz.underlying39 Tryz.sizeOf53 rfl rfl (sx_4.ne (by omega)) (by omega) (by omega)) rfl rfl rfl ?_)))))))
      refine VO.mv (Rn.load Tryz.isAgg53 rfl (sx_4.getC (by omega) (by omega))) rfl rfl rfl (VO.mv (Rn.assign rfl) rfl rfl rfl (VO.mv (Rn.assign rfl) rfl rfl rfl (VO.nil (VQ.then_code (VC.region (VO.mv (Rn.move rfl) rfl rfl rfl (VO.mv (Rn.move rfl) rfl rfl rfl ?_)))))))
      refine VO.mv (Rn.move rfl) rfl rfl rfl (VO.mv (Rn.move rfl) rfl rfl rfl (VO.mv (Rn.move rfl) rfl rfl rfl (VO.mv (Rn.real rfl) rfl rfl rfl (VO.mv (Rn.move rfl) rfl rfl rfl (VO.mv (Rn.imag rfl) rfl rfl rfl (VO.mv (Rn.indexS Tryz.underlying27 Tryz.sizeOf25 rfl rfl (ra_4.sl.ne (by omega)) (by omega) (by omega)) rfl rfl rfl (VO.wk0 (Wk.putF Tryz.sizeOf25 rfl rfl (by omega) ra_4) rfl rfl ?_)))))))
      rintro _ w5 ⟨o5, c5, z5⟩
      have y5 := o5.lt
      have rb_5 := rb_4.to c5 (by first | exact fun _ _ _ _ => id | (intro q h1 h2 hx h3; omega))
      refine VO.mv (Rn.indexS Tryz.underlying27 Tryz.sizeOf25 rfl rfl (rb_5.sl.ne (by omega)) (by omega) (by omega)) rfl rfl rfl (VO.wk0 (Wk.putF Tryz.sizeOf25 rfl rfl (by omega) rb_5) rfl rfl ?_)
      rintro _ w6 ⟨o6, c6, z6⟩
      have y6 := o6.lt
      refine VO.nil (VQ.block_normal (VQ.then_code (VC.region ?_)))
      refine VO.mv (Rn.add rfl rfl (by rw [IntKind.wrap_i64]; omega)) rfl rfl rfl ?_
      refine VO.mv (Rn.move rfl) rfl rfl rfl (VO.nil ?_)
      refine VQ.round (j + 1) (by first | omega | (dsimp only; omega)) ?_ ⟨rfl, rfl, rfl, rfl, rfl, trivial⟩
      have ra_6 := o5.to c6 (by first | exact fun _ _ _ _ => id | (intro q h1 h2 hx h3; omega))
      have sx_5 := sx_4.to c5 (by first | exact fun _ _ _ _ => id | (intro q h1 h2 hx h3; have := hX q h2; omega))
      have sx_6 := sx_5.to c6 (by first | exact fun _ _ _ _ => id | (intro q h1 h2 hx h3; have := hX q h2; omega))
      have CH_5 : Ch (No) w w5 := CH_4.then c5 (by intro q h1 h2; rcases h2 with h2 | h2 <;> first | exact h2 | (exfalso; omega) | omega)
      have CH_6 : Ch (No) w w6 := CH_5.then c6 (by intro q h1 h2; rcases h2 with h2 | h2 <;> first | exact h2 | (exfalso; omega) | omega)
      exact ⟨(by omega), (by omega), (by have h9 := ra_6; rw [Int.toNat_natCast] at h9; rw [← rowN_set (by omega)]; exact h9), (by have h9 := o6; rw [Int.toNat_natCast] at h9; rw [← rowN_set (by omega)]; exact h9), sx_6, CH_6⟩
    · skip
      refine VC.exit (VQ.then_exit (VQ.then_exit (VQ.block_exit (VQ.then_code (VC.seq (VC.region (VO.mv (Rn.move rfl) rfl rfl rfl ?_)))))))
      refine VO.mv (Rn.move rfl) rfl rfl rfl (VO.mv (Rn.assign rfl) rfl rfl rfl (VO.mv (Rn.assign rfl) rfl rfl rfl (VO.nil (VQ.then_code (VC.ret (VQ.ret2 rfl rfl rfl (Ret.mk ?_)))))))
      obtain rfl : j = n := by omega
      exact ⟨_, _, rfl, ra_4, rb_4, by omega, by omega, CH_4⟩
  · skip
    refine VT.wk (Wk.mkF Tryz.underlying27 inf25w62 rfl rfl (by omega) (by omega) (by omega)) rfl rfl rfl rfl ?_
    rintro _ w7 ⟨p7, rfl, o7, c7, e7, z7⟩
    have RD_7 := (Ch.refl (No) w1).and c7
    refine ⟨RD_7, ?_⟩
    refine VT.wk (Wk.mkF Tryz.underlying27 inf25w62 rfl rfl (by omega) (by omega) (by omega)) rfl rfl rfl rfl ?_
    rintro _ w8 ⟨p8, rfl, o8, c8, e8, z8⟩
    have RD_8 := RD_7.and c8
    refine ⟨RD_8, ?_⟩
    refine VT.mv (fun w' hS => Rn.assign rfl) rfl rfl rfl rfl (VT.done (VO.mv (Rn.assign rfl) rfl rfl rfl (VO.nil (VQ.noPanic (VQ.then_code (VC.seq (VC.seq ?_)))))))
    refine VC.region (VO.mv (Rn.move rfl) rfl rfl rfl (VO.mv (Rn.len Tryz.underlying39 rfl) rfl rfl rfl (VO.mv (Rn.move rfl) rfl rfl rfl (VO.nil (VQ.then_code (VC.block ?_))))))
    have rb_8 := o7.keep c8
    have sx_8 := sx.keep (c1.trans (c7.trans c8))
    have CH_8 := (Ch.refl (No) w).and (c1.trans (c7.trans c8))
    refine VC.loopS (σ := Nat) (fun j => [(4, .slice (some ⟨p8, 0, none⟩) n n), (5, .slice (some ⟨p7, 0, none⟩) n n), (14, .slice X n xc), (15, .int .i64 n), (16, .int .i64 j)]) (fun j w' => j ≤ n ∧ w8.heap.size ≤ w'.heap.size ∧ FR 25 w' (p8 + 1) (some ⟨p8, 0, none⟩) n n (rowN n (fun i => (zs.getD i (0, 0)).1) j) ∧ FR 25 w' (p7 + 1) (some ⟨p7, 0, none⟩) n n (rowN n (fun i => (zs.getD i (0, 0)).2) j) ∧ SlR SX w' X n 1 (zs.map cxV) ∧ Ch (No) w w') (fun j => n - j) 0 ?_ ⟨rfl, rfl, rfl, rfl, rfl, trivial⟩ ?_
    · exact ⟨(by omega), (Nat.le_refl _), (by rw [rowN_zero]; exact o8), (by rw [rowN_zero]; exact rb_8), sx_8, CH_8⟩
    rintro j w9 ⟨hj, hsz9, ra_9, rb_9, sx_9, CH_9⟩
    show VC _ _ _ _ [(4, .slice (some ⟨p8, 0, none⟩) n n), (5, .slice (some ⟨p7, 0, none⟩) n n), (14, .slice X n xc), (15, .int .i64 n), (16, .int .i64 j)] _
    refine VC.seq (VC.region (VO.mv (Rn.lss rfl rfl) rfl rfl rfl (VO.nil (VQ.then_code (VC.seq (VC.cond_if rfl (fun hc2 => ?_) (fun hc2 => ?_)))))))
    · skip
      refine VC.skip (VQ.then_code (VC.seq (VC.block (VC.seq (VC.region (VO.mv (Rn.move rfl) rfl rfl rfl (VO.mv (Rn.indexS Tryz.underlying39 Tryz.sizeOf53 rfl rfl (sx_9.ne (by omega)) (by omega) (by omega)) rfl rfl rfl ?_)))))))
      refine VO.mv (Rn.load Tryz.isAgg53 rfl (sx_9.getC (by omega) (by omega))) rfl rfl rfl (VO.mv (Rn.assign rfl) rfl rfl rfl (VO.mv (Rn.assign rfl) rfl rfl rfl (VO.nil (VQ.then_code (VC.region (VO.mv (Rn.move rfl) rfl rfl rfl (VO.mv (Rn.move rfl) rfl rfl rfl ?_)))))))
      refine VO.mv (Rn.move rfl) rfl rfl rfl (VO.mv (Rn.move rfl) rfl rfl rfl (VO.mv (Rn.move rfl) rfl rfl rfl (VO.mv (Rn.real rfl) rfl rfl rfl (VO.mv (Rn.move rfl) rfl rfl rfl (VO.mv (Rn.imag rfl) rfl rfl rfl (VO.mv (Rn.indexS Tryz.underlying27 Tryz.sizeOf25 rfl rfl (ra_9.sl.ne (by omega)) (by omega) (by omega)) rfl rfl rfl (VO.wk0 (Wk.putF Tryz.sizeOf25 rfl rfl (by omega) ra_9) rfl rfl ?_)))))))
      rintro _ w10 ⟨o10, c10, z10⟩
      have y10 := o10.lt
      have rb_10 := rb_9.to c10 (by first | exact fun _ _ _ _ => id | (intro q h1 h2 hx h3; omega))
      refine VO.mv (Rn.indexS Tryz.underlying27 Tryz.sizeOf25 rfl rfl (rb_10.sl.ne (by omega)) (by omega) (by omega)) rfl rfl rfl (VO.wk0 (Wk.putF Tryz.sizeOf25 rfl rfl (by omega) rb_10) rfl rfl ?_)
      rintro _ w11 ⟨o11, c11, z11⟩
      have y11 := o11.lt
      refine VO.nil (VQ.block_normal (VQ.then_code (VC.region ?_)))
      refine VO.mv (Rn.add rfl rfl (by rw [IntKind.wrap_i64]; omega)) rfl rfl rfl ?_
      refine VO.mv (Rn.move rfl) rfl rfl rfl (VO.nil ?_)
      refine VQ.round (j + 1) (by first | omega | (dsimp only; omega)) ?_ ⟨rfl, rfl, rfl, rfl, rfl, trivial⟩
      have ra_11 := o10.to c11 (by first | exact fun _ _ _ _ => id | (intro q h1 h2 hx h3; omega))
      have sx_10 := sx_9.to c10 (by first | exact fun _ _ _ _ => id | (intro q h1 h2 hx h3; have := hX q h2; omega))
      have sx_11 := sx_10.to c11 (by first | exact fun _ _ _ _ => id | (intro q h1 h2 hx h3; have := hX q h2; omega))
      have CH_10 : Ch (No) w w10 := CH_9.then c10 (by intro q h1 h2; rcases h2 with h2 | h2 <;> first | exact h2 | (exfalso; omega) | omega)
      have CH_11 : Ch (No) w w11 := CH_10.then c11 (by intro q h1 h2; rcases h2 with h2 | h2 <;> first | exact h2 | (exfalso; omega) | omega)
      exact ⟨(by omega), (by omega), (by have h9 := ra_11; rw [Int.toNat_natCast] at h9; rw [← rowN_set (by omega)]; exact h9), (by have h9 := o11; rw [Int.toNat_natCast] at h9; rw [← rowN_set (by omega)]; exact h9), sx_11, CH_11⟩
    · skip
      refine VC.exit (VQ.then_exit (VQ.then_exit (VQ.block_exit (VQ.then_code (VC.seq (VC.region (VO.mv (Rn.move rfl) rfl rfl rfl ?_)))))))
      refine VO.mv (Rn.move rfl) rfl rfl rfl (VO.mv (Rn.assign rfl) rfl rfl rfl (VO.mv (Rn.assign rfl) rfl rfl rfl (VO.nil (VQ.then_code (VC.ret (VQ.ret2 rfl rfl rfl (Ret.mk ?_)))))))
      obtain rfl : j = n := by omega
      exact ⟨_, _, rfl, ra_9, rb_9, by omega, by omega, CH_9⟩
set_option maxHeartbeats 1000000 in
set_option maxRecDepth 100000 in
theorem sums_Left (SX : Nat → Prop) (X : Option Addr) (n xc : Nat) (xs : List Nat) (u : Nat → Int) (w : World) (sx : SlR SX w X n 1 (xs.map flV)) (hX : ∀ q, SX q → q < w.heap.size) (hn : n ≤ 1000000) (hc : n ≤ xc) (hw : ∀ j, j < n → Wh (cn (xs.getD j 0)) (u j)) (ht : Tame u n) :
    Calls Tryz.prog 84 #[.slice X n xc] w (Ret (fun v w' => ∃ r, v = .float .f64 r ∧ Wh (cn r) (isum u n) ∧ Ch No w w')) := by
  refine calls_of_VC (args := [.slice X n xc]) Tryz.func84 rfl Tryz.ntmps84 rfl (VC.seq (VC.region (VO.mv (Rn.assign rfl) rfl rfl rfl (VO.nil (VQ.then_code (VC.seq (VC.seq ?_)))))))
  refine VC.region (VO.mv (Rn.move rfl) rfl rfl rfl (VO.mv (Rn.len Tryz.underlying27 rfl) rfl rfl rfl (VO.mv (Rn.eql rfl rfl) rfl rfl rfl (VO.nil (VQ.then_code (VC.cond_if rfl (fun hc1 => ?_) (fun hc1 => ?_)))))))
  · skip
    refine VC.seq (VC.region (VO.mv (Rn.assign rfl) rfl rfl rfl (VO.nil (VQ.then_code (VC.ret (VQ.then_ret (VQ.ret1 rfl rfl ?_)))))))
    refine Ret.mk ?_
    obtain rfl : n = 0 := by omega
    exact ⟨_, rfl, wh_zero, (Ch.refl (No) w)⟩
  · skip
    refine VC.skip (VQ.then_code (VC.seq (VC.region (VO.mv (Rn.move rfl) rfl rfl rfl (VO.mv (Rn.indexS Tryz.underlying27 Tryz.sizeOf25 rfl rfl (sx.ne (by omega)) (by omega) (by omega)) rfl rfl rfl (VO.mv (Rn.load Tryz.isAgg25 rfl (sx.getF (by omega) (by omega))) rfl rfl rfl (VO.mv (Rn.assign rfl) rfl rfl rfl ?_)))))))
    refine VO.nil (VQ.then_code (VC.seq (VC.seq ?_)))
    have sb := SlR.subF (sx) (c := xc) (i := 1) (j := n) (by omega) (Nat.le_refl _) hc
    refine VC.region (VO.mv (Rn.move rfl) rfl rfl rfl (VO.mv (Rn.sliceLo Tryz.underlying27 Tryz.sizeOf25 rfl rfl (by omega) (by omega) (by omega)) rfl rfl rfl (VO.mv (Rn.len Tryz.underlying27 rfl) rfl rfl rfl (VO.mv (Rn.move rfl) rfl rfl rfl (VO.nil (VQ.then_code (VC.block ?_)))))))
    refine VC.loopS (σ := Nat × Nat) (fun (j, s) => [(3, .float .f64 s), (13, .slice (if xc = 1 then X else X.map (·.add (1 * 1))) (n - 1) (xc - 1)), (14, .int .i64 (n - 1 : Nat)), (15, .int .i64 j)]) (fun (j, s) w' => j ≤ n - 1 ∧ Wh (cn s) (isum u (j + 1)) ∧ w.heap.size ≤ w'.heap.size ∧ SlR SX w' (if xc = 1 then X else X.map (·.add (1 * 1))) (n - 1) 1 (((xs.drop 1).take (n - 1)).map flV) ∧ Ch (No) w w') (fun (j, s) => n - 1 - j) (0, xs.getD 0 0) ?_ ⟨rfl, rfl, rfl, rfl, trivial⟩ ?_
    · exact ⟨(by omega), (by have h9 := hw 0 (by omega); simpa [isum] using h9), (Nat.le_refl _), sb, (Ch.refl (No) w)⟩
    rintro ⟨j, s⟩ w1 ⟨hj, hs, hsz1, sb_1, CH_1⟩
    show VC _ _ _ _ [(3, .float .f64 s), (13, .slice (if xc = 1 then X else X.map (·.add (1 * 1))) (n - 1) (xc - 1)), (14, .int .i64 (n - 1 : Nat)), (15, .int .i64 j)] _
    refine VC.seq (VC.region (VO.mv (Rn.lss rfl rfl) rfl rfl rfl (VO.nil (VQ.then_code (VC.seq (VC.cond_if rfl (fun hc2 => ?_) (fun hc2 => ?_)))))))
    · skip
      refine VC.skip (VQ.then_code (VC.seq (VC.block (VC.seq (VC.region (VO.mv (Rn.indexS Tryz.underlying27 Tryz.sizeOf25 rfl rfl (sb_1.ne (by omega)) (by omega) (by omega)) rfl rfl rfl (VO.mv (Rn.load Tryz.isAgg25 rfl (sb_1.getF (by omega) (by omega))) rfl rfl rfl ?_)))))))
      refine VO.mv (Rn.assign rfl) rfl rfl rfl (VO.nil (VQ.then_code (VC.region (VO.mv (Rn.move rfl) rfl rfl rfl (VO.mv (Rn.move rfl) rfl rfl rfl (VO.wk (Wk.fbin (.inl rfl) rfl rfl) rfl rfl rfl ?_))))))
      rintro _ w2 ⟨r2, rfl, f2, c2⟩
      have z2 := c2.size
      refine VO.mv (Rn.assign rfl) rfl rfl rfl (VO.nil (VQ.block_normal (VQ.then_code (VC.region ?_))))
      refine VO.mv (Rn.add rfl rfl (by rw [IntKind.wrap_i64]; omega)) rfl rfl rfl ?_
      refine VO.mv (Rn.move rfl) rfl rfl rfl (VO.nil ?_)
      refine VQ.round (j + 1, r2) (by first | omega | (dsimp only; omega)) ?_ ⟨rfl, rfl, rfl, rfl, trivial⟩
      have sb_2 := sb_1.keep c2
      have CH_2 := CH_1.and c2
      exact ⟨(by omega), (left_step ht hw (by omega) hs f2), (by omega), sb_2, CH_2⟩
    · skip
      refine VC.exit (VQ.then_exit (VQ.then_exit (VQ.block_exit (VQ.then_code (VC.seq (VC.region (VO.mv (Rn.move rfl) rfl rfl rfl ?_)))))))
      refine VO.mv (Rn.assign rfl) rfl rfl rfl (VO.nil (VQ.then_code (VC.ret (VQ.ret1 rfl rfl (Ret.mk ?_)))))
      have e9 : n = j + 1 := by omega
      exact ⟨_, rfl, by rw [e9]; exact hs, CH_1⟩
set_option maxRecDepth 100000 in
theorem sums_byParts (SX : Nat → Prop) (X : Option Addr) (n xc : Nat) (zs : List CB) (ur ui : Nat → Int) (w : World) (sx : SlR SX w X n 1 (zs.map cxV)) (hX : ∀ q, SX q → q < w.heap.size) (hn : n ≤ 1000000) (hz : ∀ j, j < n → WhC (cx (zs.getD j (0, 0))) (ur j) (ui j)) (hr : Tame ur n) (hi : Tame ui n) :
    Calls Tryz.prog 83 #[.slice X n xc, .func (.func 84) #[] #[]] w (Ret (fun v w' => ∃ p q, v = .complex .f64 p q ∧ WhC (cx (p, q)) (isum ur n) (isum ui n) ∧ Ch No w w')) := by
  refine calls_of_VC (args := [.slice X n xc, .func (.func 84) #[] #[]]) Tryz.func83 rfl Tryz.ntmps83 rfl (VC.seq (VC.region (VO.mv (Rn.assign rfl) rfl rfl rfl (VO.nil (VQ.then_code (VC.seq (VC.region ?_)))))))
  refine VO.mv (Rn.move rfl) rfl rfl rfl (VO.wk (Wk.call Tryz.call98 rfl (sums_parts _ _ _ _ _ _ sx hX hn)) rfl rfl rfl ?_)
  rintro _ w1 ⟨qa1, qb1, rfl, fa1, fb1, ea1, eb1, c1⟩
  have ya1 := Ow.lt fa1; have yb1 := Ow.lt fb1
  have z1 := c1.size
  refine VO.mv (Rn.move rfl) rfl rfl rfl (VO.mv (Rn.extract rfl rfl) rfl rfl rfl (VO.mv (Rn.extract rfl rfl) rfl rfl rfl (VO.mv (Rn.assign rfl) rfl rfl rfl (VO.mv (Rn.assign rfl) rfl rfl rfl (VO.nil (VQ.then_code (VC.seq ?_)))))))
  refine VC.region (VO.mv (Rn.move rfl) rfl rfl rfl (VO.mv (Rn.move rfl) rfl rfl rfl ?_))
  refine VO.wk (Wk.callv Tryz.call84 rfl rfl (by rfl) (sums_Left _ _ n n _ ur _ (fa1).sl (fun q hq => by omega) hn (Nat.le_refl _) (fun j hj => by rw [rowN_get hj]; exact (hz j hj).1) hr)) rfl rfl rfl ?_
  rintro _ w2 ⟨r2, rfl, hs2, c2⟩
  have z2 := c2.size
  refine VO.mv (Rn.move rfl) rfl rfl rfl (VO.mv (Rn.move rfl) rfl rfl rfl ?_)
  have fb_2 := fb1.keep c2
  refine VO.wk (Wk.callv Tryz.call84 rfl rfl (by rfl) (sums_Left _ _ n n _ ui _ (fb_2).sl (fun q hq => by omega) hn (Nat.le_refl _) (fun j hj => by rw [rowN_get hj]; exact (hz j hj).2) hi)) rfl rfl rfl ?_
  rintro _ w3 ⟨r3, rfl, hs3, c3⟩
  have z3 := c3.size
  refine VO.mv (Rn.complex rfl rfl) rfl rfl rfl (VO.mv (Rn.assign rfl) rfl rfl rfl (VO.nil (VQ.then_code (VC.ret (VQ.ret1 rfl rfl (Ret.mk ?_))))))
  have CH_3 := (Ch.refl (No) w).and (c1.trans (c2.trans c3))
  exact ⟨_, _, rfl, ⟨hs2, hs3⟩, CH_3⟩
set_option maxRecDepth 100000 in
theorem sums_LeftC (SX : Nat → Prop) (X : Option Addr) (n xc : Nat) (zs : List CB) (ur ui : Nat → Int) (w : World) (sx : SlR SX w X n 1 (zs.map cxV)) (hX : ∀ q, SX q → q < w.heap.size) (hn : n ≤ 1000000) (hz : ∀ j, j < n → WhC (cx (zs.getD j (0, 0))) (ur j) (ui j)) (hr : Tame ur n) (hi : Tame ui n) :
    Calls Tryz.prog 60 #[.slice X n xc] w (Ret (fun v w' => ∃ p q, v = .complex .f64 p q ∧ WhC (cx (p, q)) (isum ur n) (isum ui n) ∧ Ch No w w')) := by
  refine calls_of_VC (args := [.slice X n xc]) Tryz.func60 rfl Tryz.ntmps60 rfl (VC.seq (VC.region (VO.mv (Rn.assign rfl) rfl rfl rfl (VO.nil (VQ.then_code (VC.seq (VC.region ?_)))))))
  refine VO.mv (Rn.move rfl) rfl rfl rfl (VO.wk (Wk.call Tryz.call83 rfl (sums_byParts _ _ _ _ _ _ _ _ sx hX hn hz hr hi)) rfl rfl rfl ?_)
  rintro _ w1 ⟨p1, q1, rfl, F1, c1⟩
  have z1 := c1.size
  refine VO.mv (Rn.assign rfl) rfl rfl rfl (VO.nil (VQ.then_code (VC.ret (VQ.ret1 rfl rfl (Ret.mk ?_)))))
  have CH_1 := (Ch.refl (No) w).and c1
  exact ⟨_, _, rfl, F1, CH_1⟩
set_option maxRecDepth 100000 in
theorem ring_side (X Y : Option Addr) (n xc yc : Nat) (w : World) (hn : 1 ≤ n ∧ n ≤ 1024) :
    Calls Tryz.prog 61 #[.slice X n xc, .slice Y n yc] w (Ret (fun v w' => v = .bool true ∧ w = w')) := by
  refine calls_of_VC (args := [.slice X n xc, .slice Y n yc]) Tryz.func61 rfl Tryz.ntmps61 rfl (VC.seq (VC.region (VO.mv (Rn.assign rfl) rfl rfl rfl (VO.nil (VQ.then_code (VC.seq (VC.region ?_)))))))
  refine VO.mv (Rn.move rfl) rfl rfl rfl (VO.mv (Rn.len Tryz.underlying39 rfl) rfl rfl rfl (VO.mv (Rn.move rfl) rfl rfl rfl (VO.mv (Rn.len Tryz.underlying39 rfl) rfl rfl rfl (VO.mv (Rn.eqlT rfl rfl rfl) rfl rfl rfl (VO.mv (Rn.move rfl) rfl rfl rfl (VO.mv (Rn.move rfl) rfl rfl rfl (VO.mv (Rn.len Tryz.underlying39 rfl) rfl rfl rfl ?_)))))))
  refine VO.mv (Rn.geqT rfl rfl (by omega)) rfl rfl rfl (VO.mv (Rn.pick_true rfl rfl) rfl rfl rfl (VO.mv (Rn.move rfl) rfl rfl rfl (VO.mv (Rn.move rfl) rfl rfl rfl (VO.mv (Rn.len Tryz.underlying39 rfl) rfl rfl rfl (VO.mv (Rn.leqT rfl rfl (by omega)) rfl rfl rfl (VO.mv (Rn.pick_true rfl rfl) rfl rfl rfl (VO.mv (Rn.assign rfl) rfl rfl rfl ?_)))))))
  refine VO.nil (VQ.then_code (VC.ret (VQ.ret1 rfl rfl (Ret.mk ?_))))
  exact ⟨rfl, rfl⟩
set_option maxRecDepth 100000 in
theorem ring_cyc1 (pa pb pn : Nat) (SX SY : Nat → Prop) (X Y : Option Addr) (n xc yc : Nat) (us vs us2 vs2 : Nat → Int) (zs ys : List CB) (k j : Nat) (w : World) (sx : SlR SX w X n 1 (zs.map cxV)) (sy : SlR SY w Y n 1 (ys.map cxV)) (hX : ∀ q, SX q → q < w.heap.size) (hY : ∀ q, SY q → q < w.heap.size) (hn : 1 ≤ n ∧ n ≤ 1024) (hz : WhU n us vs n zs) (hy : WhU n us2 vs2 n ys) (g1 : GB us vs n) (g2 : GB us2 vs2 n) (ba : Bk w pa #[.slice X n xc] 39) (bb : Bk w pb #[.slice Y n yc] 39) (bn : Bk w pn #[.int .i64 n] 3) (hk : k < n) (hj : j < n) :
    Calls Tryz.prog 63 #[.int .i64 k, .int .i64 j, .pointer (some ⟨pa, 0, none⟩), .pointer (some ⟨pb, 0, none⟩), .pointer (some ⟨pn, 0, none⟩)] w (Ret (fun v w' => ∃ p q, v = .complex .f64 p q ∧ WhC (cx (p, q)) (cyR n us vs us2 vs2 k j) (cyI n us vs us2 vs2 k j) ∧ Ch No w w')) := by
  have hme : ((k : Int) - j + n) % n = (((k + n - j) % n : Nat) : Int) := by rw [show (k : Int) - j + n = ((k + n - j : Nat) : Int) by omega]; rfl
  have hml := Nat.mod_lt (k + n - j) (show 0 < n by omega)
  refine calls_of_VC (args := [.int .i64 k, .int .i64 j, .pointer (some ⟨pa, 0, none⟩), .pointer (some ⟨pb, 0, none⟩), .pointer (some ⟨pn, 0, none⟩)]) Tryz.func63 rfl Tryz.ntmps63 rfl (VC.seq (VC.region (VO.mv (Rn.assign rfl) rfl rfl rfl (VO.nil (VQ.then_code (VC.seq (VC.draws 15 [(0, true), (1, true), (2, true), (3, true), (4, true), (5, true), (6, true), (7, true), (8, true), (9, true), (10, true), (11, true), (12, true), (13, true), (14, false)] (fun w1 w' => Ch (No) w1 w') mixed (by kernel_rfl) (fun _ _ => Ch.refl _ _) ?_)))))))
  intro w1 D1
  have c1 := Ch.of_drew D1; have z1 := c1.size
  have ba_1 := ba.keep c1
  have bb_1 := bb.keep c1
  have bn_1 := bn.keep c1
  have sx_1 := sx.keep c1
  have sy_1 := sy.keep c1
  refine VH.mv (fun w' hS => Rn.load Tryz.isAgg39 rfl ((ba_1.keep hS).cell rfl)) rfl rfl rfl rfl (VH.mv (fun w' hS => Rn.move rfl) rfl rfl rfl rfl (VH.mv (fun w' hS => Rn.indexS Tryz.underlying39 Tryz.sizeOf53 rfl rfl ((sx_1.keep hS).ne (by omega)) (by omega) (by omega)) rfl rfl rfl rfl (VH.mv (fun w' hS => Rn.load Tryz.isAgg53 rfl ((sx_1.keep hS).getC (by omega) (by omega))) rfl rfl rfl rfl (VH.mv (fun w' hS => Rn.load Tryz.isAgg39 rfl ((bb_1.keep hS).cell rfl)) rfl rfl rfl rfl (VH.mv (fun w' hS => Rn.move rfl) rfl rfl rfl rfl (VH.mv (fun w' hS => Rn.move rfl) rfl rfl rfl rfl ?_))))))
  refine VH.mv (fun w' hS => Rn.sub rfl rfl (by rw [IntKind.wrap_i64]; omega)) rfl rfl rfl rfl ?_
  refine VH.mv (fun w' hS => Rn.load Tryz.isAgg3 rfl ((bn_1.keep hS).cell rfl)) rfl rfl rfl rfl ?_
  refine VH.mv (fun w' hS => Rn.add rfl rfl (by rw [IntKind.wrap_i64]; omega)) rfl rfl rfl rfl ?_
  refine VH.mv (fun w' hS => Rn.load Tryz.isAgg3 rfl ((bn_1.keep hS).cell rfl)) rfl rfl rfl rfl (VH.mv (fun w' hS => Rn.rem0 rfl rfl (by omega) (by omega)) rfl rfl rfl rfl (VH.mv (fun w' hS => Rn.indexS Tryz.underlying39 Tryz.sizeOf53 rfl rfl ((sy_1.keep hS).ne (by omega)) (by omega) (by omega)) rfl rfl rfl rfl (VH.mv (fun w' hS => Rn.load Tryz.isAgg53 rfl ((sy_1.keep hS).getC (by omega) (by omega))) rfl rfl rfl rfl (VH.wk (Wk.call Tryz.call59 rfl (cplx_Mul _ _ _ _ _)) rfl rfl rfl rfl ?_))))
  rintro _ w2 ⟨p2, q2, rfl, F2, c2⟩
  have z2 := c2.size
  have RD_2 := (Ch.refl (No) w1).and c2
  refine ⟨RD_2, ?_⟩
  refine VH.done (VO.mv (Rn.assign rfl) rfl rfl rfl (VO.nil (VQ.noPanic (VQ.then_code (VC.ret (VQ.ret1 rfl rfl (Ret.mk ?_)))))))
  have CH_2 := (Ch.refl (No) w).and (c1.trans c2)
  exact ⟨_, _, rfl, by rw [F2, hme, Int.toNat_natCast, Int.toNat_natCast]; exact (hz.get j hj).mulG (hy.get _ hml) (g1.el hj) (g2.el hml), CH_2⟩
set_option maxHeartbeats 2000000 in
set_option maxRecDepth 100000 in
theorem ring_cyc (pa pb pn : Nat) (SX SY : Nat → Prop) (X Y : Option Addr) (n xc yc : Nat) (us vs us2 vs2 : Nat → Int) (zs ys : List CB) (w : World) (sx : SlR SX w X n 1 (zs.map cxV)) (sy : SlR SY w Y n 1 (ys.map cxV)) (hX : ∀ q, SX q → q < w.heap.size) (hY : ∀ q, SY q → q < w.heap.size) (hn : 1 ≤ n ∧ n ≤ 1024) (hz : WhU n us vs n zs) (hy : WhU n us2 vs2 n ys) (g1 : GB us vs n) (g2 : GB us2 vs2 n) (ba : Bk w pa #[.slice X n xc] 39) (bb : Bk w pb #[.slice Y n yc] 39) (bn : Bk w pn #[.int .i64 n] 3) (ht : ∀ k, Tame (cyR n us vs us2 vs2 k) n ∧ Tame (cyI n us vs us2 vs2 k) n)  :
    Calls Tryz.prog 62 #[.int .i64 n, .func (.func 63) #[] #[.pointer (some ⟨pa, 0, none⟩), .pointer (some ⟨pb, 0, none⟩), .pointer (some ⟨pn, 0, none⟩)]] w (Ret (fun v w' => ∃ q os, v = .slice (some ⟨q, 0, none⟩) n n ∧ CR 53 w' (q + 1) (some ⟨q, 0, none⟩) n n os ∧ WhU n (fun k => isum (cyR n us vs us2 vs2 k) n) (fun k => isum (cyI n us vs us2 vs2 k) n) n os ∧ w.heap.size ≤ q ∧ Ch No w w')) := by
  have lpa := ba.lt; have lpb := bb.lt; have lpn := bn.lt
  refine calls_of_VC (args := [.int .i64 n, .func (.func 63) #[] #[.pointer (some ⟨pa, 0, none⟩), .pointer (some ⟨pb, 0, none⟩), .pointer (some ⟨pn, 0, none⟩)]]) Tryz.func62 rfl Tryz.ntmps62 rfl (VC.seq (VC.region (VO.mv (Rn.assign rfl) rfl rfl rfl (VO.nil (VQ.then_code (VC.seq (VC.region ?_)))))))
  refine VO.mv (Rn.move rfl) rfl rfl rfl (VO.wk (Wk.mkC Tryz.underlying39 inf53w62 rfl rfl (by omega) (by omega) (by omega)) rfl rfl rfl ?_)
  rintro _ w1 ⟨p1, rfl, o1, c1, e1, z1⟩
  refine VO.mv (Rn.assign rfl) rfl rfl rfl (VO.nil (VQ.then_code (VC.seq (VC.region (VO.mv (Rn.move rfl) rfl rfl rfl (VO.wk (Wk.mkC Tryz.underlying39 inf53w62 rfl rfl (by omega) (by omega) (by omega)) rfl rfl rfl ?_))))))
  rintro _ w2 ⟨p2, rfl, o2, c2, e2, z2⟩
  refine VO.mv (Rn.assign rfl) rfl rfl rfl (VO.nil (VQ.then_code (VC.seq (VC.seq (VC.region (VO.mv (Rn.move rfl) rfl rfl rfl (VO.mv (Rn.len Tryz.underlying39 rfl) rfl rfl rfl ?_)))))))
  refine VO.mv (Rn.move rfl) rfl rfl rfl (VO.nil (VQ.then_code (VC.block ?_)))
  have ou_2 := o1.keep c2
  have ba_2 := ba.keep (c1.trans c2)
  have bb_2 := bb.keep (c1.trans c2)
  have bn_2 := bn.keep (c1.trans c2)
  have sx_2 := sx.keep (c1.trans c2)
  have sy_2 := sy.keep (c1.trans c2)
  have CH_2 := (Ch.refl (No) w).and (c1.trans c2)
  refine VC.loopS (σ := Nat × List CB × List CB) (fun (k, os, ps) => [(1, .func (.func 63) #[] #[.pointer (some ⟨pa, 0, none⟩), .pointer (some ⟨pb, 0, none⟩), .pointer (some ⟨pn, 0, none⟩)]), (5, .slice (some ⟨p1, 0, none⟩) n n), (6, .slice (some ⟨p2, 0, none⟩) n n), (14, .int .i64 n), (15, .int .i64 k)]) (fun (k, os, ps) w' => k ≤ n ∧ WhU n (fun k => isum (cyR n us vs us2 vs2 k) n) (fun k => isum (cyI n us vs us2 vs2 k) n) k os ∧ w2.heap.size ≤ w'.heap.size ∧ CR 53 w' (p1 + 1) (some ⟨p1, 0, none⟩) n n os ∧ CR 53 w' (p2 + 1) (some ⟨p2, 0, none⟩) n n ps ∧ Bk w' pa #[.slice X n xc] 39 ∧ Bk w' pb #[.slice Y n yc] 39 ∧ Bk w' pn #[.int .i64 n] 3 ∧ SlR SX w' X n 1 (zs.map cxV) ∧ SlR SY w' Y n 1 (ys.map cxV) ∧ Ch (No) w w') (fun (k, os, ps) => n - k) (0, List.replicate n (0, 0), List.replicate n (0, 0)) ?_ ⟨rfl, rfl, rfl, rfl, rfl, trivial⟩ ?_
  · exact ⟨(by omega), (WhU.zero _ _ _), (Nat.le_refl _), ou_2, o2, ba_2, bb_2, bn_2, sx_2, sy_2, CH_2⟩
  rintro ⟨k, os, ps⟩ w3 ⟨hk, ho, hsz3, ou_3, pr_3, ba_3, bb_3, bn_3, sx_3, sy_3, CH_3⟩
  show VC _ _ _ _ [(1, .func (.func 63) #[] #[.pointer (some ⟨pa, 0, none⟩), .pointer (some ⟨pb, 0, none⟩), .pointer (some ⟨pn, 0, none⟩)]), (5, .slice (some ⟨p1, 0, none⟩) n n), (6, .slice (some ⟨p2, 0, none⟩) n n), (14, .int .i64 n), (15, .int .i64 k)] _
  refine VC.seq (VC.region (VO.mv (Rn.lss rfl rfl) rfl rfl rfl (VO.nil (VQ.then_code (VC.seq (VC.cond_if rfl (fun hc1 => ?_) (fun hc1 => ?_)))))))
  · skip
    refine VC.skip (VQ.then_code (VC.seq (VC.block (VC.seq (VC.region (VO.mv (Rn.move rfl) rfl rfl rfl (VO.mv (Rn.assign rfl) rfl rfl rfl ?_)))))))
    refine VO.nil (VQ.then_code (VC.seq (VC.seq (VC.region (VO.mv (Rn.move rfl) rfl rfl rfl (VO.mv (Rn.len Tryz.underlying39 rfl) rfl rfl rfl (VO.mv (Rn.move rfl) rfl rfl rfl ?_)))))))
    refine VO.nil (VQ.then_code (VC.block (VC.loopS (σ := Nat × List CB) (fun (j, qs) => [(1, .func (.func 63) #[] #[.pointer (some ⟨pa, 0, none⟩), .pointer (some ⟨pb, 0, none⟩), .pointer (some ⟨pn, 0, none⟩)]), (5, .slice (some ⟨p1, 0, none⟩) n n), (6, .slice (some ⟨p2, 0, none⟩) n n), (7, .int .i64 k), (14, .int .i64 n), (15, .int .i64 k), (19, .int .i64 n), (20, .int .i64 j)]) (fun (j, qs) w' => j ≤ n ∧ WhU n (cyR n us vs us2 vs2 k) (cyI n us vs us2 vs2 k) j qs ∧ w3.heap.size ≤ w'.heap.size ∧ CR 53 w' (p1 + 1) (some ⟨p1, 0, none⟩) n n os ∧ CR 53 w' (p2 + 1) (some ⟨p2, 0, none⟩) n n qs ∧ Bk w' pa #[.slice X n xc] 39 ∧ Bk w' pb #[.slice Y n yc] 39 ∧ Bk w' pn #[.int .i64 n] 3 ∧ SlR SX w' X n 1 (zs.map cxV) ∧ SlR SY w' Y n 1 (ys.map cxV) ∧ Ch (No) w w') (fun (j, qs) => n - j) (0, ps) ?_ ⟨rfl, rfl, rfl, rfl, rfl, rfl, rfl, rfl, trivial⟩ ?_)))
    · exact ⟨(by omega), ⟨CR.len pr_3, fun i h => absurd h (by omega)⟩, (Nat.le_refl _), ou_3, pr_3, ba_3, bb_3, bn_3, sx_3, sy_3, CH_3⟩
    rintro ⟨j, qs⟩ w4 ⟨hj, hp, hsz4, ou_4, pr_4, ba_4, bb_4, bn_4, sx_4, sy_4, CH_4⟩
    show VC _ _ _ _ [(1, .func (.func 63) #[] #[.pointer (some ⟨pa, 0, none⟩), .pointer (some ⟨pb, 0, none⟩), .pointer (some ⟨pn, 0, none⟩)]), (5, .slice (some ⟨p1, 0, none⟩) n n), (6, .slice (some ⟨p2, 0, none⟩) n n), (7, .int .i64 k), (14, .int .i64 n), (15, .int .i64 k), (19, .int .i64 n), (20, .int .i64 j)] _
    refine VC.seq (VC.region (VO.mv (Rn.lss rfl rfl) rfl rfl rfl (VO.nil (VQ.then_code (VC.seq (VC.cond_if rfl (fun hc2 => ?_) (fun hc2 => ?_)))))))
    · skip
      refine VC.skip (VQ.then_code (VC.seq (VC.block (VC.seq (VC.region (VO.mv (Rn.move rfl) rfl rfl rfl (VO.mv (Rn.assign rfl) rfl rfl rfl ?_)))))))
      refine VO.nil (VQ.then_code (VC.region (VO.mv (Rn.move rfl) rfl rfl rfl (VO.mv (Rn.move rfl) rfl rfl rfl (VO.mv (Rn.move rfl) rfl rfl rfl (VO.mv (Rn.move rfl) rfl rfl rfl (VO.mv (Rn.move rfl) rfl rfl rfl ?_)))))))
      refine VO.wk (Wk.callv Tryz.call63 rfl rfl (by rfl) (ring_cyc1 pa pb pn _ _ _ _ n _ _ us vs us2 vs2 _ _ k j _ sx_4 sy_4 (fun q hq => by have := hX q hq; omega) (fun q hq => by have := hY q hq; omega) hn hz hy g1 g2 ba_4 bb_4 bn_4 (by omega) (by omega))) rfl rfl rfl ?_
      rintro _ w5 ⟨p5, q5, rfl, F5, c5⟩
      have z5 := c5.size
      have pr_5 := pr_4.keep c5
      refine VO.mv (Rn.indexS Tryz.underlying39 Tryz.sizeOf53 rfl rfl (pr_5.sl.ne (by omega)) (by omega) (by omega)) rfl rfl rfl (VO.wk0 (Wk.putC Tryz.sizeOf53 rfl rfl (by omega) pr_5) rfl rfl ?_)
      rintro _ w6 ⟨o6, c6, z6⟩
      have y6 := o6.lt
      refine VO.nil (VQ.block_normal (VQ.then_code (VC.region ?_)))
      refine VO.mv (Rn.add rfl rfl (by rw [IntKind.wrap_i64]; omega)) rfl rfl rfl ?_
      refine VO.mv (Rn.move rfl) rfl rfl rfl (VO.nil ?_)
      refine VQ.round (j + 1, qs.set j (p5, q5)) (by first | omega | (dsimp only; omega)) ?_ ⟨rfl, rfl, rfl, rfl, rfl, rfl, rfl, rfl, trivial⟩
      have ou_5 := ou_4.keep c5
      have ou_6 := ou_5.to c6 (by first | exact fun _ _ _ _ => id | (intro q h1 h2 hx h3; omega))
      have ba_5 := ba_4.keep c5
      have ba_6 := ba_5.to c6 (by first | exact id | omega)
      have bb_5 := bb_4.keep c5
      have bb_6 := bb_5.to c6 (by first | exact id | omega)
      have bn_5 := bn_4.keep c5
      have bn_6 := bn_5.to c6 (by first | exact id | omega)
      have sx_5 := sx_4.keep c5
      have sx_6 := sx_5.to c6 (by first | exact fun _ _ _ _ => id | (intro q h1 h2 hx h3; have := hX q h2; omega))
      have sy_5 := sy_4.keep c5
      have sy_6 := sy_5.to c6 (by first | exact fun _ _ _ _ => id | (intro q h1 h2 hx h3; have := hY q h2; omega))
      have CH_5 := CH_4.and c5
      have CH_6 : Ch (No) w w6 := CH_5.then c6 (by intro q h1 h2; rcases h2 with h2 | h2 <;> first | exact h2 | (exfalso; omega) | omega)
      exact ⟨(by omega), (hp.step (by omega) F5), (by omega), ou_6, o6, ba_6, bb_6, bn_6, sx_6, sy_6, CH_6⟩
    · skip
      refine VC.exit (VQ.then_exit (VQ.then_exit (VQ.block_exit (VQ.then_code (VC.region (VO.mv (Rn.move rfl) rfl rfl rfl (VO.mv (Rn.move rfl) rfl rfl rfl ?_)))))))
      refine VO.mv (Rn.move rfl) rfl rfl rfl ?_
      refine VO.wk (Wk.call Tryz.call60 rfl (sums_LeftC _ _ n _ _ (cyR n us vs us2 vs2 k) (cyI n us vs us2 vs2 k) _ (pr_4).sl (fun q hq => by have := Ow.lt pr_4; omega) (by omega) (fun i hi => hp.get i (by omega)) (ht k).1 (ht k).2)) rfl rfl rfl ?_
      rintro _ w7 ⟨p7, q7, rfl, F7, c7⟩
      have z7 := c7.size
      have ou_7 := ou_4.keep c7
      refine VO.mv (Rn.indexS Tryz.underlying39 Tryz.sizeOf53 rfl rfl (ou_7.sl.ne (by omega)) (by omega) (by omega)) rfl rfl rfl (VO.wk0 (Wk.putC Tryz.sizeOf53 rfl rfl (by omega) ou_7) rfl rfl ?_)
      rintro _ w8 ⟨o8, c8, z8⟩
      have y8 := o8.lt
      refine VO.nil (VQ.block_normal (VQ.then_code (VC.region ?_)))
      refine VO.mv (Rn.add rfl rfl (by rw [IntKind.wrap_i64]; omega)) rfl rfl rfl ?_
      refine VO.mv (Rn.move rfl) rfl rfl rfl (VO.nil ?_)
      refine VQ.round (k + 1, os.set k (p7, q7), qs) (by first | omega | (dsimp only; omega)) ?_ ⟨rfl, rfl, rfl, rfl, rfl, trivial⟩
      have pr_7 := pr_4.keep c7
      have pr_8 := pr_7.to c8 (by first | exact fun _ _ _ _ => id | (intro q h1 h2 hx h3; omega))
      have ba_7 := ba_4.keep c7
      have ba_8 := ba_7.to c8 (by first | exact id | omega)
      have bb_7 := bb_4.keep c7
      have bb_8 := bb_7.to c8 (by first | exact id | omega)
      have bn_7 := bn_4.keep c7
      have bn_8 := bn_7.to c8 (by first | exact id | omega)
      have sx_7 := sx_4.keep c7
      have sx_8 := sx_7.to c8 (by first | exact fun _ _ _ _ => id | (intro q h1 h2 hx h3; have := hX q h2; omega))
      have sy_7 := sy_4.keep c7
      have sy_8 := sy_7.to c8 (by first | exact fun _ _ _ _ => id | (intro q h1 h2 hx h3; have := hY q h2; omega))
      have CH_7 := CH_4.and c7
      have CH_8 : Ch (No) w w8 := CH_7.then c8 (by intro q h1 h2; rcases h2 with h2 | h2 <;> first | exact h2 | (exfalso; omega) | omega)
      exact ⟨(by omega), (ho.step (by omega) F7), (by omega), o8, pr_8, ba_8, bb_8, bn_8, sx_8, sy_8, CH_8⟩
  · skip
    refine VC.exit (VQ.then_exit (VQ.then_exit (VQ.block_exit (VQ.then_code (VC.seq (VC.region (VO.mv (Rn.move rfl) rfl rfl rfl ?_)))))))
    refine VO.mv (Rn.assign rfl) rfl rfl rfl (VO.nil (VQ.then_code (VC.ret (VQ.ret1 rfl rfl (Ret.mk ?_)))))
    obtain rfl : k = n := by omega
    exact ⟨_, os, rfl, ou_3, ho, by omega, CH_3⟩
set_option maxHeartbeats 1000000 in
set_option maxRecDepth 100000 in
theorem ring_Cyclic (SX SY : Nat → Prop) (X Y : Option Addr) (n xc yc : Nat) (us vs us2 vs2 : Nat → Int) (zs ys : List CB) (w : World) (sx : SlR SX w X n 1 (zs.map cxV)) (sy : SlR SY w Y n 1 (ys.map cxV)) (hX : ∀ q, SX q → q < w.heap.size) (hY : ∀ q, SY q → q < w.heap.size) (hn : 1 ≤ n ∧ n ≤ 1024) (hz : WhU n us vs n zs) (hy : WhU n us2 vs2 n ys) (g1 : GB us vs n) (g2 : GB us2 vs2 n)  :
    Calls Tryz.prog 32 #[.slice X n xc, .slice Y n yc] w (Ret (fun v w' => ∃ q os, v = .tuple #[.slice (some ⟨q, 0, none⟩) n n, .nilIface] ∧ CR 53 w' (q + 1) (some ⟨q, 0, none⟩) n n os ∧ WhU n (fun k => isum (cyR n us vs us2 vs2 k) n) (fun k => isum (cyI n us vs us2 vs2 k) n) n os ∧ w.heap.size ≤ q ∧ Ch No w w')) := by
  refine calls_of_VC (args := [.slice X n xc, .slice Y n yc]) Tryz.func32 rfl Tryz.ntmps32 rfl (VC.seq (VC.region (VO.wk (Wk.box rfl) rfl rfl rfl ?_)))
  rintro _ w1 ⟨p1, rfl, N1⟩
  have c1 := N1.ch
  have e1 := N1.p; have z1 := N1.size
  have b2 := Bk.new N1
  refine VO.wk (Wk.box rfl) rfl rfl rfl ?_
  rintro _ w2 ⟨p2, rfl, N2⟩
  have c2 := N2.ch
  have e2 := N2.p; have z2 := N2.size
  have b3 := Bk.new N2
  refine VO.mv (Rn.assign rfl) rfl rfl rfl (VO.mv (Rn.assign rfl) rfl rfl rfl (VO.nil (VQ.then_code (VC.seq (VC.seq (VC.region ?_))))))
  have b2_2 := b2.keep c2
  refine VO.mv (Rn.load Tryz.isAgg39 rfl (b2_2.cell rfl)) rfl rfl rfl (VO.mv (Rn.load Tryz.isAgg39 rfl (b3.cell rfl)) rfl rfl rfl (VO.wk (Wk.call Tryz.call61 rfl (ring_side _ _ _ _ _ _ hn)) rfl rfl rfl ?_))
  rintro _ _ ⟨rfl, rfl⟩
  refine VO.mv (Rn.not rfl) rfl rfl rfl (VO.nil (VQ.then_code (VC.cond_false rfl (VC.skip (VQ.then_code (VC.seq (VC.region ?_)))))))
  refine VO.mv (Rn.load Tryz.isAgg39 rfl (b2_2.cell rfl)) rfl rfl rfl (VO.mv (Rn.len Tryz.underlying39 rfl) rfl rfl rfl (VO.wk (Wk.alloc Tryz.zeroValue3) rfl rfl rfl ?_))
  rintro _ w3 ⟨p3, rfl, N3⟩
  have c3 := N3.ch
  have e3 := N3.p; have z3 := N3.size
  have b6 := Bk.new N3
  refine VO.wk0 (Wk.put Tryz.sizeOf3 rfl rfl rfl rfl b6 rfl) rfl rfl ?_
  intro _ w4 Z4
  have c4 := Z4.ch; have z4 := Z4.size
  have b6_4 := Bk.put Z4
  refine VO.nil (VQ.then_code (VC.seq (VC.region (VO.mv (Rn.load Tryz.isAgg3 rfl (b6_4.cell rfl)) rfl rfl rfl (VO.mv (Rn.func rfl rfl) rfl rfl rfl ?_)))))
  have cc_0_4 : Ch No w w4 := (Ch.then (E := No) ((c1.and c2).and c3) c4 (by intro q h1 h2; rcases h2 with h2 | h2 <;> first | exact h2 | (exfalso; omega)))
  have sx_4 := sx.keep cc_0_4
  have sy_4 := sy.keep cc_0_4
  have cc_2_4 : Ch No w2 w4 := (Ch.then (E := No) c3 c4 (by intro q h1 h2; rcases h2 with h2 | h2 <;> first | exact h2 | (exfalso; omega)))
  have b2_4 := b2_2.keep cc_2_4
  have b3_4 := b3.keep cc_2_4
  refine VO.wk (Wk.call Tryz.call62 rfl (ring_cyc p1 p2 p3 _ _ _ _ n _ _ us vs us2 vs2 _ _ _ sx_4 sy_4 (fun q hq => by have := hX q hq; omega) (fun q hq => by have := hY q hq; omega) hn hz hy g1 g2 b2_4 b3_4 b6_4 (fun k => cy_tame g1 g2 (by omega)))) rfl rfl rfl ?_
  rintro _ w5 ⟨q5, os5, rfl, ou5, ho5, e5, c5⟩
  have z5 := c5.size
  refine VO.mv (Rn.assign rfl) rfl rfl rfl (VO.mv (Rn.assign rfl) rfl rfl rfl (VO.nil (VQ.then_code (VC.ret (VQ.ret2 rfl rfl rfl (Ret.mk ?_))))))
  have cc_0_5 : Ch No w w5 := ((Ch.then (E := No) ((c1.and c2).and c3) c4 (by intro q h1 h2; rcases h2 with h2 | h2 <;> first | exact h2 | (exfalso; omega))).and c5)
  have CH_5 := (Ch.refl (No) w).and cc_0_5
  exact ⟨_, _, rfl, ou5, ho5, by omega, CH_5⟩
set_option maxRecDepth 100000 in
theorem ring_cor1 (pa pb pn : Nat) (SX SY : Nat → Prop) (X Y : Option Addr) (n xc yc : Nat) (us vs us2 vs2 : Nat → Int) (zs ys : List CB) (k j : Nat) (w : World) (sx : SlR SX w X n 1 (zs.map cxV)) (sy : SlR SY w Y n 1 (ys.map cxV)) (hX : ∀ q, SX q → q < w.heap.size) (hY : ∀ q, SY q → q < w.heap.size) (hn : 1 ≤ n ∧ n ≤ 1024) (hz : WhU n us vs n zs) (hy : WhU n us2 vs2 n ys) (g1 : GB us vs n) (g2 : GB us2 vs2 n) (ba : Bk w pa #[.slice X n xc] 39) (bb : Bk w pb #[.slice Y n yc] 39) (bn : Bk w pn #[.int .i64 n] 3) (hk : k < n) (hj : j < n) :
    Calls Tryz.prog 64 #[.int .i64 k, .int .i64 j, .pointer (some ⟨pa, 0, none⟩), .pointer (some ⟨pn, 0, none⟩), .pointer (some ⟨pb, 0, none⟩)] w (Ret (fun v w' => ∃ p q, v = .complex .f64 p q ∧ WhC (cx (p, q)) (coR n us vs us2 vs2 k j) (coI n us vs us2 vs2 k j) ∧ Ch No w w')) := by
  have hme : ((j : Int) + k) % n = (((j + k) % n : Nat) : Int) := rfl
  have hml := Nat.mod_lt (j + k) (show 0 < n by omega)
  refine calls_of_VC (args := [.int .i64 k, .int .i64 j, .pointer (some ⟨pa, 0, none⟩), .pointer (some ⟨pn, 0, none⟩), .pointer (some ⟨pb, 0, none⟩)]) Tryz.func64 rfl Tryz.ntmps64 rfl (VC.seq (VC.region (VO.mv (Rn.assign rfl) rfl rfl rfl (VO.nil (VQ.then_code (VC.seq (VC.draws 14 [(0, true), (1, true), (2, true), (3, true), (4, true), (5, true), (6, true), (7, true), (8, true), (9, true), (10, true), (11, true), (12, false), (13, false)] (fun w1 w' => Ch (No) w1 w') mixed (by kernel_rfl) (fun _ _ => Ch.refl _ _) ?_)))))))
  intro w1 D1
  have c1 := Ch.of_drew D1; have z1 := c1.size
  have ba_1 := ba.keep c1
  have bb_1 := bb.keep c1
  have bn_1 := bn.keep c1
  have sx_1 := sx.keep c1
  have sy_1 := sy.keep c1
  refine VH.mv (fun w' hS => Rn.load Tryz.isAgg39 rfl ((ba_1.keep hS).cell rfl)) rfl rfl rfl rfl (VH.mv (fun w' hS => Rn.move rfl) rfl rfl rfl rfl (VH.mv (fun w' hS => Rn.move rfl) rfl rfl rfl rfl ?_))
  refine VH.mv (fun w' hS => Rn.add rfl rfl (by rw [IntKind.wrap_i64]; omega)) rfl rfl rfl rfl ?_
  refine VH.mv (fun w' hS => Rn.load Tryz.isAgg3 rfl ((bn_1.keep hS).cell rfl)) rfl rfl rfl rfl (VH.mv (fun w' hS => Rn.rem0 rfl rfl (by omega) (by omega)) rfl rfl rfl rfl (VH.mv (fun w' hS => Rn.indexS Tryz.underlying39 Tryz.sizeOf53 rfl rfl ((sx_1.keep hS).ne (by omega)) (by omega) (by omega)) rfl rfl rfl rfl (VH.mv (fun w' hS => Rn.load Tryz.isAgg53 rfl ((sx_1.keep hS).getC (by omega) (by omega))) rfl rfl rfl rfl (VH.mv (fun w' hS => Rn.load Tryz.isAgg39 rfl ((bb_1.keep hS).cell rfl)) rfl rfl rfl rfl (VH.mv (fun w' hS => Rn.move rfl) rfl rfl rfl rfl (VH.mv (fun w' hS => Rn.indexS Tryz.underlying39 Tryz.sizeOf53 rfl rfl ((sy_1.keep hS).ne (by omega)) (by omega) (by omega)) rfl rfl rfl rfl (VH.mv (fun w' hS => Rn.load Tryz.isAgg53 rfl ((sy_1.keep hS).getC (by omega) (by omega))) rfl rfl rfl rfl ?_)))))))
  refine VH.wk (Wk.call Tryz.call47 rfl (cplx_Conj _ _ _)) rfl rfl rfl rfl ?_
  rintro _ w2 ⟨p2, q2, rfl, F2, c2⟩
  have z2 := c2.size
  have RD_2 := (Ch.refl (No) w1).and c2
  refine ⟨RD_2, ?_⟩
  refine VH.wk (Wk.call Tryz.call59 rfl (cplx_Mul _ _ _ _ _)) rfl rfl rfl rfl ?_
  rintro _ w3 ⟨p3, q3, rfl, F3, c3⟩
  have z3 := c3.size
  have RD_3 := RD_2.and c3
  refine ⟨RD_3, ?_⟩
  refine VH.done (VO.mv (Rn.assign rfl) rfl rfl rfl (VO.nil (VQ.noPanic (VQ.then_code (VC.ret (VQ.ret1 rfl rfl (Ret.mk ?_)))))))
  have CH_3 := (Ch.refl (No) w).and (c1.trans (c2.trans c3))
  exact ⟨_, _, rfl, by rw [F3, F2, hme, Int.toNat_natCast, Int.toNat_natCast]; exact (hz.get _ hml).mulG ((hy.get j hj).conj (by have := g2.el hj; omega)) (g1.el hml) (g2.conj.el hj), CH_3⟩
set_option maxHeartbeats 2000000 in
set_option maxRecDepth 100000 in
theorem ring_cor (pa pb pn : Nat) (SX SY : Nat → Prop) (X Y : Option Addr) (n xc yc : Nat) (us vs us2 vs2 : Nat → Int) (zs ys : List CB) (w : World) (sx : SlR SX w X n 1 (zs.map cxV)) (sy : SlR SY w Y n 1 (ys.map cxV)) (hX : ∀ q, SX q → q < w.heap.size) (hY : ∀ q, SY q → q < w.heap.size) (hn : 1 ≤ n ∧ n ≤ 1024) (hz : WhU n us vs n zs) (hy : WhU n us2 vs2 n ys) (g1 : GB us vs n) (g2 : GB us2 vs2 n) (ba : Bk w pa #[.slice X n xc] 39) (bb : Bk w pb #[.slice Y n yc] 39) (bn : Bk w pn #[.int .i64 n] 3) (ht : ∀ k, Tame (coR n us vs us2 vs2 k) n ∧ Tame (coI n us vs us2 vs2 k) n)  :
    Calls Tryz.prog 62 #[.int .i64 n, .func (.func 64) #[] #[.pointer (some ⟨pa, 0, none⟩), .pointer (some ⟨pn, 0, none⟩), .pointer (some ⟨pb, 0, none⟩)]] w (Ret (fun v w' => ∃ q os, v = .slice (some ⟨q, 0, none⟩) n n ∧ CR 53 w' (q + 1) (some ⟨q, 0, none⟩) n n os ∧ WhU n (fun k => isum (coR n us vs us2 vs2 k) n) (fun k => isum (coI n us vs us2 vs2 k) n) n os ∧ w.heap.size ≤ q ∧ Ch No w w')) := by
  have lpa := ba.lt; have lpb := bb.lt; have lpn := bn.lt
  refine calls_of_VC (args := [.int .i64 n, .func (.func 64) #[] #[.pointer (some ⟨pa, 0, none⟩), .pointer (some ⟨pn, 0, none⟩), .pointer (some ⟨pb, 0, none⟩)]]) Tryz.func62 rfl Tryz.ntmps62 rfl (VC.seq (VC.region (VO.mv (Rn.assign rfl) rfl rfl rfl (VO.nil (VQ.then_code (VC.seq (VC.region ?_)))))))
  refine VO.mv (Rn.move rfl) rfl rfl rfl (VO.wk (Wk.mkC Tryz.underlying39 inf53w62 rfl rfl (by omega) (by omega) (by omega)) rfl rfl rfl ?_)
  rintro _ w1 ⟨p1, rfl, o1, c1, e1, z1⟩
  refine VO.mv (Rn.assign rfl) rfl rfl rfl (VO.nil (VQ.then_code (VC.seq (VC.region (VO.mv (Rn.move rfl) rfl rfl rfl (VO.wk (Wk.mkC Tryz.underlying39 inf53w62 rfl rfl (by omega) (by omega) (by omega)) rfl rfl rfl ?_))))))
  rintro _ w2 ⟨p2, rfl, o2, c2, e2, z2⟩
  refine VO.mv (Rn.assign rfl) rfl rfl rfl (VO.nil (VQ.then_code (VC.seq (VC.seq (VC.region (VO.mv (Rn.move rfl) rfl rfl rfl (VO.mv (Rn.len Tryz.underlying39 rfl) rfl rfl rfl ?_)))))))
  refine VO.mv (Rn.move rfl) rfl rfl rfl (VO.nil (VQ.then_code (VC.block ?_)))
  have ou_2 := o1.keep c2
  have ba_2 := ba.keep (c1.trans c2)
  have bb_2 := bb.keep (c1.trans c2)
  have bn_2 := bn.keep (c1.trans c2)
  have sx_2 := sx.keep (c1.trans c2)
  have sy_2 := sy.keep (c1.trans c2)
  have CH_2 := (Ch.refl (No) w).and (c1.trans c2)
  refine VC.loopS (σ := Nat × List CB × List CB) (fun (k, os, ps) => [(1, .func (.func 64) #[] #[.pointer (some ⟨pa, 0, none⟩), .pointer (some ⟨pn, 0, none⟩), .pointer (some ⟨pb, 0, none⟩)]), (5, .slice (some ⟨p1, 0, none⟩) n n), (6, .slice (some ⟨p2, 0, none⟩) n n), (14, .int .i64 n), (15, .int .i64 k)]) (fun (k, os, ps) w' => k ≤ n ∧ WhU n (fun k => isum (coR n us vs us2 vs2 k) n) (fun k => isum (coI n us vs us2 vs2 k) n) k os ∧ w2.heap.size ≤ w'.heap.size ∧ CR 53 w' (p1 + 1) (some ⟨p1, 0, none⟩) n n os ∧ CR 53 w' (p2 + 1) (some ⟨p2, 0, none⟩) n n ps ∧ Bk w' pa #[.slice X n xc] 39 ∧ Bk w' pb #[.slice Y n yc] 39 ∧ Bk w' pn #[.int .i64 n] 3 ∧ SlR SX w' X n 1 (zs.map cxV) ∧ SlR SY w' Y n 1 (ys.map cxV) ∧ Ch (No) w w') (fun (k, os, ps) => n - k) (0, List.replicate n (0, 0), List.replicate n (0, 0)) ?_ ⟨rfl, rfl, rfl, rfl, rfl, trivial⟩ ?_
  · exact ⟨(by omega), (WhU.zero _ _ _), (Nat.le_refl _), ou_2, o2, ba_2, bb_2, bn_2, sx_2, sy_2, CH_2⟩
  rintro ⟨k, os, ps⟩ w3 ⟨hk, ho, hsz3, ou_3, pr_3, ba_3, bb_3, bn_3, sx_3, sy_3, CH_3⟩
  show VC _ _ _ _ [(1, .func (.func 64) #[] #[.pointer (some ⟨pa, 0, none⟩), .pointer (some ⟨pn, 0, none⟩), .pointer (some ⟨pb, 0, none⟩)]), (5, .slice (some ⟨p1, 0, none⟩) n n), (6, .slice (some ⟨p2, 0, none⟩) n n), (14, .int .i64 n), (15, .int .i64 k)] _
  refine VC.seq (VC.region (VO.mv (Rn.lss rfl rfl) rfl rfl rfl (VO.nil (VQ.then_code (VC.seq (VC.cond_if rfl (fun hc1 => ?_) (fun hc1 => ?_)))))))
  · skip
    refine VC.skip (VQ.then_code (VC.seq (VC.block (VC.seq (VC.region (VO.mv (Rn.move rfl) rfl rfl rfl (VO.mv (Rn.assign rfl) rfl rfl rfl ?_)))))))
    refine VO.nil (VQ.then_code (VC.seq (VC.seq (VC.region (VO.mv (Rn.move rfl) rfl rfl rfl (VO.mv (Rn.len Tryz.underlying39 rfl) rfl rfl rfl (VO.mv (Rn.move rfl) rfl rfl rfl ?_)))))))
    refine VO.nil (VQ.then_code (VC.block (VC.loopS (σ := Nat × List CB) (fun (j, qs) => [(1, .func (.func 64) #[] #[.pointer (some ⟨pa, 0, none⟩), .pointer (some ⟨pn, 0, none⟩), .pointer (some ⟨pb, 0, none⟩)]), (5, .slice (some ⟨p1, 0, none⟩) n n), (6, .slice (some ⟨p2, 0, none⟩) n n), (7, .int .i64 k), (14, .int .i64 n), (15, .int .i64 k), (19, .int .i64 n), (20, .int .i64 j)]) (fun (j, qs) w' => j ≤ n ∧ WhU n (coR n us vs us2 vs2 k) (coI n us vs us2 vs2 k) j qs ∧ w3.heap.size ≤ w'.heap.size ∧ CR 53 w' (p1 + 1) (some ⟨p1, 0, none⟩) n n os ∧ CR 53 w' (p2 + 1) (some ⟨p2, 0, none⟩) n n qs ∧ Bk w' pa #[.slice X n xc] 39 ∧ Bk w' pb #[.slice Y n yc] 39 ∧ Bk w' pn #[.int .i64 n] 3 ∧ SlR SX w' X n 1 (zs.map cxV) ∧ SlR SY w' Y n 1 (ys.map cxV) ∧ Ch (No) w w') (fun (j, qs) => n - j) (0, ps) ?_ ⟨rfl, rfl, rfl, rfl, rfl, rfl, rfl, rfl, trivial⟩ ?_)))
    · exact ⟨(by omega), ⟨CR.len pr_3, fun i h => absurd h (by omega)⟩, (Nat.le_refl _), ou_3, pr_3, ba_3, bb_3, bn_3, sx_3, sy_3, CH_3⟩
    rintro ⟨j, qs⟩ w4 ⟨hj, hp, hsz4, ou_4, pr_4, ba_4, bb_4, bn_4, sx_4, sy_4, CH_4⟩
    show VC _ _ _ _ [(1, .func (.func 64) #[] #[.pointer (some ⟨pa, 0, none⟩), .pointer (some ⟨pn, 0, none⟩), .pointer (some ⟨pb, 0, none⟩)]), (5, .slice (some ⟨p1, 0, none⟩) n n), (6, .slice (some ⟨p2, 0, none⟩) n n), (7, .int .i64 k), (14, .int .i64 n), (15, .int .i64 k), (19, .int .i64 n), (20, .int .i64 j)] _
    refine VC.seq (VC.region (VO.mv (Rn.lss rfl rfl) rfl rfl rfl (VO.nil (VQ.then_code (VC.seq (VC.cond_if rfl (fun hc2 => ?_) (fun hc2 => ?_)))))))
    · skip
      refine VC.skip (VQ.then_code (VC.seq (VC.block (VC.seq (VC.region (VO.mv (Rn.move rfl) rfl rfl rfl (VO.mv (Rn.assign rfl) rfl rfl rfl ?_)))))))
      refine VO.nil (VQ.then_code (VC.region (VO.mv (Rn.move rfl) rfl rfl rfl (VO.mv (Rn.move rfl) rfl rfl rfl (VO.mv (Rn.move rfl) rfl rfl rfl (VO.mv (Rn.move rfl) rfl rfl rfl (VO.mv (Rn.move rfl) rfl rfl rfl ?_)))))))
      refine VO.wk (Wk.callv Tryz.call64 rfl rfl (by rfl) (ring_cor1 pa pb pn _ _ _ _ n _ _ us vs us2 vs2 _ _ k j _ sx_4 sy_4 (fun q hq => by have := hX q hq; omega) (fun q hq => by have := hY q hq; omega) hn hz hy g1 g2 ba_4 bb_4 bn_4 (by omega) (by omega))) rfl rfl rfl ?_
      rintro _ w5 ⟨p5, q5, rfl, F5, c5⟩
      have z5 := c5.size
      have pr_5 := pr_4.keep c5
      refine VO.mv (Rn.indexS Tryz.underlying39 Tryz.sizeOf53 rfl rfl (pr_5.sl.ne (by omega)) (by omega) (by omega)) rfl rfl rfl (VO.wk0 (Wk.putC Tryz.sizeOf53 rfl rfl (by omega) pr_5) rfl rfl ?_)
      rintro _ w6 ⟨o6, c6, z6⟩
      have y6 := o6.lt
      refine VO.nil (VQ.block_normal (VQ.then_code (VC.region ?_)))
      refine VO.mv (Rn.add rfl rfl (by rw [IntKind.wrap_i64]; omega)) rfl rfl rfl ?_
      refine VO.mv (Rn.move rfl) rfl rfl rfl (VO.nil ?_)
      refine VQ.round (j + 1, qs.set j (p5, q5)) (by first | omega | (dsimp only; omega)) ?_ ⟨rfl, rfl, rfl, rfl, rfl, rfl, rfl, rfl, trivial⟩
      have ou_5 := ou_4.keep c5
      have ou_6 := ou_5.to c6 (by first | exact fun _ _ _ _ => id | (intro q h1 h2 hx h3; omega))
      have ba_5 := ba_4.keep c5
      have ba_6 := ba_5.to c6 (by first | exact id | omega)
      have bb_5 := bb_4.keep c5
      have bb_6 := bb_5.to c6 (by first | exact id | omega)
      have bn_5 := bn_4.keep c5
      have bn_6 := bn_5.to c6 (by first | exact id | omega)
      have sx_5 := sx_4.keep c5
      have sx_6 := sx_5.to c6 (by first | exact fun _ _ _ _ => id | (intro q h1 h2 hx h3; have := hX q h2; omega))
      have sy_5 := sy_4.keep c5
      have sy_6 := sy_5.to c6 (by first | exact fun _ _ _ _ => id | (intro q h1 h2 hx h3; have := hY q h2; omega))
      have CH_5 := CH_4.and c5
      have CH_6 : Ch (No) w w6 := CH_5.then c6 (by intro q h1 h2; rcases h2 with h2 | h2 <;> first | exact h2 | (exfalso; omega) | omega)
      exact ⟨(by omega), (hp.step (by omega) F5), (by omega), ou_6, o6, ba_6, bb_6, bn_6, sx_6, sy_6, CH_6⟩
    · skip
      refine VC.exit (VQ.then_exit (VQ.then_exit (VQ.block_exit (VQ.then_code (VC.region (VO.mv (Rn.move rfl) rfl rfl rfl (VO.mv (Rn.move rfl) rfl rfl rfl ?_)))))))
      refine VO.mv (Rn.move rfl) rfl rfl rfl ?_
      refine VO.wk (Wk.call Tryz.call60 rfl (sums_LeftC _ _ n _ _ (coR n us vs us2 vs2 k) (coI n us vs us2 vs2 k) _ (pr_4).sl (fun q hq => by have := Ow.lt pr_4; omega) (by omega) (fun i hi => hp.get i (by omega)) (ht k).1 (ht k).2)) rfl rfl rfl ?_
      rintro _ w7 ⟨p7, q7, rfl, F7, c7⟩
      have z7 := c7.size
      have ou_7 := ou_4.keep c7
      refine VO.mv (Rn.indexS Tryz.underlying39 Tryz.sizeOf53 rfl rfl (ou_7.sl.ne (by omega)) (by omega) (by omega)) rfl rfl rfl (VO.wk0 (Wk.putC Tryz.sizeOf53 rfl rfl (by omega) ou_7) rfl rfl ?_)
      rintro _ w8 ⟨o8, c8, z8⟩
      have y8 := o8.lt
      refine VO.nil (VQ.block_normal (VQ.then_code (VC.region ?_)))
      refine VO.mv (Rn.add rfl rfl (by rw [IntKind.wrap_i64]; omega)) rfl rfl rfl ?_
      refine VO.mv (Rn.move rfl) rfl rfl rfl (VO.nil ?_)
      refine VQ.round (k + 1, os.set k (p7, q7), qs) (by first | omega | (dsimp only; omega)) ?_ ⟨rfl, rfl, rfl, rfl, rfl, trivial⟩
      have pr_7 := pr_4.keep c7
      have pr_8 := pr_7.to c8 (by first | exact fun _ _ _ _ => id | (intro q h1 h2 hx h3; omega))
      have ba_7 := ba_4.keep c7
      have ba_8 := ba_7.to c8 (by first | exact id | omega)
      have bb_7 := bb_4.keep c7
      have bb_8 := bb_7.to c8 (by first | exact id | omega)
      have bn_7 := bn_4.keep c7
      have bn_8 := bn_7.to c8 (by first | exact id | omega)
      have sx_7 := sx_4.keep c7
      have sx_8 := sx_7.to c8 (by first | exact fun _ _ _ _ => id | (intro q h1 h2 hx h3; have := hX q h2; omega))
      have sy_7 := sy_4.keep c7
      have sy_8 := sy_7.to c8 (by first | exact fun _ _ _ _ => id | (intro q h1 h2 hx h3; have := hY q h2; omega))
      have CH_7 := CH_4.and c7
      have CH_8 : Ch (No) w w8 := CH_7.then c8 (by intro q h1 h2; rcases h2 with h2 | h2 <;> first | exact h2 | (exfalso; omega) | omega)
      exact ⟨(by omega), (ho.step (by omega) F7), (by omega), o8, pr_8, ba_8, bb_8, bn_8, sx_8, sy_8, CH_8⟩
  · skip
    refine VC.exit (VQ.then_exit (VQ.then_exit (VQ.block_exit (VQ.then_code (VC.seq (VC.region (VO.mv (Rn.move rfl) rfl rfl rfl ?_)))))))
    refine VO.mv (Rn.assign rfl) rfl rfl rfl (VO.nil (VQ.then_code (VC.ret (VQ.ret1 rfl rfl (Ret.mk ?_)))))
    obtain rfl : k = n := by omega
    exact ⟨_, os, rfl, ou_3, ho, by omega, CH_3⟩
set_option maxHeartbeats 1000000 in
set_option maxRecDepth 100000 in
theorem ring_Correlate (SX SY : Nat → Prop) (X Y : Option Addr) (n xc yc : Nat) (us vs us2 vs2 : Nat → Int) (zs ys : List CB) (w : World) (sx : SlR SX w X n 1 (zs.map cxV)) (sy : SlR SY w Y n 1 (ys.map cxV)) (hX : ∀ q, SX q → q < w.heap.size) (hY : ∀ q, SY q → q < w.heap.size) (hn : 1 ≤ n ∧ n ≤ 1024) (hz : WhU n us vs n zs) (hy : WhU n us2 vs2 n ys) (g1 : GB us vs n) (g2 : GB us2 vs2 n)  :
    Calls Tryz.prog 34 #[.slice X n xc, .slice Y n yc] w (Ret (fun v w' => ∃ q os, v = .tuple #[.slice (some ⟨q, 0, none⟩) n n, .nilIface] ∧ CR 53 w' (q + 1) (some ⟨q, 0, none⟩) n n os ∧ WhU n (fun k => isum (coR n us vs us2 vs2 k) n) (fun k => isum (coI n us vs us2 vs2 k) n) n os ∧ w.heap.size ≤ q ∧ Ch No w w')) := by
  refine calls_of_VC (args := [.slice X n xc, .slice Y n yc]) Tryz.func34 rfl Tryz.ntmps34 rfl (VC.seq (VC.region (VO.wk (Wk.box rfl) rfl rfl rfl ?_)))
  rintro _ w1 ⟨p1, rfl, N1⟩
  have c1 := N1.ch
  have e1 := N1.p; have z1 := N1.size
  have b2 := Bk.new N1
  refine VO.wk (Wk.box rfl) rfl rfl rfl ?_
  rintro _ w2 ⟨p2, rfl, N2⟩
  have c2 := N2.ch
  have e2 := N2.p; have z2 := N2.size
  have b3 := Bk.new N2
  refine VO.mv (Rn.assign rfl) rfl rfl rfl (VO.mv (Rn.assign rfl) rfl rfl rfl (VO.nil (VQ.then_code (VC.seq (VC.seq (VC.region ?_))))))
  have b2_2 := b2.keep c2
  refine VO.mv (Rn.load Tryz.isAgg39 rfl (b2_2.cell rfl)) rfl rfl rfl (VO.mv (Rn.load Tryz.isAgg39 rfl (b3.cell rfl)) rfl rfl rfl (VO.wk (Wk.call Tryz.call61 rfl (ring_side _ _ _ _ _ _ hn)) rfl rfl rfl ?_))
  rintro _ _ ⟨rfl, rfl⟩
  refine VO.mv (Rn.not rfl) rfl rfl rfl (VO.nil (VQ.then_code (VC.cond_false rfl (VC.skip (VQ.then_code (VC.seq (VC.region ?_)))))))
  refine VO.mv (Rn.load Tryz.isAgg39 rfl (b2_2.cell rfl)) rfl rfl rfl (VO.mv (Rn.len Tryz.underlying39 rfl) rfl rfl rfl (VO.wk (Wk.alloc Tryz.zeroValue3) rfl rfl rfl ?_))
  rintro _ w3 ⟨p3, rfl, N3⟩
  have c3 := N3.ch
  have e3 := N3.p; have z3 := N3.size
  have b6 := Bk.new N3
  refine VO.wk0 (Wk.put Tryz.sizeOf3 rfl rfl rfl rfl b6 rfl) rfl rfl ?_
  intro _ w4 Z4
  have c4 := Z4.ch; have z4 := Z4.size
  have b6_4 := Bk.put Z4
  refine VO.nil (VQ.then_code (VC.seq (VC.region (VO.mv (Rn.load Tryz.isAgg3 rfl (b6_4.cell rfl)) rfl rfl rfl (VO.mv (Rn.func rfl rfl) rfl rfl rfl ?_)))))
  have cc_0_4 : Ch No w w4 := (Ch.then (E := No) ((c1.and c2).and c3) c4 (by intro q h1 h2; rcases h2 with h2 | h2 <;> first | exact h2 | (exfalso; omega)))
  have sx_4 := sx.keep cc_0_4
  have sy_4 := sy.keep cc_0_4
  have cc_2_4 : Ch No w2 w4 := (Ch.then (E := No) c3 c4 (by intro q h1 h2; rcases h2 with h2 | h2 <;> first | exact h2 | (exfalso; omega)))
  have b2_4 := b2_2.keep cc_2_4
  have b3_4 := b3.keep cc_2_4
  refine VO.wk (Wk.call Tryz.call62 rfl (ring_cor p1 p2 p3 _ _ _ _ n _ _ us vs us2 vs2 _ _ _ sx_4 sy_4 (fun q hq => by have := hX q hq; omega) (fun q hq => by have := hY q hq; omega) hn hz hy g1 g2 b2_4 b3_4 b6_4 (fun k => co_tame g1 g2 (by omega)))) rfl rfl rfl ?_
  rintro _ w5 ⟨q5, os5, rfl, ou5, ho5, e5, c5⟩
  have z5 := c5.size
  refine VO.mv (Rn.assign rfl) rfl rfl rfl (VO.mv (Rn.assign rfl) rfl rfl rfl (VO.nil (VQ.then_code (VC.ret (VQ.ret2 rfl rfl rfl (Ret.mk ?_))))))
  have cc_0_5 : Ch No w w5 := ((Ch.then (E := No) ((c1.and c2).and c3) c4 (by intro q h1 h2; rcases h2 with h2 | h2 <;> first | exact h2 | (exfalso; omega))).and c5)
  have CH_5 := (Ch.refl (No) w).and cc_0_5
  exact ⟨_, _, rfl, ou5, ho5, by omega, CH_5⟩
end Go.Tm
namespace Go.Tm
open Go.RowKit
section
variable {P : Program} {n : Fr} {k : K} {w : World} {d : Option Tmp} {ty : TypeId} {pos : String} {aft : Array Edge} {g : Option (Nat × Bool)}
theorem Wk.mkC0 {t e : TypeId} {by' : Nat} {x y : Operand} {ql qc : IntKind} {c : Int} (ht : P.underlying t = some (.slice e)) (hi : Inf P e (.complex .f64 0 0) 1 by') (hx : ev k x = some (.int ql 0)) (hy : ev k y = some (.int qc c)) (h0 : 0 ≤ c) (hb : (by' : Int) * c ≤ 281474976710656) (hm : c ≤ 281474976710656) :
    Wk P n k w { dst := d, op := .makeSlice t x y, type := ty, pos := pos, after := aft, guard := g }
      (fun v w' => ∃ p, v = .slice (some ⟨p, 0, none⟩) 0 c.toNat ∧ CR e w' (p + 1) (some ⟨p, 0, none⟩) 0 c.toNat [] ∧ Ch No w w' ∧ p = w.heap.size ∧ w'.heap.size = w.heap.size + 1) :=
  (Wk.make ht hi hx hy (Int.le_refl _) h0 hb (by omega)).mono fun v w' ⟨p, hv, N⟩ => by
    rw [Nat.mul_one] at N
    have e1 : (Value.complex .f64 0 0).cells = #[.complex .f64 0 0] := rfl
    rw [e1, made_one] at N
    exact ⟨p, hv, ⟨rfl, .inr ⟨p, _, rfl, rfl, N.blk, Nat.zero_le _, by simp only [maxLen]; omega, by simp, by simp⟩⟩, N.ch, N.p, N.size⟩
theorem Wk.appendIn {S : Nat → Prop} {r : Nat} {t e : TypeId} {z : Value} {sz by' : Nat} {x y : Operand} (ht : P.underlying t = some (.slice e)) (hi : Inf P e z sz by')
    {A : Option Addr} {l c : Nat} {cs : List Value} {X : Option Addr} {m xc : Nat} {news : List Value} (hex : ev k x = some (.slice A l c)) (hey : ev k y = some (.slice X m xc)) (hown : Ow w r e sz A l c cs) (hx : SlR S w X m sz news) (h1 : news.all Value.oneCell' = true)
    (hm : 0 < m) (hroom : l + m ≤ c) :
    Wk P n k w { dst := d, op := .call { callee := .builtin .append, args := #[x, y], argTypes := #[t, t] }, type := ty, pos := pos, after := aft, guard := g }
      (fun v w' => v = .slice A (l + m) c ∧ Ow w' r e sz A (l + m) c (cs ++ news) ∧ Ch (At r) w w') :=
  Wk.of_run fun a ha => by
    obtain ⟨i, hi, hz, rfl, rfl⟩ := hi
    obtain ⟨hlen0, hown⟩ := hown
    have hl : news.length = m * i.size := hx.len
    have hlen : (cs ++ news).length = (l + m) * i.size := by rw [List.length_append, hlen0, hl, Nat.add_mul]
    obtain ⟨ad, rfl⟩ := hx.ne hm
    have hnews : ∀ j u, news[j]? = some u → w.cell? (ad.add j) = some u := hx.cells ad rfl
    rcases hown with ⟨rfl, rfl, rfl, rfl⟩ | ⟨p, cur, rfl, rfl, hg, hnc, hcm, hcs, htake⟩
    · omega
    · have hfit : l * i.size + news.length ≤ cur.size := by rw [hl, hcs, ← Nat.add_mul]; exact Nat.mul_le_mul_right _ hroom
      have hr := run_append_room (P := P) w t ty e i ht hi p l c cur hg ad m xc news hl hnews (List.all_eq_true.1 h1) hroom hfit
      obtain ⟨w', hw', hr⟩ : ∃ w', w' = w.setRow p (cur.toList.take (l * i.size) ++ news ++ cur.toList.drop (l * i.size + news.length)).toArray ∧ (Builtin.append_ #[t, t] ty #[.slice (some ⟨p, 0, none⟩) l c, .slice (some ad) m xc]).run P w = .ok (.slice (some ⟨p, 0, none⟩) (l + m) c) w' := ⟨_, rfl, hr⟩
      refine ⟨.slice (some ⟨p, 0, none⟩) (l + m) c, w', by simp [execOp, resolve, invoke, builtin, ha.eval hex, ha.eval hey, hr], ?_⟩
      subst hw'
      refine ⟨rfl, ⟨hlen, .inr ⟨p, _, rfl, rfl, setRow_heap w p cur _ e _ hg, hroom, hcm, ?_, ?_⟩⟩, (Sts.of_row rfl hg).ch.more (fun q _ hq => by rw [hq])⟩
      · simp only [List.size_toArray, List.length_append, List.length_take, List.length_drop, Array.length_toList]
        omega
      · rw [htake, ← hlen]
        exact List.take_left
theorem Wk.appendZ {r : Nat} {t ti e : TypeId} {q : IntKind} {z : Value} {by' : Nat} {x y : Operand} (ht : P.underlying t = some (.slice e)) (hti : P.underlying ti = some (.int q)) (hi : Inf P e z 1 by') (hzc : z.cells = #[z]) (hzo : z.oneCell' = true)
    {A : Option Addr} {l c : Nat} {cs : List Value} {m : Int} (hex : ev k x = some (.slice A l c)) (hey : ev k y = some (.int .i64 m)) (hown : Ow w r e 1 A l c cs) (h0 : 0 ≤ m) (hm : m ≤ 1073741824) (hb : m * by' ≤ 281474976710656) (hc : 0 < c) (hroom : l + m.toNat ≤ c) :
    Wk P n k w { dst := d, op := .call { callee := .builtin .append, args := #[x, y], argTypes := #[t, ti] }, type := ty, pos := pos, after := aft, guard := g }
      (fun v w' => v = .slice A (l + m.toNat) c ∧ Ow w' r e 1 A (l + m.toNat) c (cs ++ List.replicate m.toNat z) ∧ Ch (At r) w w') :=
  Wk.of_run fun a ha => by
    obtain ⟨i, hi, hz, hs1, rfl⟩ := hi
    obtain ⟨hlen0, hown⟩ := hown
    rcases hown with ⟨rfl, rfl, rfl, rfl⟩ | ⟨p, cur, rfl, rfl, hg, hnc, hcm, hcs, htake⟩
    · omega
    · have hzl : (Builtin.zeroCells z.cells m.toNat).toList = List.replicate m.toNat z := by
        rw [hzc]
        apply List.ext_getElem <;> simp [Builtin.zeroCells, Nat.mod_one]
      have hz0 : (if m.toNat * i.size = 0 then #[] else Builtin.zeroCells z.cells m.toNat).toList = List.replicate m.toNat z := by
        split
        · have : m.toNat = 0 := by rw [hs1] at *; omega
          rw [this]; rfl
        · exact hzl
      have hst := run_storeCells_at P p (l * 1) e (List.replicate m.toNat z) 0 cur w hg (by rw [List.length_replicate, hcs]; omega) (fun u hu => by rw [List.eq_of_mem_replicate hu]; exact hzo)
      simp only [Nat.add_zero] at hst
      have hw : IntKind.i64.wrap m = m := by rw [IntKind.wrap_i64]; omega
      have hb' : ¬ (281474976710656 < m * (i.bytes : Int)) := by omega
      have hzv : (zeroValue e).run P w = .ok z w := by simp [zeroValue, typeInfo, hi, hz]
      obtain ⟨w', hw'⟩ : ∃ w', w' = w.setRow p (cur.toList.take (l * 1) ++ List.replicate m.toNat z ++ cur.toList.drop (l * 1 + (List.replicate m.toNat z).length)).toArray := ⟨_, rfl⟩
      rw [← hw'] at hst
      refine ⟨.slice (some ⟨p, 0, none⟩) (l + m.toNat) c, w', ?_, ?_⟩
      · have hr : (Builtin.append_ #[t, ti] ty #[.slice (some ⟨p, 0, none⟩) l c, .int .i64 m]).run P w = .ok (.slice (some ⟨p, 0, none⟩) (l + m.toNat) c) w' := by
          by_cases hn : m.toNat * 1 = 0
          · have hn0 : m.toNat = 0 := by omega
            rw [hn0] at hst hroom ⊢
            rw [List.replicate_zero, Nat.mul_one] at hst
            simp [Builtin.append_, run_underlying ht, run_underlying hti, sizeOf, typeInfo, hi, hs1, asInt, asIntOf, hw, show ¬ m < 0 by omega, hb', hn0, show l ≤ c by omega, Addr.add_lit, hst]
          · rw [Nat.mul_one] at hst
            simp [Builtin.append_, run_underlying ht, run_underlying hti, sizeOf, typeInfo, hi, hs1, asInt, asIntOf, hw, show ¬ m < 0 by omega, hb', show ¬ m.toNat = 0 by omega, hroom, hzv, hzl, Addr.add_lit, hst]
        simp [execOp, resolve, invoke, builtin, ha.eval hex, ha.eval hey, hr]
      · subst hw'
        refine ⟨rfl, ⟨by simp [hlen0], .inr ⟨p, _, rfl, rfl, setRow_heap w p cur _ e _ hg, hroom, hcm, ?_, ?_⟩⟩, (Sts.of_row rfl hg).ch.more (fun q _ hq => by rw [hq])⟩
        simp only [List.size_toArray, List.length_append, List.length_take, List.length_drop, Array.length_toList, List.length_replicate]
        omega
        rw [htake, List.toList_toArray, List.take_left']
        simp [hlen0]
end
end Go.Tm
namespace Go.Tm
open Go.RowKit Go.Proofs
theorem Rn.sliceHM {P : Program} {n : Fr} {k : K} {w : World} {d : Option Tmp} {ty : TypeId} {pos : String} {aft : Array Edge} {g : Option (Nat × Bool)} {t e : TypeId} {sz l c : Nat} {A : Option Addr} {x y z : Operand} {q q' : IntKind} {i j : Int} (ht : P.underlying t = some (.slice e)) (hz : ∀ w, (sizeOf e).run P w = .ok sz w) (hx : ev k x = some (.slice A l c)) (hy : ev k y = some (.int q i)) (hj : ev k z = some (.int q' j)) (h0 : 0 ≤ i) (h1 : i ≤ j) (h2 : j ≤ c) :
    Rn P n k w { dst := d, op := .slice t x none (some y) (some z), type := ty, pos := pos, after := aft, guard := g } (.slice A i.toNat j.toNat) :=
  fun a ha => by
    have h3 : 0 ≤ j := by omega
    have e : A.map (fun b => b.add (0 * sz)) = A := by cases A <;> simp [Addr.add]
    simp only [Nat.zero_mul] at e
    simp [execOp, ha.eval hx, ha.eval hy, ha.eval hj, Instr.sliceAt, Instr.slice, run_underlying ht, Instr.sliceBounds, Instr.sliceBound, asIntOf, h0, h1, h2, h3, hz, e, show max j 0 = j by omega, show ¬ j < i by omega]
theorem getD_mapC {zs : List CB} {k : Nat} (h : k < zs.length) : (zs.map cx).getD k z0 = cx (zs.getD k (0, 0)) := by
  simp [List.getD, List.getElem?_eq_getElem h]
theorem WhU.toL {n : Nat} {us vs : Nat → Int} {zs : List CB} (h : WhU n us vs n zs) : WhL (zs.map cx) n us vs :=
  ⟨by simp [h.len], fun k hk => by rw [getD_mapC (by rw [h.len]; exact hk)]; exact h.get k hk⟩
theorem WhU.ofL {n : Nat} {us vs : Nat → Int} {zs : List CB} {ws : List Cx} (e : zs.map cx = ws) (h : WhL ws n us vs) : WhU n us vs n zs := by
  subst e
  have hl : zs.length = n := by simpa using h.1
  exact ⟨hl, fun k hk => by have := h.2 k hk; rwa [getD_mapC (by rw [hl]; exact hk)] at this⟩
theorem plan_FwdL (n lo hi p : Nat) (PP : Pln) (SX : Nat → Prop) (X : Option Addr) (xc : Nat) (zs : List CB) (us vs : Nat → Int) (w : World) (sx : SlR SX w X n 1 (zs.map cxV)) (hX : ∀ q, SX q → q < w.heap.size) (pl : PlnR lo hi w p PP) (hh : hi ≤ w.heap.size) (hL : Leaf n PP.b) (hz : WhU n us vs n zs) (hb : ∀ j, B44 (us j) ∧ B44 (vs j)) (st : StT w) (hG : 12 ≤ w.heap.size) :
    Calls Tryz.prog 41 #[.pointer (some ⟨p, 0, none⟩), .slice X n xc] w (Ret fun v w' => ∃ r A k os, v = .tuple #[.slice A n k, .nilIface] ∧ CR 53 w' r A n k os ∧ WhU n (fun k => (uvL n k us vs n).1) (fun k => (uvL n k us vs n).2) n os ∧ w.heap.size < r ∧ Ch No w w') := by
  refine (p_Forward _ _ _ _ _ _ n xc zs _ sx hX pl hh _ hL.ok.ok hL.ok.okb hL.ok.ne (by rw [hL.ln]) st hG hL.ok.ac).mono ?_
  rintro e w' ⟨v, rfl, r, A, c, os, rfl, h1, h2, h3, h4⟩
  have e4 : PP.b.ln.toNat = n := by rw [hL.ln]; rfl
  rw [e4] at h1 ⊢
  exact ⟨_, rfl, r, A, c, os, rfl, h1, WhU.ofL h2 (fwd_leaf hL hz.toL hb), h3, h4⟩
theorem plan_InvL (n lo hi p : Nat) (PP : Pln) (SX : Nat → Prop) (X : Option Addr) (xc : Nat) (zs : List CB) (us vs : Nat → Int) (w : World) (sx : SlR SX w X n 1 (zs.map cxV)) (hX : ∀ q, SX q → q < w.heap.size) (pl : PlnR lo hi w p PP) (hh : hi ≤ w.heap.size) (hL : Leaf n PP.b) (hz : WhU n (fun k => (uvL n k us vs n).1) (fun k => (uvL n k us vs n).2) n zs) (hb : ∀ j, (-1099511627776 ≤ us j ∧ us j ≤ 1099511627776) ∧ -1099511627776 ≤ vs j ∧ vs j ≤ 1099511627776) (st : StT w) (hG : 12 ≤ w.heap.size) :
    Calls Tryz.prog 43 #[.pointer (some ⟨p, 0, none⟩), .slice X n xc] w (Ret fun v w' => ∃ r A k os, v = .tuple #[.slice A n k, .nilIface] ∧ CR 53 w' r A n k os ∧ WhU n us vs n os ∧ w.heap.size < r ∧ Ch No w w') := by
  refine (p_Inverse _ _ _ _ _ _ n xc zs _ sx hX pl hh _ hL.ok.ok hL.ok.okb hL.ok.ne (by rw [hL.ln]) st hG hL.ok.ac).mono ?_
  rintro e w' ⟨v, rfl, r, A, c, os, rfl, h1, h2, h3, h4⟩
  have e4 : PP.b.ln.toNat = n := by rw [hL.ln]; rfl
  rw [e4] at h1 ⊢
  exact ⟨_, rfl, r, A, c, os, rfl, h1, WhU.ofL h2 (inv_leafG hL hz.toL hb), h3, h4⟩
def B17 (us vs : Nat → Int) : Prop := ∀ j, (-131072 ≤ us j ∧ us j ≤ 131072) ∧ -131072 ≤ vs j ∧ vs j ≤ 131072
theorem B17.b44 {us vs : Nat → Int} (h : B17 us vs) (j : Nat) : B44 (us j) ∧ B44 (vs j) := by have := h j; unfold B44; omega
theorem isum_bdI {f : Nat → Int} {B : Nat} (h : ∀ j, (f j).natAbs ≤ B) : ∀ n : Nat, (isum f n).natAbs ≤ n * B
  | 0 => by simp [isum]
  | n + 1 => by have := isum_bdI h n; have := h n; rw [isum, Nat.succ_mul]; omega
theorem B17.prod {us vs xs ys : Nat → Int} (h : B17 us vs) (h2 : B17 xs ys) (i j : Nat) : (fR us vs xs ys i j).natAbs ≤ 68719476736 ∧ (fI us vs xs ys i j).natAbs ≤ 68719476736 := by
  have b := g_bd (us i) (vs i) (xs j) (ys j)
  have h1 := h i; have h3 := h2 j
  have : ((us i).natAbs + (vs i).natAbs) * ((xs j).natAbs + (ys j).natAbs) ≤ 262144 * 262144 := Nat.mul_le_mul (by omega) (by omega)
  show (gRe (us i) (vs i) (xs j) (ys j)).natAbs ≤ _ ∧ (gIm (us i) (vs i) (xs j) (ys j)).natAbs ≤ _
  omega
theorem B17.cyc {n : Nat} (hn : n ≤ 4) {us vs xs ys : Nat → Int} (h : B17 us vs) (h2 : B17 xs ys) (k : Nat) : (-1099511627776 ≤ cyc n (fR us vs xs ys) k ∧ cyc n (fR us vs xs ys) k ≤ 1099511627776) ∧ -1099511627776 ≤ cyc n (fI us vs xs ys) k ∧ cyc n (fI us vs xs ys) k ≤ 1099511627776 := by
  have a1 := isum_bdI (f := fun j => fR us vs xs ys j ((k + n - j) % n)) (fun j => (h.prod h2 _ _).1) n
  have a2 := isum_bdI (f := fun j => fI us vs xs ys j ((k + n - j) % n)) (fun j => (h.prod h2 _ _).2) n
  have : n * 68719476736 ≤ 4 * 68719476736 := Nat.mul_le_mul_right _ hn
  unfold Go.Tm.cyc
  omega
theorem B17.uv {n k : Nat} (hn : n ≤ 4) {us vs : Nat → Int} (h : B17 us vs) : (uvL n k us vs n).1.natAbs + (uvL n k us vs n).2.natAbs ≤ 33554432 := by
  have := uv_bd (n := n) (k := k) (us := us) (bs := vs) (B := 131072) (fun j => h j) n hn
  omega
def mixF (f us : Nat → Int) (j i : Nat) : Int := if i < j then f i else us i
theorem WhU.mix {n j : Nat} {f g us vs : Nat → Int} {zs : List CB} {z : CB} (h : WhU n (mixF f us j) (mixF g vs j) n zs) (hj : j < n) (hz : WhC (cx z) (f j) (g j)) : WhU n (mixF f us (j + 1)) (mixF g vs (j + 1)) n (zs.set j z) := by
  have hl := h.len
  refine ⟨by rw [List.length_set]; exact hl, fun i hi => ?_⟩
  by_cases c : j = i
  · subst c
    simp only [mixF, if_pos (Nat.lt_succ_self j), List.getD, List.getElem?_set]
    simpa [show j < zs.length by omega] using hz
  · have := h.get i hi
    simp only [mixF, List.getD, List.getElem?_set] at this ⊢
    by_cases d : i < j
    · rw [if_pos d, if_pos d] at this; rw [if_pos (show i < j + 1 by omega), if_pos (show i < j + 1 by omega)]; simpa [c] using this
    · rw [if_neg d, if_neg d] at this; rw [if_neg (show ¬ i < j + 1 by omega), if_neg (show ¬ i < j + 1 by omega)]; simpa [c] using this
theorem WhU.mix0 {n : Nat} {f g us vs : Nat → Int} {zs : List CB} (h : WhU n us vs n zs) : WhU n (mixF f us 0) (mixF g vs 0) n zs := h.cast fun i _ => by simp [mixF]
theorem WhU.mixAll {n : Nat} {f g us vs : Nat → Int} {zs : List CB} (h : WhU n (mixF f us n) (mixF g vs n) n zs) : WhU n f g n zs := h.cast fun i hi => by simp [mixF, hi]
theorem WhU.pad {a N : Nat} {us vs : Nat → Int} {zs : List CB} (h : WhU a us vs a zs) (ha : a ≤ N) (h0 : ∀ j, a ≤ j → us j = 0 ∧ vs j = 0) : WhU N us vs N (zs ++ List.replicate (N - a) (0, 0)) := by
  have hl := h.len
  refine ⟨by simp [hl]; omega, fun i hi => ?_⟩
  by_cases c : i < a
  · have := h.get i c
    simp only [List.getD] at this ⊢
    rwa [List.getElem?_append_left (by omega)]
  · obtain ⟨e1, e2⟩ := h0 i (by omega)
    have : (zs ++ List.replicate (N - a) ((0, 0) : CB)).getD i (0, 0) = (0, 0) := by
      simp only [List.getD]
      rw [List.getElem?_append_right (by omega), List.getElem?_replicate]
      split <;> rfl
    rw [this, e1, e2]
    exact ⟨wh_zero, wh_zero⟩
set_option maxRecDepth 100000 in
theorem inf53w63 : Inf Tryz.prog 53 (.complex .f64 0 0) 1 16 := ⟨Tryz.t53, Tryz.type53, rfl, rfl, rfl⟩
set_option maxHeartbeats 2000000 in
set_option maxRecDepth 100000 in
theorem ring_Linear (SX SY : Nat → Prop) (X Y : Option Addr) (la lb xc yc : Nat) (us vs us2 vs2 : Nat → Int) (zs ys : List CB) (w : World) (sx : SlR SX w X la 1 (zs.map cxV)) (sy : SlR SY w Y lb 1 (ys.map cxV)) (hX : ∀ q, SX q → q < w.heap.size) (hY : ∀ q, SY q → q < w.heap.size) (hl : 1 ≤ la ∧ 1 ≤ lb ∧ la ≤ 1024 ∧ lb ≤ 1024) (hz : WhU la us vs la zs) (hy : WhU lb us2 vs2 lb ys) (g1 : GB us vs la) (g2 : GB us2 vs2 lb) :
    Calls Tryz.prog 29 #[.slice X la xc, .slice Y lb yc] w (Ret (fun v w' => ∃ q os, v = .tuple #[.slice (some ⟨q, 0, none⟩) (la + lb - 1) (la + lb - 1), .nilIface] ∧ CR 53 w' (q + 1) (some ⟨q, 0, none⟩) (la + lb - 1) (la + lb - 1) os ∧ WhU (la + lb - 1) (lin lb (fR us vs us2 vs2) la) (lin lb (fI us vs us2 vs2) la) (la + lb - 1) os ∧ w.heap.size ≤ q ∧ Ch No w w')) := by
  have hq : (la : Int) ≤ 1048576 / (lb : Int) := by
    have hm : la * lb ≤ 1024 * 1024 := Nat.mul_le_mul hl.2.2.1 hl.2.2.2
    have h9 : ((la * lb : Nat) : Int) ≤ 1048576 := by omega
    rw [Int.natCast_mul] at h9
    exact Int.le_ediv_of_mul_le (by omega) h9
  refine calls_of_VC (args := [.slice X la xc, .slice Y lb yc]) Tryz.func29 rfl Tryz.ntmps29 rfl (VC.seq (VC.region (VO.mv (Rn.assign rfl) rfl rfl rfl (VO.mv (Rn.assign rfl) rfl rfl rfl (VO.nil (VQ.then_code (VC.seq ?_)))))))
  refine VC.seq (VC.region (VO.mv (Rn.move rfl) rfl rfl rfl (VO.mv (Rn.len Tryz.underlying39 rfl) rfl rfl rfl (VO.mv (Rn.eqlF rfl rfl (by omega)) rfl rfl rfl (VO.mv (Rn.move rfl) rfl rfl rfl (VO.mv (Rn.move rfl) rfl rfl rfl (VO.mv (Rn.len Tryz.underlying39 rfl) rfl rfl rfl ?_)))))))
  refine VO.mv (Rn.eqlF rfl rfl (by omega)) rfl rfl rfl (VO.mv (Rn.pick_false rfl rfl) rfl rfl rfl (VO.mv (Rn.move rfl) rfl rfl rfl (VO.mv (Rn.move rfl) rfl rfl rfl (VO.mv (Rn.len Tryz.underlying39 rfl) rfl rfl rfl (VO.mv (Rn.move rfl) rfl rfl rfl (VO.mv (Rn.len Tryz.underlying39 rfl) rfl rfl rfl (VO.mv (Rn.quo0 rfl rfl (by omega) (by omega) (by omega)) rfl rfl rfl ?_)))))))
  refine VO.mv (Rn.gtrF rfl rfl (by omega)) rfl rfl rfl (VO.mv (Rn.pick_false rfl rfl) rfl rfl rfl (VO.nil (VQ.then_code (VC.cond_false rfl (VC.skip (VQ.then_code (VC.seq ?_)))))))
  refine VC.region (VO.mv (Rn.move rfl) rfl rfl rfl (VO.mv (Rn.len Tryz.underlying39 rfl) rfl rfl rfl (VO.mv (Rn.move rfl) rfl rfl rfl (VO.mv (Rn.len Tryz.underlying39 rfl) rfl rfl rfl ?_))))
  refine VO.mv (Rn.add rfl rfl (by rw [IntKind.wrap_i64]; omega)) rfl rfl rfl ?_
  refine VO.mv (Rn.sub rfl rfl (by rw [IntKind.wrap_i64]; omega)) rfl rfl rfl ?_
  refine VO.wk (Wk.mkC Tryz.underlying39 inf53w63 rfl rfl (by omega) (by omega) (by omega)) rfl rfl rfl ?_
  rintro _ w1 ⟨p1, rfl, o1, c1, e1, z1⟩
  refine VO.mv (Rn.assign rfl) rfl rfl rfl (VO.nil (VQ.then_code (VC.seq (VC.seq (VC.region (VO.mv (Rn.move rfl) rfl rfl rfl (VO.mv (Rn.len Tryz.underlying39 rfl) rfl rfl rfl ?_)))))))
  refine VO.mv (Rn.move rfl) rfl rfl rfl (VO.nil (VQ.then_code (VC.block ?_)))
  have sx_1 := sx.keep c1
  have sy_1 := sy.keep c1
  have CH_1 := (Ch.refl (No) w).and c1
  refine VC.loopS (σ := Nat × List CB) (fun (k, os) => [(0, .slice X la xc), (1, .slice Y lb yc), (6, .slice (some ⟨p1, 0, none⟩) ((la : Int) + (lb : Int) - 1).toNat ((la : Int) + (lb : Int) - 1).toNat), (35, .int .i64 (((la : Int) + (lb : Int) - 1).toNat : Nat)), (36, .int .i64 k)]) (fun (k, os) w' => k ≤ ((la : Int) + (lb : Int) - 1).toNat ∧ WhU ((la : Int) + (lb : Int) - 1).toNat (lin lb (fR us vs us2 vs2) la) (lin lb (fI us vs us2 vs2) la) k os ∧ w1.heap.size ≤ w'.heap.size ∧ CR 53 w' (p1 + 1) (some ⟨p1, 0, none⟩) ((la : Int) + (lb : Int) - 1).toNat ((la : Int) + (lb : Int) - 1).toNat os ∧ SlR SX w' X la 1 (zs.map cxV) ∧ SlR SY w' Y lb 1 (ys.map cxV) ∧ Ch (No) w w') (fun (k, os) => ((la : Int) + (lb : Int) - 1).toNat - k) (0, List.replicate ((la : Int) + (lb : Int) - 1).toNat (0, 0)) ?_ ⟨rfl, rfl, rfl, rfl, rfl, trivial⟩ ?_
  · exact ⟨(by omega), (WhU.zero _ _ _), (Nat.le_refl _), o1, sx_1, sy_1, CH_1⟩
  rintro ⟨k, os⟩ w2 ⟨hk, ho, hsz2, ou_2, sx_2, sy_2, CH_2⟩
  show VC _ _ _ _ [(0, .slice X la xc), (1, .slice Y lb yc), (6, .slice (some ⟨p1, 0, none⟩) ((la : Int) + (lb : Int) - 1).toNat ((la : Int) + (lb : Int) - 1).toNat), (35, .int .i64 (((la : Int) + (lb : Int) - 1).toNat : Nat)), (36, .int .i64 k)] _
  refine VC.seq (VC.region (VO.mv (Rn.lss rfl rfl) rfl rfl rfl (VO.nil (VQ.then_code (VC.seq (VC.cond_if rfl (fun hc1 => ?_) (fun hc1 => ?_)))))))
  · skip
    refine VC.skip (VQ.then_code (VC.seq (VC.block (VC.seq (VC.region (VO.mv (Rn.move rfl) rfl rfl rfl (VO.mv (Rn.assign rfl) rfl rfl rfl ?_)))))))
    refine VO.nil (VQ.then_code (VC.seq (VC.region (VO.mv (Rn.assign rfl) rfl rfl rfl (VO.nil (VQ.then_code (VC.seq ?_)))))))
    refine VC.seq (VC.region (VO.mv (Rn.move rfl) rfl rfl rfl (VO.mv (Rn.move rfl) rfl rfl rfl (VO.mv (Rn.len Tryz.underlying39 rfl) rfl rfl rfl ?_))))
    refine VO.mv (Rn.sub rfl rfl (by rw [IntKind.wrap_i64]; omega)) rfl rfl rfl ?_
    refine VO.mv (Rn.add rfl rfl (by rw [IntKind.wrap_i64]; omega)) rfl rfl rfl ?_
    refine VO.mv (Rn.maxI rfl rfl) rfl rfl rfl (VO.mv (Rn.assign rfl) rfl rfl rfl (VO.nil (VQ.then_code (VC.block (VC.loopS (σ := Nat × Int × List CB × Nat × Option Addr × Nat) (fun (i, j, qs, r2, A2, c2) => [(0, .slice X la xc), (1, .slice Y lb yc), (6, .slice (some ⟨p1, 0, none⟩) ((la : Int) + (lb : Int) - 1).toNat ((la : Int) + (lb : Int) - 1).toNat), (7, .int .i64 k), (8, .slice A2 i c2), (9, .int .i64 j), (35, .int .i64 (((la : Int) + (lb : Int) - 1).toNat : Nat)), (36, .int .i64 k)]) (fun (i, j, qs, r2, A2, c2) w' => j = ((k + 1 - lb : Nat) : Int) + (i : Int) ∧ i ≤ min (k + 1) la - (k + 1 - lb) ∧ WhU i (fun i => fR us vs us2 vs2 (k + 1 - lb + i) (k - (k + 1 - lb + i))) (fun i => fI us vs us2 vs2 (k + 1 - lb + i) (k - (k + 1 - lb + i))) i qs ∧ (r2 = 0 ∨ w.heap.size < r2) ∧ ¬ r2 = (p1 + 1) ∧ w2.heap.size ≤ w'.heap.size ∧ CR 53 w' (p1 + 1) (some ⟨p1, 0, none⟩) ((la : Int) + (lb : Int) - 1).toNat ((la : Int) + (lb : Int) - 1).toNat os ∧ CR 53 w' r2 A2 i c2 qs ∧ SlR SX w' X la 1 (zs.map cxV) ∧ SlR SY w' Y lb 1 (ys.map cxV) ∧ Ch (No) w w') (fun (i, j, qs, r2, A2, c2) => min (k + 1) la - (k + 1 - lb) - i) (0, if (0 : Int) < (k : Int) - lb + 1 then (k : Int) - lb + 1 else 0, [], 0, none, 0) ?_ ⟨rfl, rfl, rfl, rfl, rfl, rfl, rfl, rfl, trivial⟩ ?_)))))
    · exact ⟨(by split <;> omega), (by omega), ⟨rfl, fun i h => absurd h (by omega)⟩, (.inl rfl), (by omega), (Nat.le_refl _), ou_2, (Ow.nil _ _ _), sx_2, sy_2, CH_2⟩
    rintro ⟨i, j, qs, r2, A2, c2⟩ w3 ⟨hj, hi, hq2, hr2, hr3, hsz3, ou_3, row_3, sx_3, sy_3, CH_3⟩
    show VC _ _ _ _ [(0, .slice X la xc), (1, .slice Y lb yc), (6, .slice (some ⟨p1, 0, none⟩) ((la : Int) + (lb : Int) - 1).toNat ((la : Int) + (lb : Int) - 1).toNat), (7, .int .i64 k), (8, .slice A2 i c2), (9, .int .i64 j), (35, .int .i64 (((la : Int) + (lb : Int) - 1).toNat : Nat)), (36, .int .i64 k)] _
    refine VC.seq (VC.seq (VC.region (VO.mv (Rn.move rfl) rfl rfl rfl (VO.mv (Rn.move rfl) rfl rfl rfl (VO.mv (Rn.move rfl) rfl rfl rfl (VO.mv (Rn.len Tryz.underlying39 rfl) rfl rfl rfl ?_))))))
    refine VO.mv (Rn.sub rfl rfl (by rw [IntKind.wrap_i64]; omega)) rfl rfl rfl ?_
    refine VO.mv (Rn.minI rfl rfl) rfl rfl rfl (VO.mv (Rn.leq rfl rfl) rfl rfl rfl (VO.nil (VQ.then_code (VC.cond_if rfl (fun hc2 => ?_) (fun hc2 => ?_)))))
    · skip
      have hle : j ≤ (k : Int) ∧ j ≤ (la : Int) - 1 := by split at hc2 <;> omega
      clear hc2
      refine VC.skip (VQ.then_code (VC.seq (VC.block (VC.draws 14 [(0, true), (1, true), (2, true), (3, true), (4, true), (5, true), (6, true), (7, true), (8, true), (9, true), (10, true), (11, false), (12, false), (13, false)] (fun w1 w' => Ch (At r2) w1 w') mixed (by kernel_rfl) (fun _ _ => Ch.refl _ _) ?_))))
      intro w4 D4
      have c4 := Ch.of_drew D4; have z4 := c4.size
      have sx_4 := sx_3.keep c4
      have sy_4 := sy_3.keep c4
      have ou_4 := ou_3.keep c4
      have row_4 := row_3.keep c4
      refine VH.mv (fun w' hS => Rn.move rfl) rfl rfl rfl rfl (VH.mv (fun w' hS => Rn.move rfl) rfl rfl rfl rfl (VH.mv (fun w' hS => Rn.move rfl) rfl rfl rfl rfl ?_))
      refine VH.mv (fun w' hS => Rn.indexS Tryz.underlying39 Tryz.sizeOf53 rfl rfl ((sx_4.to hS (by first | exact fun _ _ _ _ => id | (intro q h1 h2 hx h3; have := hX q h2; omega))).ne (by omega)) (by omega) (by omega)) rfl rfl rfl rfl ?_
      refine VH.mv (fun w' hS => Rn.load Tryz.isAgg53 rfl ((sx_4.to hS (by first | exact fun _ _ _ _ => id | (intro q h1 h2 hx h3; have := hX q h2; omega))).getC (by omega) (by omega))) rfl rfl rfl rfl ?_
      refine VH.mv (fun w' hS => Rn.move rfl) rfl rfl rfl rfl (VH.mv (fun w' hS => Rn.move rfl) rfl rfl rfl rfl (VH.mv (fun w' hS => Rn.move rfl) rfl rfl rfl rfl ?_))
      refine VH.mv (fun w' hS => Rn.sub rfl rfl (by rw [IntKind.wrap_i64]; omega)) rfl rfl rfl rfl ?_
      refine VH.mv (fun w' hS => Rn.indexS Tryz.underlying39 Tryz.sizeOf53 rfl rfl ((sy_4.to hS (by first | exact fun _ _ _ _ => id | (intro q h1 h2 hx h3; have := hY q h2; omega))).ne (by omega)) (by omega) (by omega)) rfl rfl rfl rfl ?_
      refine VH.mv (fun w' hS => Rn.load Tryz.isAgg53 rfl ((sy_4.to hS (by first | exact fun _ _ _ _ => id | (intro q h1 h2 hx h3; have := hY q h2; omega))).getC (by omega) (by omega))) rfl rfl rfl rfl ?_
      refine VH.wk (Wk.call Tryz.call59 rfl (cplx_Mul _ _ _ _ _)) rfl rfl rfl rfl ?_
      rintro _ w5 ⟨p5, q5, rfl, F5, c5⟩
      have z5 := c5.size
      have RD_5 := (Ch.refl (At r2) w4).and c5
      refine ⟨RD_5, ?_⟩
      refine VH.wk (Wk.lit Tryz.underlying39 inf53w63 (by decide) rfl rfl (by rfl) (by decide) (by decide) (by rfl)) rfl rfl rfl rfl ?_
      rintro _ w6 ⟨p6, rfl, N6⟩
      have c6 := N6.ch
      have e6 := N6.p; have z6 := N6.size
      have l66 := SlR.of_new (sz := 1) (l := 1) N6 rfl
      have l66o := Ow.of_new (sz := 1) (l := 1) N6 rfl (by decide)
      have RD_6 := RD_5.and c6
      refine ⟨RD_6, ?_⟩
      have row_6 := row_4.keep (c5.trans c6)
      refine VH.wk (Wk.append (S := _) Tryz.underlying39 inf53w63 rfl (by decide) rfl rfl row_6 l66 (by rfl) (fun h => by simp at h) (by omega) (by simp only [maxLen]; omega)) rfl rfl rfl rfl ?_
      rintro _ w7 ⟨r7, A7, k7, rfl, o7, c7, q7⟩
      have z7 := c7.size
      have y7 := o7.lt
      have RD_7 : Ch (At r2) w4 w7 := RD_6.then c7 (by intro q h1 h2; rcases h2 with h2 | h2 <;> first | exact h2 | (exfalso; omega) | omega)
      refine ⟨RD_7, ?_⟩
      refine VH.done (VO.mv (Rn.assign rfl) rfl rfl rfl (VO.nil (VQ.noPanic (VQ.block_normal (VQ.then_code (VC.region (VO.mv (Rn.move rfl) rfl rfl rfl ?_)))))))
      refine VO.mv (Rn.add rfl rfl (by rw [IntKind.wrap_i64]; omega)) rfl rfl rfl ?_
      refine VO.mv (Rn.assign rfl) rfl rfl rfl (VO.nil ?_)
      refine VQ.round (i + 1, j + 1, qs ++ [(p5, q5)], r7, A7, k7) (by first | omega | (dsimp only; omega)) ?_ ⟨rfl, rfl, rfl, rfl, rfl, rfl, rfl, rfl, trivial⟩
      have ou_6 := ou_4.keep (c5.trans c6)
      have ou_7 := ou_6.to c7 (by first | exact fun _ _ _ _ => id | (intro q h1 h2 hx h3; omega))
      have sx_6 := sx_4.keep (c5.trans c6)
      have sx_7 := sx_6.to c7 (by first | exact fun _ _ _ _ => id | (intro q h1 h2 hx h3; have := hX q h2; omega))
      have sy_6 := sy_4.keep (c5.trans c6)
      have sy_7 := sy_6.to c7 (by first | exact fun _ _ _ _ => id | (intro q h1 h2 hx h3; have := hY q h2; omega))
      have CH_6 := CH_3.and (c4.trans (c5.trans c6))
      have CH_7 : Ch (No) w w7 := CH_6.then c7 (by intro q h1 h2; rcases h2 with h2 | h2 <;> first | exact h2 | (exfalso; omega) | omega)
      exact ⟨(by omega), (by omega), (hq2.push (by rw [F5, show j.toNat = k + 1 - lb + i by omega, show ((k : Int) - j).toNat = k - (k + 1 - lb + i) by omega]; exact (hz.get _ (by omega)).mulG (hy.get _ (by omega)) (g1.el (by omega)) (g2.el (by omega)))), (by omega), (by omega), (by omega), ou_7, (by have h9 := o7; show Ow _ _ _ _ _ _ _ _; rw [List.map_append]; exact h9), sx_7, sy_7, CH_7⟩
    · skip
      have hgt : i = min (k + 1) la - (k + 1 - lb) := by split at hc2 <;> omega
      clear hc2
      refine VC.exit (VQ.then_exit (VQ.then_exit (VQ.block_exit (VQ.then_code (VC.region (VO.mv (Rn.move rfl) rfl rfl rfl (VO.mv (Rn.move rfl) rfl rfl rfl ?_)))))))
      refine VO.mv (Rn.move rfl) rfl rfl rfl ?_
      refine VO.wk (Wk.call Tryz.call60 rfl (sums_LeftC _ _ i _ _ (fun i => fR us vs us2 vs2 (k + 1 - lb + i) (k - (k + 1 - lb + i))) (fun i => fI us vs us2 vs2 (k + 1 - lb + i) (k - (k + 1 - lb + i))) _ (row_3).sl (fun q hq => by have := Ow.lt row_3; omega) (by omega) (fun j hj => hq2.get j hj) (g1.tame (xs := us) (ys := us) (lo := k + 1 - lb) (m := i) (by omega) (fun j hj => g2.el (by omega))).1 (g1.tame (xs := us) (ys := us) (lo := k + 1 - lb) (m := i) (by omega) (fun j hj => g2.el (by omega))).2)) rfl rfl rfl ?_
      rintro _ w8 ⟨p8, q8, rfl, F8, c8⟩
      have z8 := c8.size
      rw [hgt, lin_win (fR us vs us2 vs2) (by omega) (by omega), lin_win (fI us vs us2 vs2) (by omega) (by omega)] at F8
      have ou_8 := ou_3.keep c8
      refine VO.mv (Rn.indexS Tryz.underlying39 Tryz.sizeOf53 rfl rfl (ou_8.sl.ne (by omega)) (by omega) (by omega)) rfl rfl rfl (VO.wk0 (Wk.putC Tryz.sizeOf53 rfl rfl (by omega) ou_8) rfl rfl ?_)
      rintro _ w9 ⟨o9, c9, z9⟩
      have y9 := o9.lt
      refine VO.nil (VQ.block_normal (VQ.then_code (VC.region ?_)))
      refine VO.mv (Rn.add rfl rfl (by rw [IntKind.wrap_i64]; omega)) rfl rfl rfl ?_
      refine VO.mv (Rn.move rfl) rfl rfl rfl (VO.nil ?_)
      refine VQ.round (k + 1, os.set k (p8, q8)) (by first | omega | (dsimp only; omega)) ?_ ⟨rfl, rfl, rfl, rfl, rfl, trivial⟩
      have sx_8 := sx_3.keep c8
      have sx_9 := sx_8.to c9 (by first | exact fun _ _ _ _ => id | (intro q h1 h2 hx h3; have := hX q h2; omega))
      have sy_8 := sy_3.keep c8
      have sy_9 := sy_8.to c9 (by first | exact fun _ _ _ _ => id | (intro q h1 h2 hx h3; have := hY q h2; omega))
      have CH_8 := CH_3.and c8
      have CH_9 : Ch (No) w w9 := CH_8.then c9 (by intro q h1 h2; rcases h2 with h2 | h2 <;> first | exact h2 | (exfalso; omega) | omega)
      exact ⟨(by omega), (ho.step (by omega) F8), (by omega), o9, sx_9, sy_9, CH_9⟩
  · skip
    refine VC.exit (VQ.then_exit (VQ.then_exit (VQ.block_exit (VQ.then_code (VC.seq (VC.region (VO.mv (Rn.move rfl) rfl rfl rfl ?_)))))))
    refine VO.mv (Rn.assign rfl) rfl rfl rfl (VO.mv (Rn.assign rfl) rfl rfl rfl (VO.nil (VQ.then_code (VC.ret (VQ.ret2 rfl rfl rfl (Ret.mk ?_))))))
    obtain rfl : k = ((la : Int) + (lb : Int) - 1).toNat := by omega
    have e9 : ((la : Int) + (lb : Int) - 1).toNat = la + lb - 1 := by omega
    have o9 := ou_2; rw [e9] at o9 ho
    exact ⟨_, os, congrArg (fun m => Value.tuple #[.slice (some ⟨p1, 0, none⟩) m m, .nilIface]) e9, o9, ho, by omega, CH_2⟩
set_option maxRecDepth 100000 in
theorem ring_Size (a b : Nat) (w : World) (h : 1 ≤ a ∧ 1 ≤ b ∧ a + b ≤ 5) :
    Calls Tryz.prog 80 #[.int .i64 a, .int .i64 b] w (Ret (fun v w' => (∃ n : Nat, v = .tuple #[.int .i64 n, .nilIface] ∧ N3 n ∧ a + b ≤ n + 1) ∧ w = w')) := by
  refine calls_of_VC (args := [.int .i64 a, .int .i64 b]) Tryz.func80 rfl Tryz.ntmps80 rfl (VC.seq (VC.region (VO.mv (Rn.assign rfl) rfl rfl rfl (VO.mv (Rn.assign rfl) rfl rfl rfl (VO.nil (VQ.then_code (VC.seq ?_)))))))
  refine VC.seq (VC.region (VO.mv (Rn.move rfl) rfl rfl rfl (VO.mv (Rn.lssF rfl rfl (by omega)) rfl rfl rfl (VO.mv (Rn.move rfl) rfl rfl rfl (VO.mv (Rn.move rfl) rfl rfl rfl (VO.mv (Rn.lssF rfl rfl (by omega)) rfl rfl rfl (VO.mv (Rn.pick_false rfl rfl) rfl rfl rfl ?_)))))))
  refine VO.mv (Rn.move rfl) rfl rfl rfl (VO.mv (Rn.move rfl) rfl rfl rfl (VO.mv (Rn.gtrF rfl rfl (by omega)) rfl rfl rfl (VO.mv (Rn.pick_false rfl rfl) rfl rfl rfl (VO.mv (Rn.move rfl) rfl rfl rfl (VO.mv (Rn.move rfl) rfl rfl rfl (VO.mv (Rn.gtrF rfl rfl (by omega)) rfl rfl rfl (VO.mv (Rn.pick_false rfl rfl) rfl rfl rfl ?_)))))))
  refine VO.mv (Rn.move rfl) rfl rfl rfl (VO.mv (Rn.move rfl) rfl rfl rfl (VO.mv (Rn.move rfl) rfl rfl rfl ?_))
  refine VO.mv (Rn.add rfl rfl (by rw [IntKind.wrap_i64]; omega)) rfl rfl rfl ?_
  refine VO.mv (Rn.sub rfl rfl (by rw [IntKind.wrap_i64]; omega)) rfl rfl rfl ?_
  refine VO.mv (Rn.gtrF rfl rfl (by omega)) rfl rfl rfl (VO.mv (Rn.pick_false rfl rfl) rfl rfl rfl (VO.nil (VQ.then_code (VC.cond_false rfl (VC.skip (VQ.then_code (VC.seq ?_)))))))
  refine VC.region (VO.mv (Rn.assign rfl) rfl rfl rfl (VO.nil (VQ.then_code (VC.seq (VC.block (VC.loopS (σ := Nat) (fun n => [(0, .int .i64 a), (1, .int .i64 b), (6, .int .i64 n)]) (fun n w' => w = w' ∧ (n = 1 ∨ n = 2 ∨ n = 4)) (fun n => 5 - n) 1 ?_ ⟨rfl, rfl, rfl, trivial⟩ ?_))))))
  · exact ⟨rfl, .inl rfl⟩
  rintro n _ ⟨rfl, hd⟩
  show VC _ _ _ _ [(0, .int .i64 a), (1, .int .i64 b), (6, .int .i64 n)] _
  refine VC.seq (VC.seq (VC.region (VO.mv (Rn.move rfl) rfl rfl rfl (VO.mv (Rn.move rfl) rfl rfl rfl (VO.mv (Rn.move rfl) rfl rfl rfl ?_)))))
  refine VO.mv (Rn.add rfl rfl (by rw [IntKind.wrap_i64]; omega)) rfl rfl rfl ?_
  refine VO.mv (Rn.sub rfl rfl (by rw [IntKind.wrap_i64]; omega)) rfl rfl rfl ?_
  refine VO.mv (Rn.lss rfl rfl) rfl rfl rfl (VO.nil (VQ.then_code (VC.cond_if rfl (fun hc1 => ?_) (fun hc1 => ?_))))
  · skip
    refine VC.skip (VQ.then_code (VC.block (VC.region (VO.mv (Rn.move rfl) rfl rfl rfl ?_))))
    refine VO.mv (Rn.mul rfl rfl (by rw [IntKind.wrap_i64]; omega)) rfl rfl rfl ?_
    refine VO.mv (Rn.assign rfl) rfl rfl rfl (VO.nil (VQ.block_normal ?_))
    refine VQ.round (n * 2) (by first | omega | (dsimp only; omega)) ?_ ⟨rfl, rfl, rfl, trivial⟩
    exact ⟨rfl, by omega⟩
  · skip
    refine VC.exit (VQ.then_exit (VQ.then_exit (VQ.block_exit (VQ.then_code (VC.seq (VC.region (VO.mv (Rn.move rfl) rfl rfl rfl ?_)))))))
    refine VO.mv (Rn.assign rfl) rfl rfl rfl (VO.mv (Rn.assign rfl) rfl rfl rfl (VO.nil (VQ.then_code (VC.ret (VQ.ret2 rfl rfl rfl (Ret.mk ?_))))))
    exact ⟨⟨n, rfl, ⟨hd⟩, by omega⟩, rfl⟩
set_option maxHeartbeats 1000000 in
set_option maxRecDepth 100000 in
theorem ring_padded (SX : Nat → Prop) (X : Option Addr) (a N xc : Nat) (zs : List CB) (w : World) (sx : SlR SX w X a 1 (zs.map cxV)) (hX : ∀ q, SX q → q < w.heap.size) (ha : 1 ≤ a ∧ a ≤ N ∧ N ≤ 4096) :
    Calls Tryz.prog 82 #[.slice X a xc, .int .i64 N] w (Ret (fun v w' => ∃ q, v = .slice (some ⟨q, 0, none⟩) N N ∧ CR 53 w' (q + 1) (some ⟨q, 0, none⟩) N N (zs ++ List.replicate (N - a) (0, 0)) ∧ w.heap.size ≤ q ∧ Ch No w w')) := by
  refine calls_of_VC (args := [.slice X a xc, .int .i64 N]) Tryz.func82 rfl Tryz.ntmps82 rfl (VC.seq (VC.region (VO.mv (Rn.assign rfl) rfl rfl rfl (VO.nil (VQ.then_code (VC.seq (VC.region ?_)))))))
  refine VO.mv (Rn.move rfl) rfl rfl rfl (VO.wk (Wk.mkC0 Tryz.underlying39 inf53w63 rfl rfl (by omega) (by omega) (by omega)) rfl rfl rfl ?_)
  rintro _ w1 ⟨p1, rfl, o1, c1, e1, z1⟩
  have z1 := c1.size
  refine VO.mv (Rn.move rfl) rfl rfl rfl ?_
  have sx_1 := sx.keep c1
  refine VO.wk (Wk.appendIn Tryz.underlying39 inf53w63 rfl rfl o1 sx_1 (cx_one _) (by omega) (by omega)) rfl rfl rfl ?_
  rintro _ w2 ⟨rfl, o2, c2⟩
  have y2 := Ow.lt o2
  have z2 := c2.size
  refine VO.mv (Rn.move rfl) rfl rfl rfl (VO.mv (Rn.move rfl) rfl rfl rfl (VO.mv (Rn.len Tryz.underlying39 rfl) rfl rfl rfl ?_))
  refine VO.mv (Rn.sub rfl rfl (by rw [IntKind.wrap_i64]; omega)) rfl rfl rfl ?_
  refine VO.wk (Wk.appendZ Tryz.underlying39 Tryz.underlying3 inf53w63 rfl rfl rfl rfl o2 (by omega) (by omega) (by omega) (by omega) (by omega)) rfl rfl rfl ?_
  rintro _ w3 ⟨rfl, o3, c3⟩
  have y3 := Ow.lt o3
  have z3 := c3.size
  refine VO.mv (Rn.assign rfl) rfl rfl rfl (VO.nil (VQ.then_code (VC.ret (VQ.ret1 rfl rfl (Ret.mk ?_)))))
  have e9 : 0 + a + ((N : Int) - (a : Int)).toNat = N := by omega
  have e8 : ((N : Int) - (a : Int)).toNat = N - a := by omega
  have o9 := o3; have e7 : (N : Int).toNat = N := rfl; rw [e9, e8, e7] at o9
  have CH_1 := (Ch.refl (No) w).and c1
  have CH_2 : Ch (No) w w2 := CH_1.then c2 (by intro q h1 h2; rcases h2 with h2 | h2 <;> first | exact h2 | (exfalso; omega) | omega)
  have CH_3 : Ch (No) w w3 := CH_2.then c3 (by intro q h1 h2; rcases h2 with h2 | h2 <;> first | exact h2 | (exfalso; omega) | omega)
  exact ⟨p1, congrArg (fun m => Value.slice (some ⟨p1, 0, none⟩) m N) e9, (by show Ow _ _ _ _ _ _ _ _; rw [List.map_append, List.map_replicate]; exact o9), by omega, CH_3⟩
set_option maxHeartbeats 2000000 in
set_option maxRecDepth 100000 in
theorem ring_By (lo hi p : Nat) (PP : Pln) (SX SY : Nat → Prop) (X Y : Option Addr) (n xc yc : Nat) (us vs us2 vs2 : Nat → Int) (zs ys : List CB) (w : World) (sx : SlR SX w X n 1 (zs.map cxV)) (sy : SlR SY w Y n 1 (ys.map cxV)) (hX : ∀ q, SX q → q < w.heap.size) (hY : ∀ q, SY q → q < w.heap.size) (pl : PlnR lo hi w p PP) (hh : hi ≤ w.heap.size) (hL : Leaf n PP.b) (hz : WhU n us vs n zs) (hy : WhU n us2 vs2 n ys) (h1 : B17 us vs) (h2 : B17 us2 vs2) (st : StT w) (hG : 12 ≤ w.heap.size) :
    Calls Tryz.prog 81 #[.pointer (some ⟨p, 0, none⟩), .slice X n xc, .slice Y n yc] w (Ret (fun v w' => ∃ r A k os, v = .tuple #[.slice A n k, .nilIface] ∧ CR 53 w' r A n k os ∧ WhU n (cyc n (fR us vs us2 vs2)) (cyc n (fI us vs us2 vs2)) n os ∧ w.heap.size < r ∧ Ch No w w')) := by
  have hn3 := hL.n
  have hn : 1 ≤ n ∧ n ≤ 4 := by omega
  clear hn3
  refine calls_of_VC (args := [.pointer (some ⟨p, 0, none⟩), .slice X n xc, .slice Y n yc]) Tryz.func81 rfl Tryz.ntmps81 rfl (VC.seq (VC.region (VO.mv (Rn.assign rfl) rfl rfl rfl (VO.mv (Rn.assign rfl) rfl rfl rfl (VO.nil (VQ.then_code (VC.seq ?_)))))))
  refine VC.region (VO.mv (Rn.move rfl) rfl rfl rfl (VO.mv (Rn.move rfl) rfl rfl rfl ?_))
  refine VO.wk (Wk.call Tryz.call41 rfl (plan_FwdL n _ _ _ _ _ _ _ _ us vs _ sx (fun q hq => by have := hX q hq; omega) pl (by omega) hL hz h1.b44 st (by omega))) rfl rfl rfl ?_
  rintro _ w1 ⟨r1, A1, k1, os1, rfl, tr1, ht1, yr1, c1⟩
  have yt1 := Ow.lt tr1
  have z1 := c1.size
  refine VO.mv (Rn.move rfl) rfl rfl rfl (VO.mv (Rn.extract rfl rfl) rfl rfl rfl (VO.mv (Rn.extract rfl rfl) rfl rfl rfl (VO.mv (Rn.assign rfl) rfl rfl rfl (VO.mv (Rn.assign rfl) rfl rfl rfl (VO.nil (VQ.then_code (VC.seq ?_)))))))
  refine VC.seq (VC.region (VO.mv (Rn.move rfl) rfl rfl rfl (VO.mv (Rn.nil_neq_nil Tryz.underlying29 rfl) rfl rfl rfl (VO.nil (VQ.then_code (VC.cond_false rfl (VC.skip ?_)))))))
  refine VQ.then_code (VC.seq (VC.region (VO.mv (Rn.move rfl) rfl rfl rfl (VO.mv (Rn.move rfl) rfl rfl rfl ?_))))
  have sy_1 := sy.keep c1
  have pl_1 := pl.keep c1
  have st_1 := st.keep c1
  refine VO.wk (Wk.call Tryz.call41 rfl (plan_FwdL n _ _ _ _ _ _ _ _ us2 vs2 _ sy_1 (fun q hq => by have := hY q hq; omega) pl_1 (by omega) hL hy h2.b44 st_1 (by omega))) rfl rfl rfl ?_
  rintro _ w2 ⟨r2, A2, k2, os2, rfl, tr2, ht2, yr2, c2⟩
  have yt2 := Ow.lt tr2
  have z2 := c2.size
  refine VO.mv (Rn.move rfl) rfl rfl rfl (VO.mv (Rn.extract rfl rfl) rfl rfl rfl (VO.mv (Rn.extract rfl rfl) rfl rfl rfl (VO.mv (Rn.assign rfl) rfl rfl rfl (VO.mv (Rn.assign rfl) rfl rfl rfl (VO.nil (VQ.then_code (VC.seq ?_)))))))
  refine VC.seq (VC.region (VO.mv (Rn.move rfl) rfl rfl rfl (VO.mv (Rn.nil_neq_nil Tryz.underlying29 rfl) rfl rfl rfl (VO.nil (VQ.then_code (VC.cond_false rfl (VC.skip ?_)))))))
  refine VQ.then_code (VC.seq (VC.seq (VC.region (VO.mv (Rn.move rfl) rfl rfl rfl (VO.mv (Rn.len Tryz.underlying39 rfl) rfl rfl rfl (VO.mv (Rn.move rfl) rfl rfl rfl (VO.nil ?_)))))))
  refine VQ.then_code (VC.block ?_)
  have tr1_2 := tr1.keep c2
  have pl_2 := pl_1.keep c2
  have st_2 := st_1.keep c2
  have CH_2 := (Ch.refl (No) w).and (c1.trans c2)
  refine VC.loopS (σ := Nat × List CB) (fun (j, os) => [(0, .pointer (some ⟨p, 0, none⟩)), (8, .slice A1 n k1), (10, .slice A2 n k2), (31, .int .i64 n), (32, .int .i64 j)]) (fun (j, os) w' => j ≤ n ∧ WhU n (mixF (fun k => gRe (uvL n k us vs n).1 (uvL n k us vs n).2 (uvL n k us2 vs2 n).1 (uvL n k us2 vs2 n).2) (fun k => (uvL n k us vs n).1) j) (mixF (fun k => gIm (uvL n k us vs n).1 (uvL n k us vs n).2 (uvL n k us2 vs2 n).1 (uvL n k us2 vs2 n).2) (fun k => (uvL n k us vs n).2) j) n os ∧ w2.heap.size ≤ w'.heap.size ∧ CR 53 w' r1 A1 n k1 os ∧ CR 53 w' r2 A2 n k2 os2 ∧ PlnR lo hi w' p PP ∧ StT w' ∧ Ch (No) w w') (fun (j, os) => n - j) (0, os1) ?_ ⟨rfl, rfl, rfl, rfl, rfl, trivial⟩ ?_
  · exact ⟨(by omega), ht1.mix0, (Nat.le_refl _), tr1_2, tr2, pl_2, st_2, CH_2⟩
  rintro ⟨j, os⟩ w3 ⟨hj, hm, hsz3, tr1_3, tr2_3, pl_3, st_3, CH_3⟩
  show VC _ _ _ _ [(0, .pointer (some ⟨p, 0, none⟩)), (8, .slice A1 n k1), (10, .slice A2 n k2), (31, .int .i64 n), (32, .int .i64 j)] _
  refine VC.seq (VC.region (VO.mv (Rn.lss rfl rfl) rfl rfl rfl (VO.nil (VQ.then_code (VC.seq (VC.cond_if rfl (fun hc1 => ?_) (fun hc1 => ?_)))))))
  · skip
    refine VC.skip (VQ.then_code (VC.seq (VC.block (VC.seq (VC.region (VO.mv (Rn.move rfl) rfl rfl rfl (VO.mv (Rn.assign rfl) rfl rfl rfl ?_)))))))
    refine VO.nil (VQ.then_code (VC.draws 12 [(0, true), (1, true), (2, true), (3, true), (4, true), (5, true), (6, true), (7, true), (8, true), (9, true), (10, false), (11, true)] (fun w1 w' => Ch (No) w1 w') mixed (by kernel_rfl) (fun _ _ => Ch.refl _ _) ?_))
    intro w4 D4
    have c4 := Ch.of_drew D4; have z4 := c4.size
    have tr1_4 := tr1_3.keep c4
    have tr2_4 := tr2_3.keep c4
    refine VH.mv (fun w' hS => Rn.move rfl) rfl rfl rfl rfl (VH.mv (fun w' hS => Rn.move rfl) rfl rfl rfl rfl (VH.mv (fun w' hS => Rn.move rfl) rfl rfl rfl rfl (VH.mv (fun w' hS => Rn.move rfl) rfl rfl rfl rfl (VH.mv (fun w' hS => Rn.indexS Tryz.underlying39 Tryz.sizeOf53 rfl rfl (tr1_4.sl.ne (by omega)) (by omega) (by omega)) rfl rfl rfl rfl (VH.mv (fun w' hS => Rn.load Tryz.isAgg53 rfl ((tr1_4.keep hS).sl.getC (by omega) (by omega))) rfl rfl rfl rfl (VH.mv (fun w' hS => Rn.move rfl) rfl rfl rfl rfl (VH.mv (fun w' hS => Rn.move rfl) rfl rfl rfl rfl ?_)))))))
    refine VH.mv (fun w' hS => Rn.indexS Tryz.underlying39 Tryz.sizeOf53 rfl rfl (tr2_4.sl.ne (by omega)) (by omega) (by omega)) rfl rfl rfl rfl (VH.mv (fun w' hS => Rn.load Tryz.isAgg53 rfl ((tr2_4.keep hS).sl.getC (by omega) (by omega))) rfl rfl rfl rfl (VH.wk (Wk.call Tryz.call59 rfl (cplx_Mul _ _ _ _ _)) rfl rfl rfl rfl ?_))
    rintro _ w5 ⟨p5, q5, rfl, F5, c5⟩
    have z5 := c5.size
    have RD_5 := (Ch.refl (No) w4).and c5
    refine ⟨RD_5, ?_⟩
    refine VH.mv (fun w' hS => Rn.indexS Tryz.underlying39 Tryz.sizeOf53 rfl rfl (tr1_4.sl.ne (by omega)) (by omega) (by omega)) rfl rfl rfl rfl (VH.done ?_)
    have tr1_5 := tr1_4.keep c5
    refine VO.wk0 (Wk.putC Tryz.sizeOf53 rfl rfl (by omega) tr1_5) rfl rfl ?_
    rintro _ w6 ⟨o6, c6, z6⟩
    have y6 := o6.lt
    refine VO.nil (VQ.noPanic (VQ.block_normal (VQ.then_code (VC.region ?_))))
    refine VO.mv (Rn.add rfl rfl (by rw [IntKind.wrap_i64]; omega)) rfl rfl rfl ?_
    refine VO.mv (Rn.move rfl) rfl rfl rfl (VO.nil ?_)
    refine VQ.round (j + 1, os.set j (p5, q5)) (by first | omega | (dsimp only; omega)) ?_ ⟨rfl, rfl, rfl, rfl, rfl, trivial⟩
    have tr2_5 := tr2_4.keep c5
    have tr2_6 := tr2_5.to c6 (by first | exact fun _ _ _ _ => id | (intro q h1 h2 hx h3; omega))
    have pl_5 := pl_3.keep (c4.trans c5)
    have pl_6 := pl_5.to c6 (by first | exact fun _ _ _ _ => id | (intro q h1 h2 hx h3; omega))
    have st_5 := st_3.keep (c4.trans c5)
    have st_6 := st_5.to c6 (by first | exact fun _ _ _ _ => id | (intro q h1 h2 hx h3; omega))
    have CH_5 := CH_3.and (c4.trans c5)
    have CH_6 : Ch (No) w w6 := CH_5.then c6 (by intro q h1 h2; rcases h2 with h2 | h2 <;> first | exact h2 | (exfalso; omega) | omega)
    exact ⟨(by omega), (hm.mix (by omega) (by rw [F5, Int.toNat_natCast]; have h8 := hm.get j (by omega); simp only [mixF, if_neg (Nat.lt_irrefl j)] at h8; exact h8.mulG (ht2.get j (by omega)) (h1.uv hn.2) (h2.uv hn.2))), (by omega), o6, tr2_6, pl_6, st_6, CH_6⟩
  · skip
    refine VC.exit (VQ.then_exit (VQ.then_exit (VQ.block_exit (VQ.then_code (VC.seq ?_)))))
    have ej : j = n := by omega
    rw [ej] at hm
    refine VC.region (VO.mv (Rn.move rfl) rfl rfl rfl (VO.mv (Rn.move rfl) rfl rfl rfl ?_))
    refine VO.wk (Wk.call Tryz.call43 rfl (plan_InvL n _ _ _ _ _ _ _ _ (cyc n (fR us vs us2 vs2)) (cyc n (fI us vs us2 vs2)) _ (tr1_3).sl (fun q hq => by have := Ow.lt tr1_3; omega) pl_3 (by omega) hL (hm.mixAll.cast fun k hk => conv_uv hL.n us vs us2 vs2 hk) (h1.cyc hn.2 h2) st_3 (by omega))) rfl rfl rfl ?_
    rintro _ w7 ⟨r7, A7, k7, os7, rfl, tr7, ht7, yr7, c7⟩
    have yt7 := Ow.lt tr7
    have z7 := c7.size
    refine VO.mv (Rn.extract rfl rfl) rfl rfl rfl (VO.mv (Rn.extract rfl rfl) rfl rfl rfl (VO.mv (Rn.assign rfl) rfl rfl rfl (VO.mv (Rn.assign rfl) rfl rfl rfl (VO.nil (VQ.then_code (VC.ret (VQ.ret2 rfl rfl rfl ?_)))))))
    refine Ret.mk ?_
    have CH_7 := CH_3.and c7
    exact ⟨_, _, _, _, rfl, tr7, ht7, by omega, CH_7⟩
end Go.Tm
