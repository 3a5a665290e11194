/- Lemmas of this claim, joined by program. Walks of functions: roots of unity in general. Whole numbers as floats: sums, differences, products and quotients that are whole are exact. Leaves on whole numbers: what comes out is exact, and the inverse brings the list back. A product by one and a quotient by one are exact, for every float. The half on whole numbers, in plain Lean: halves, twists by powers of minus i, there and back, two at once. Conditions: each lemma names its own. -/
import Derived.Test.YtbmhbmlgndhpgaaGreatDoorA14
import Derived.Test.YtbmhbmlgndhpgaaGreatDoorA11
import Derived.Test.YtbmhbmlgndhpgaaGreatDoorA10
set_option linter.all false
namespace Go.Tm
open Go.RowKit Go.Proofs
set_option maxHeartbeats 1000000 in
set_option maxRecDepth 100000 in
theorem roots_horner0 (y : Nat) (w : World) :
  Calls Tryz.prog 44 #[.float .f64 y, .int .i64 0] w (Ret (fun v w' => ∃ b, v = .float .f64 b ∧ cn b = hornF 0 (cn y) ∧ Ch No w w')) := by
 refine calls_of_VC (args := [.float .f64 y, .int .i64 0]) Tryz.func44 rfl Tryz.ntmps44 rfl (VC.seq (VC.region (VO.mv (Rn.assign rfl) rfl rfl rfl (VO.nil (VQ.then_code (VC.seq (VC.region ?_)))))))
 refine VO.wk (Wk.alloc Tryz.zeroValue100) rfl rfl rfl ?_
 rintro _ w1 ⟨p1, rfl, N1⟩
 have c1 := N1.ch
 have e1 := N1.p; have z1 := N1.size
 have b5 := Bk.new N1
 refine VO.nil (VQ.then_code (VC.seq (VC.region (VO.mv (Rn.assign rfl) rfl rfl rfl (VO.nil (VQ.then_code (VC.seq ?_)))))))
 refine VC.seq (VC.region (VO.mv (Rn.assign rfl) rfl rfl rfl (VO.nil (VQ.then_code (VC.block ?_)))))
 have CH_1 := (Ch.refl (No) w).and c1
 refine VC.loopS (σ := Nat × Nat × List Nat) (fun (j, f, xs) => [(0, .float .f64 y), (1, .int .i64 0), (5, .pointer (some ⟨p1, 0, none⟩)), (6, .float .f64 f), (7, .int .i64 (j + 1))]) (fun (j, f, xs) w' => j ≤ 16 ∧ cn f = facF j ∧ CofA 0 j xs ∧ w1.heap.size ≤ w'.heap.size ∧ Bk w' p1 (arrF xs) 100 ∧ Ch (No) w w') (fun (j, f, xs) => 17 - j) (0, _, List.replicate 9 0) ?_ ⟨rfl, rfl, rfl, rfl, rfl, trivial⟩ ?_
 · exact ⟨(by omega), (by rfl), (CofA.zero _), (Nat.le_refl _), b5, CH_1⟩
 rintro ⟨j, f, xs⟩ w2 ⟨hj, hf, hx, hsz2, ar_2, CH_2⟩
 show VC _ _ _ _ [(0, .float .f64 y), (1, .int .i64 0), (5, .pointer (some ⟨p1, 0, none⟩)), (6, .float .f64 f), (7, .int .i64 (j + 1))] _
 have hxl := hx.len
 refine VC.seq (VC.seq (VC.region (VO.mv (Rn.move rfl) rfl rfl rfl (VO.mv (Rn.move rfl) rfl rfl rfl ?_))))
 refine VO.mv (Rn.add rfl rfl (by rw [IntKind.wrap_i64]; omega)) rfl rfl rfl ?_
 refine VO.mv (Rn.sub rfl rfl (by rw [IntKind.wrap_i64]; omega)) rfl rfl rfl ?_
 refine VO.mv (Rn.lss rfl rfl) rfl rfl rfl (VO.nil (VQ.then_code (VC.cond_if rfl (fun hc1 => ?_) (fun hc1 => ?_))))
 ·
  refine VC.skip (VQ.then_code (VC.seq (VC.block (VC.seq (VC.region (VO.mv (Rn.move rfl) rfl rfl rfl (VO.mv (Rn.move rfl) rfl rfl rfl ?_)))))))
  refine VO.mv (Rn.conv_if Tryz.underlying3 Tryz.underlying36 rfl) rfl rfl rfl (VO.wk (Wk.fbin (.inr (.inr (.inl rfl))) rfl rfl) rfl rfl rfl ?_)
  rintro _ w3 ⟨r3, rfl, f3, c3⟩
  have z3 := c3.size
  refine VO.mv (Rn.assign rfl) rfl rfl rfl (VO.nil (VQ.then_code (VC.seq (VC.region (VO.mv (Rn.move rfl) rfl rfl rfl (VO.mv (Rn.move rfl) rfl rfl rfl (VO.mv (Rn.geq rfl rfl) rfl rfl rfl ?_)))))))
  refine VO.mv (Rn.move rfl) rfl rfl rfl ?_
  refine VO.andJoin (b := _) 6 24 30 rfl (fun hc2 Jhc2 => by
    try simp only [Bool.and_eq_true, Bool.or_eq_true, Bool.not_eq_true', Bool.not_eq_false', Bool.and_eq_false_iff, Bool.or_eq_false_iff, decide_eq_true_eq, decide_eq_false_iff_not] at hc2
    refine VO.mv (Rn.move rfl) rfl rfl rfl (VO.mv (Rn.move rfl) rfl rfl rfl ?_)
    refine VO.mv (Rn.sub rfl rfl (by rw [IntKind.wrap_i64]; omega)) rfl rfl rfl ?_
    refine VO.mv (Rn.rem0 rfl rfl (by omega) (by omega)) rfl rfl rfl (VO.mv (Rn.eql rfl rfl) rfl rfl rfl (VO.mv (Rn.pick_true rfl rfl) rfl rfl rfl ?_))
    exact (VO.fg rfl (VO.fg rfl (VO.fg rfl (VO.fg rfl (VO.fg rfl Jhc2)))))) (fun hc2 Jhc2 => by
    refine VO.skip rfl rfl rfl (VO.skip rfl rfl rfl (VO.skip rfl rfl rfl (VO.skip rfl rfl rfl (VO.skip rfl rfl rfl (VO.mv (Rn.pick_false rfl rfl) rfl rfl rfl ?_)))))
    exact (VO.fg rfl (VO.fg rfl (VO.fg rfl (VO.fg rfl (VO.fg rfl Jhc2)))))) ?_
  refine VO.nil (VQ.then_code (VC.cond rfl (fun hc3 => ?_) (fun hc3 => ?_)))
  ·
   try simp only [Bool.and_eq_true, Bool.or_eq_true, Bool.not_eq_true', Bool.not_eq_false', Bool.and_eq_false_iff, Bool.or_eq_false_iff, decide_eq_true_eq, decide_eq_false_iff_not] at hc3
   refine VC.region (VO.mv (Rn.move rfl) rfl rfl rfl (VO.mv (Rn.move rfl) rfl rfl rfl ?_))
   refine VO.mv (Rn.sub rfl rfl (by rw [IntKind.wrap_i64]; omega)) rfl rfl rfl ?_
   refine VO.mv (Rn.quo0 rfl rfl (by omega) (by omega) (by omega)) rfl rfl rfl (VO.mv (Rn.move rfl) rfl rfl rfl (VO.wk (Wk.fbin (.inr (.inr (.inr rfl))) rfl rfl) rfl rfl rfl ?_))
   rintro _ w4 ⟨r4, rfl, f4, c4⟩
   have z4 := c4.size
   refine VO.mv (Rn.indexArrL (o' := (j + 1 - 0) / 2) Tryz.underlying100 Tryz.sizeOf36 rfl rfl (by omega) (by omega) (by omega)) rfl rfl rfl ?_
   have ar_4 := ar_2.keep (c3.trans c4)
   refine VO.wk0 (Wk.putArr Tryz.sizeOf36 rfl rfl ar_4 (by omega)) rfl rfl ?_
   rintro _ w5 ⟨ar5, c5, zz5⟩
   have z5 := c5.size
   refine VO.nil (VQ.block_normal (VQ.then_code (VC.region (VO.mv (Rn.move rfl) rfl rfl rfl ?_))))
   refine VO.mv (Rn.add rfl rfl (by rw [IntKind.wrap_i64]; omega)) rfl rfl rfl ?_
   refine VO.mv (Rn.assign rfl) rfl rfl rfl (VO.nil ?_)
   refine VQ.round (j + 1, _, xs.set ((j + 1 - 0) / 2) r4) (by first | omega | (dsimp only; omega)) ?_ ⟨rfl, rfl, rfl, rfl, rfl, trivial⟩
   have CH_4 := CH_2.and (c3.trans c4)
   have CH_5 : Ch (No) w w5 := CH_4.then c5 (by intro q h1 h2; rcases h2 with h2 | h2 <;> first | exact h2 | (exfalso; omega) | omega)
   exact ⟨by omega, (by rw [f3, hf]; rfl), hx.put (by omega) (by omega) (by rw [f4, f3, hf]; rfl), by omega, ar5, CH_5⟩
  ·
   try simp only [Bool.and_eq_true, Bool.or_eq_true, Bool.not_eq_true', Bool.not_eq_false', Bool.and_eq_false_iff, Bool.or_eq_false_iff, decide_eq_true_eq, decide_eq_false_iff_not] at hc3
   refine VC.skip (VQ.block_normal (VQ.then_code (VC.region (VO.mv (Rn.move rfl) rfl rfl rfl ?_))))
   refine VO.mv (Rn.add rfl rfl (by rw [IntKind.wrap_i64]; omega)) rfl rfl rfl ?_
   refine VO.mv (Rn.assign rfl) rfl rfl rfl (VO.nil ?_)
   refine VQ.round (j + 1, _, xs) (by first | omega | (dsimp only; omega)) ?_ ⟨rfl, rfl, rfl, rfl, rfl, trivial⟩
   have ar_3 := ar_2.keep c3
   have CH_3 := CH_2.and c3
   exact ⟨by omega, (by rw [f3, hf]; rfl), hx.skip (fun i => by omega), by omega, ar_3, CH_3⟩
 ·
  refine VC.exit (VQ.then_exit (VQ.then_exit (VQ.block_exit (VQ.then_code (VC.seq (VC.seq (VC.region ?_)))))))
  refine VO.mv (Rn.move rfl) rfl rfl rfl (VO.mv (Rn.eql rfl rfl) rfl rfl rfl (VO.nil (VQ.then_code (VC.cond_if rfl (fun hc4 => ?_) (fun hc4 => ?_)))))
  ·
   refine VC.region (VO.mv (Rn.indexArrL (o' := 0) Tryz.underlying100 Tryz.sizeOf36 rfl rfl (by omega) (by omega) (by omega)) rfl rfl rfl (VO.wk0 (Wk.putArr Tryz.sizeOf36 rfl rfl ar_2 (by omega)) rfl rfl ?_))
   rintro _ w6 ⟨ar6, c6, zz6⟩
   have z6 := c6.size
   refine VO.nil (VQ.then_code (VC.seq ?_))
   have ej : j = 16 := by omega
   rw [ej] at hx
   obtain ⟨hxm, hxg⟩ := hx.last0
   refine VC.region (VO.mv (Rn.indexArrL (o' := 8) Tryz.underlying100 Tryz.sizeOf36 rfl rfl (by omega) (by omega) (by omega)) rfl rfl rfl (VO.mv (Rn.load Tryz.isAgg36 rfl ((ar6).getF (by omega))) rfl rfl rfl (VO.mv (Rn.assign rfl) rfl rfl rfl (VO.nil (VQ.then_code (VC.seq (VC.seq ?_)))))))
   refine VC.region (VO.mv (Rn.assign rfl) rfl rfl rfl (VO.nil (VQ.then_code (VC.block ?_))))
   have CH_6 : Ch (No) w w6 := CH_2.then c6 (by intro q h1 h2; rcases h2 with h2 | h2 <;> first | exact h2 | (exfalso; omega) | omega)
   refine VC.loopS (σ := Int × Nat) (fun (i, p) => [(0, .float .f64 y), (5, .pointer (some ⟨p1, 0, none⟩)), (8, .float .f64 p), (9, .int .i64 i)]) (fun (i, p) w' => (-1 ≤ i ∧ i ≤ 7) ∧ cn p = hornP 0 (cn y) (7 - i).toNat ∧ w6.heap.size ≤ w'.heap.size ∧ Bk w' p1 (arrF (xs.set 0 4607182418800017408)) 100 ∧ Ch (No) w w') (fun (i, p) => (i + 1).toNat) (7, _) ?_ ⟨rfl, rfl, rfl, rfl, trivial⟩ ?_
   · exact ⟨⟨by omega, by omega⟩, (hxg 8 (by omega)), (Nat.le_refl _), ar6, CH_6⟩
   rintro ⟨i, p⟩ w7 ⟨hj2, hp, hsz7, ar_7, CH_7⟩
   show VC _ _ _ _ [(0, .float .f64 y), (5, .pointer (some ⟨p1, 0, none⟩)), (8, .float .f64 p), (9, .int .i64 i)] _
   refine VC.seq (VC.seq (VC.region (VO.mv (Rn.move rfl) rfl rfl rfl (VO.mv (Rn.geq rfl rfl) rfl rfl rfl (VO.nil (VQ.then_code (VC.cond_if rfl (fun hc5 => ?_) (fun hc5 => ?_))))))))
   ·
    refine VC.skip (VQ.then_code (VC.seq (VC.block (VC.region (VO.mv (Rn.move rfl) rfl rfl rfl (VO.mv (Rn.indexArrL (o' := i.toNat) Tryz.underlying100 Tryz.sizeOf36 rfl rfl (by omega) (by omega) (by omega)) rfl rfl rfl (VO.mv (Rn.load Tryz.isAgg36 rfl ((ar_7).getF (by omega))) rfl rfl rfl ?_)))))))
    refine VO.mv (Rn.move rfl) rfl rfl rfl (VO.mv (Rn.move rfl) rfl rfl rfl (VO.wk (Wk.fbin (.inr (.inr (.inl rfl))) rfl rfl) rfl rfl rfl ?_))
    rintro _ w8 ⟨r8, rfl, f8, c8⟩
    have z8 := c8.size
    refine VO.wk (Wk.fbin (.inr (.inl rfl)) rfl rfl) rfl rfl rfl ?_
    rintro _ w9 ⟨r9, rfl, f9, c9⟩
    have z9 := c9.size
    refine VO.mv (Rn.assign rfl) rfl rfl rfl (VO.nil (VQ.block_normal (VQ.then_code (VC.region (VO.mv (Rn.move rfl) rfl rfl rfl ?_)))))
    refine VO.mv (Rn.sub rfl rfl (by rw [IntKind.wrap_i64]; omega)) rfl rfl rfl ?_
    refine VO.mv (Rn.assign rfl) rfl rfl rfl (VO.nil ?_)
    refine VQ.round (i - 1, _) (by first | omega | (dsimp only; omega)) ?_ ⟨rfl, rfl, rfl, rfl, trivial⟩
    have ar_9 := ar_7.keep (c8.trans c9)
    have CH_9 := CH_7.and (c8.trans c9)
    exact ⟨⟨by omega, by omega⟩, (by rw [show (7 - (i - 1)).toNat = (7 - i).toNat + 1 by omega, f9, f8, hxg i.toNat (by omega), hp, hornP, show 7 - (7 - i).toNat = i.toNat by omega]; try rfl), by omega, ar_9, CH_9⟩
   ·
    refine VC.exit (VQ.then_exit (VQ.then_exit (VQ.block_exit (VQ.then_code (VC.seq (VC.region (VO.mv (Rn.move rfl) rfl rfl rfl ?_)))))))
    refine VO.mv (Rn.assign rfl) rfl rfl rfl (VO.nil (VQ.then_code (VC.ret (VQ.ret1 rfl rfl (Ret.mk ?_)))))
    have ei : i = -1 := by omega
    subst ei
    exact ⟨_, rfl, hp, CH_7⟩
  ·
   omega
set_option maxHeartbeats 1000000 in
set_option maxRecDepth 100000 in
theorem roots_horner1 (y : Nat) (w : World) :
  Calls Tryz.prog 44 #[.float .f64 y, .int .i64 1] w (Ret (fun v w' => ∃ b, v = .float .f64 b ∧ cn b = hornF 1 (cn y) ∧ Ch No w w')) := by
 refine calls_of_VC (args := [.float .f64 y, .int .i64 1]) Tryz.func44 rfl Tryz.ntmps44 rfl (VC.seq (VC.region (VO.mv (Rn.assign rfl) rfl rfl rfl (VO.nil (VQ.then_code (VC.seq (VC.region ?_)))))))
 refine VO.wk (Wk.alloc Tryz.zeroValue100) rfl rfl rfl ?_
 rintro _ w1 ⟨p1, rfl, N1⟩
 have c1 := N1.ch
 have e1 := N1.p; have z1 := N1.size
 have b5 := Bk.new N1
 refine VO.nil (VQ.then_code (VC.seq (VC.region (VO.mv (Rn.assign rfl) rfl rfl rfl (VO.nil (VQ.then_code (VC.seq ?_)))))))
 refine VC.seq (VC.region (VO.mv (Rn.assign rfl) rfl rfl rfl (VO.nil (VQ.then_code (VC.block ?_)))))
 have CH_1 := (Ch.refl (No) w).and c1
 refine VC.loopS (σ := Nat × Nat × List Nat) (fun (j, f, xs) => [(0, .float .f64 y), (1, .int .i64 1), (5, .pointer (some ⟨p1, 0, none⟩)), (6, .float .f64 f), (7, .int .i64 (j + 1))]) (fun (j, f, xs) w' => j ≤ 17 ∧ cn f = facF j ∧ CofA 1 j xs ∧ w1.heap.size ≤ w'.heap.size ∧ Bk w' p1 (arrF xs) 100 ∧ Ch (No) w w') (fun (j, f, xs) => 17 - j) (0, _, List.replicate 9 0) ?_ ⟨rfl, rfl, rfl, rfl, rfl, trivial⟩ ?_
 · exact ⟨(by omega), (by rfl), (CofA.zero _), (Nat.le_refl _), b5, CH_1⟩
 rintro ⟨j, f, xs⟩ w2 ⟨hj, hf, hx, hsz2, ar_2, CH_2⟩
 show VC _ _ _ _ [(0, .float .f64 y), (1, .int .i64 1), (5, .pointer (some ⟨p1, 0, none⟩)), (6, .float .f64 f), (7, .int .i64 (j + 1))] _
 have hxl := hx.len
 refine VC.seq (VC.seq (VC.region (VO.mv (Rn.move rfl) rfl rfl rfl (VO.mv (Rn.move rfl) rfl rfl rfl ?_))))
 refine VO.mv (Rn.add rfl rfl (by rw [IntKind.wrap_i64]; omega)) rfl rfl rfl ?_
 refine VO.mv (Rn.sub rfl rfl (by rw [IntKind.wrap_i64]; omega)) rfl rfl rfl ?_
 refine VO.mv (Rn.lss rfl rfl) rfl rfl rfl (VO.nil (VQ.then_code (VC.cond_if rfl (fun hc1 => ?_) (fun hc1 => ?_))))
 ·
  refine VC.skip (VQ.then_code (VC.seq (VC.block (VC.seq (VC.region (VO.mv (Rn.move rfl) rfl rfl rfl (VO.mv (Rn.move rfl) rfl rfl rfl ?_)))))))
  refine VO.mv (Rn.conv_if Tryz.underlying3 Tryz.underlying36 rfl) rfl rfl rfl (VO.wk (Wk.fbin (.inr (.inr (.inl rfl))) rfl rfl) rfl rfl rfl ?_)
  rintro _ w3 ⟨r3, rfl, f3, c3⟩
  have z3 := c3.size
  refine VO.mv (Rn.assign rfl) rfl rfl rfl (VO.nil (VQ.then_code (VC.seq (VC.region (VO.mv (Rn.move rfl) rfl rfl rfl (VO.mv (Rn.move rfl) rfl rfl rfl (VO.mv (Rn.geq rfl rfl) rfl rfl rfl ?_)))))))
  refine VO.mv (Rn.move rfl) rfl rfl rfl ?_
  refine VO.andJoin (b := _) 6 24 30 rfl (fun hc2 Jhc2 => by
    try simp only [Bool.and_eq_true, Bool.or_eq_true, Bool.not_eq_true', Bool.not_eq_false', Bool.and_eq_false_iff, Bool.or_eq_false_iff, decide_eq_true_eq, decide_eq_false_iff_not] at hc2
    refine VO.mv (Rn.move rfl) rfl rfl rfl (VO.mv (Rn.move rfl) rfl rfl rfl ?_)
    refine VO.mv (Rn.sub rfl rfl (by rw [IntKind.wrap_i64]; omega)) rfl rfl rfl ?_
    refine VO.mv (Rn.rem0 rfl rfl (by omega) (by omega)) rfl rfl rfl (VO.mv (Rn.eql rfl rfl) rfl rfl rfl (VO.mv (Rn.pick_true rfl rfl) rfl rfl rfl ?_))
    exact (VO.fg rfl (VO.fg rfl (VO.fg rfl (VO.fg rfl (VO.fg rfl Jhc2)))))) (fun hc2 Jhc2 => by
    refine VO.skip rfl rfl rfl (VO.skip rfl rfl rfl (VO.skip rfl rfl rfl (VO.skip rfl rfl rfl (VO.skip rfl rfl rfl (VO.mv (Rn.pick_false rfl rfl) rfl rfl rfl ?_)))))
    exact (VO.fg rfl (VO.fg rfl (VO.fg rfl (VO.fg rfl (VO.fg rfl Jhc2)))))) ?_
  refine VO.nil (VQ.then_code (VC.cond rfl (fun hc3 => ?_) (fun hc3 => ?_)))
  ·
   try simp only [Bool.and_eq_true, Bool.or_eq_true, Bool.not_eq_true', Bool.not_eq_false', Bool.and_eq_false_iff, Bool.or_eq_false_iff, decide_eq_true_eq, decide_eq_false_iff_not] at hc3
   refine VC.region (VO.mv (Rn.move rfl) rfl rfl rfl (VO.mv (Rn.move rfl) rfl rfl rfl ?_))
   refine VO.mv (Rn.sub rfl rfl (by rw [IntKind.wrap_i64]; omega)) rfl rfl rfl ?_
   refine VO.mv (Rn.quo0 rfl rfl (by omega) (by omega) (by omega)) rfl rfl rfl (VO.mv (Rn.move rfl) rfl rfl rfl (VO.wk (Wk.fbin (.inr (.inr (.inr rfl))) rfl rfl) rfl rfl rfl ?_))
   rintro _ w4 ⟨r4, rfl, f4, c4⟩
   have z4 := c4.size
   refine VO.mv (Rn.indexArrL (o' := (j + 1 - 1) / 2) Tryz.underlying100 Tryz.sizeOf36 rfl rfl (by omega) (by omega) (by omega)) rfl rfl rfl ?_
   have ar_4 := ar_2.keep (c3.trans c4)
   refine VO.wk0 (Wk.putArr Tryz.sizeOf36 rfl rfl ar_4 (by omega)) rfl rfl ?_
   rintro _ w5 ⟨ar5, c5, zz5⟩
   have z5 := c5.size
   refine VO.nil (VQ.block_normal (VQ.then_code (VC.region (VO.mv (Rn.move rfl) rfl rfl rfl ?_))))
   refine VO.mv (Rn.add rfl rfl (by rw [IntKind.wrap_i64]; omega)) rfl rfl rfl ?_
   refine VO.mv (Rn.assign rfl) rfl rfl rfl (VO.nil ?_)
   refine VQ.round (j + 1, _, xs.set ((j + 1 - 1) / 2) r4) (by first | omega | (dsimp only; omega)) ?_ ⟨rfl, rfl, rfl, rfl, rfl, trivial⟩
   have CH_4 := CH_2.and (c3.trans c4)
   have CH_5 : Ch (No) w w5 := CH_4.then c5 (by intro q h1 h2; rcases h2 with h2 | h2 <;> first | exact h2 | (exfalso; omega) | omega)
   exact ⟨by omega, (by rw [f3, hf]; rfl), hx.put (by omega) (by omega) (by rw [f4, f3, hf]; rfl), by omega, ar5, CH_5⟩
  ·
   try simp only [Bool.and_eq_true, Bool.or_eq_true, Bool.not_eq_true', Bool.not_eq_false', Bool.and_eq_false_iff, Bool.or_eq_false_iff, decide_eq_true_eq, decide_eq_false_iff_not] at hc3
   refine VC.skip (VQ.block_normal (VQ.then_code (VC.region (VO.mv (Rn.move rfl) rfl rfl rfl ?_))))
   refine VO.mv (Rn.add rfl rfl (by rw [IntKind.wrap_i64]; omega)) rfl rfl rfl ?_
   refine VO.mv (Rn.assign rfl) rfl rfl rfl (VO.nil ?_)
   refine VQ.round (j + 1, _, xs) (by first | omega | (dsimp only; omega)) ?_ ⟨rfl, rfl, rfl, rfl, rfl, trivial⟩
   have ar_3 := ar_2.keep c3
   have CH_3 := CH_2.and c3
   exact ⟨by omega, (by rw [f3, hf]; rfl), hx.skip (fun i => by omega), by omega, ar_3, CH_3⟩
 ·
  refine VC.exit (VQ.then_exit (VQ.then_exit (VQ.block_exit (VQ.then_code (VC.seq (VC.seq (VC.region ?_)))))))
  refine VO.mv (Rn.move rfl) rfl rfl rfl (VO.mv (Rn.eql rfl rfl) rfl rfl rfl (VO.nil (VQ.then_code (VC.cond_if rfl (fun hc4 => ?_) (fun hc4 => ?_)))))
  ·
   omega
  ·
   refine VC.skip (VQ.then_code (VC.seq ?_))
   have ej : j = 17 := by omega
   rw [ej] at hx
   obtain ⟨hxm, hxg⟩ := (CofA.last1 (first := 1) hx rfl)
   refine VC.region (VO.mv (Rn.indexArrL (o' := 8) Tryz.underlying100 Tryz.sizeOf36 rfl rfl (by omega) (by omega) (by omega)) rfl rfl rfl (VO.mv (Rn.load Tryz.isAgg36 rfl ((ar_2).getF (by omega))) rfl rfl rfl (VO.mv (Rn.assign rfl) rfl rfl rfl (VO.nil (VQ.then_code (VC.seq (VC.seq ?_)))))))
   refine VC.region (VO.mv (Rn.assign rfl) rfl rfl rfl (VO.nil (VQ.then_code (VC.block (VC.loopS (σ := Int × Nat) (fun (i, p) => [(0, .float .f64 y), (5, .pointer (some ⟨p1, 0, none⟩)), (8, .float .f64 p), (9, .int .i64 i)]) (fun (i, p) w' => (-1 ≤ i ∧ i ≤ 7) ∧ cn p = hornP 1 (cn y) (7 - i).toNat ∧ w2.heap.size ≤ w'.heap.size ∧ Bk w' p1 (arrF xs) 100 ∧ Ch (No) w w') (fun (i, p) => (i + 1).toNat) (7, _) ?_ ⟨rfl, rfl, rfl, rfl, trivial⟩ ?_)))))
   · exact ⟨⟨by omega, by omega⟩, (hxg 8 (by omega)), (Nat.le_refl _), ar_2, CH_2⟩
   rintro ⟨i, p⟩ w6 ⟨hj2, hp, hsz6, ar_6, CH_6⟩
   show VC _ _ _ _ [(0, .float .f64 y), (5, .pointer (some ⟨p1, 0, none⟩)), (8, .float .f64 p), (9, .int .i64 i)] _
   refine VC.seq (VC.seq (VC.region (VO.mv (Rn.move rfl) rfl rfl rfl (VO.mv (Rn.geq rfl rfl) rfl rfl rfl (VO.nil (VQ.then_code (VC.cond_if rfl (fun hc5 => ?_) (fun hc5 => ?_))))))))
   ·
    refine VC.skip (VQ.then_code (VC.seq (VC.block (VC.region (VO.mv (Rn.move rfl) rfl rfl rfl (VO.mv (Rn.indexArrL (o' := i.toNat) Tryz.underlying100 Tryz.sizeOf36 rfl rfl (by omega) (by omega) (by omega)) rfl rfl rfl (VO.mv (Rn.load Tryz.isAgg36 rfl ((ar_6).getF (by omega))) rfl rfl rfl ?_)))))))
    refine VO.mv (Rn.move rfl) rfl rfl rfl (VO.mv (Rn.move rfl) rfl rfl rfl (VO.wk (Wk.fbin (.inr (.inr (.inl rfl))) rfl rfl) rfl rfl rfl ?_))
    rintro _ w7 ⟨r7, rfl, f7, c7⟩
    have z7 := c7.size
    refine VO.wk (Wk.fbin (.inr (.inl rfl)) rfl rfl) rfl rfl rfl ?_
    rintro _ w8 ⟨r8, rfl, f8, c8⟩
    have z8 := c8.size
    refine VO.mv (Rn.assign rfl) rfl rfl rfl (VO.nil (VQ.block_normal (VQ.then_code (VC.region (VO.mv (Rn.move rfl) rfl rfl rfl ?_)))))
    refine VO.mv (Rn.sub rfl rfl (by rw [IntKind.wrap_i64]; omega)) rfl rfl rfl ?_
    refine VO.mv (Rn.assign rfl) rfl rfl rfl (VO.nil ?_)
    refine VQ.round (i - 1, _) (by first | omega | (dsimp only; omega)) ?_ ⟨rfl, rfl, rfl, rfl, trivial⟩
    have ar_8 := ar_6.keep (c7.trans c8)
    have CH_8 := CH_6.and (c7.trans c8)
    exact ⟨⟨by omega, by omega⟩, (by rw [show (7 - (i - 1)).toNat = (7 - i).toNat + 1 by omega, f8, f7, hxg i.toNat (by omega), hp, hornP, show 7 - (7 - i).toNat = i.toNat by omega]; try rfl), by omega, ar_8, CH_8⟩
   ·
    refine VC.exit (VQ.then_exit (VQ.then_exit (VQ.block_exit (VQ.then_code (VC.seq (VC.region (VO.mv (Rn.move rfl) rfl rfl rfl ?_)))))))
    refine VO.mv (Rn.assign rfl) rfl rfl rfl (VO.nil (VQ.then_code (VC.ret (VQ.ret1 rfl rfl (Ret.mk ?_)))))
    have ei : i = -1 := by omega
    subst ei
    exact ⟨_, rfl, hp, CH_6⟩
set_option maxRecDepth 100000 in
theorem roots_eighth (r m : Int) (hr : 0 ≤ r ∧ r ≤ 1000000000000) (w : World) :
  Calls Tryz.prog 33 #[.int .i64 r, .int .i64 m] w (Ret (fun v w' => ∃ a b, v = .tuple #[.float .f64 a, .float .f64 b] ∧ cx (a, b) = eighF r m ∧ Ch No w w')) := by
 refine calls_of_VC (args := [.int .i64 r, .int .i64 m]) Tryz.func33 rfl Tryz.ntmps33 rfl (VC.seq (VC.region (VO.mv (Rn.assign rfl) rfl rfl rfl (VO.mv (Rn.assign rfl) rfl rfl rfl (VO.nil (VQ.then_code (VC.seq ?_)))))))
 refine VC.block (VC.seq (VC.region (VO.mv (Rn.move rfl) rfl rfl rfl (VO.mv (Rn.eql rfl rfl) rfl rfl rfl (VO.mv (Rn.assign rfl) rfl rfl rfl (VO.nil (VQ.then_code ?_)))))))
 refine VC.cond_if rfl (fun hc1 => ?_) (fun hc1 => ?_)
 ·
  refine VC.seq (VC.region (VO.mv (Rn.assign rfl) rfl rfl rfl (VO.mv (Rn.assign rfl) rfl rfl rfl (VO.nil (VQ.then_code (VC.ret (VQ.block_ret ?_)))))))
  refine VQ.then_ret (VQ.ret2 rfl rfl rfl (Ret.mk ?_))
  exact ⟨_, _, rfl, (by rw [eighF, if_pos (by omega)]; rfl), (Ch.refl (No) w)⟩
 ·
  refine VC.seq (VC.region (VO.mv (Rn.move rfl) rfl rfl rfl ?_))
  refine VO.mv (Rn.mul rfl rfl (by rw [IntKind.wrap_i64]; omega)) rfl rfl rfl ?_
  refine VO.mv (Rn.move rfl) rfl rfl rfl (VO.mv (Rn.eql rfl rfl) rfl rfl rfl (VO.mv (Rn.assign rfl) rfl rfl rfl (VO.nil (VQ.then_code (VC.cond_if rfl (fun hc2 => ?_) (fun hc2 => ?_))))))
  ·
   refine VC.seq (VC.region (VO.mv (Rn.fbits Tryz.func14 (by kernel_rfl) rfl (by kernel_rfl) (by kernel_rfl) rfl) rfl rfl rfl (VO.mv (Rn.assign rfl) rfl rfl rfl (VO.nil (VQ.then_code (VC.seq (VC.region ?_)))))))
   refine VO.mv (Rn.move rfl) rfl rfl rfl (VO.mv (Rn.move rfl) rfl rfl rfl (VO.mv (Rn.assign rfl) rfl rfl rfl (VO.mv (Rn.assign rfl) rfl rfl rfl (VO.nil (VQ.then_code (VC.ret (VQ.block_ret ?_)))))))
   refine VQ.then_ret (VQ.ret2 rfl rfl rfl (Ret.mk ?_))
   exact ⟨_, _, rfl, (by rw [eighF, if_neg (by omega), if_pos (by omega)]; rfl), (Ch.refl (No) w)⟩
  ·
   refine VC.skip (VQ.block_normal (VQ.then_code (VC.seq (VC.region (VO.mv (Rn.fbits Tryz.func14 (by kernel_rfl) rfl (by kernel_rfl) (by kernel_rfl) rfl) rfl rfl rfl (VO.mv (Rn.move rfl) rfl rfl rfl (VO.mv (Rn.conv_if Tryz.underlying3 Tryz.underlying36 rfl) rfl rfl rfl ?_)))))))
   refine VO.wk (Wk.fbin (.inr (.inr (.inl rfl))) rfl rfl) rfl rfl rfl ?_
   rintro _ w1 ⟨r1, rfl, f1, c1⟩
   have z1 := c1.size
   refine VO.mv (Rn.move rfl) rfl rfl rfl (VO.mv (Rn.conv_if Tryz.underlying3 Tryz.underlying36 rfl) rfl rfl rfl (VO.wk (Wk.fbin (.inr (.inr (.inr rfl))) rfl rfl) rfl rfl rfl ?_))
   rintro _ w2 ⟨r2, rfl, f2, c2⟩
   have z2 := c2.size
   refine VO.mv (Rn.assign rfl) rfl rfl rfl (VO.nil (VQ.then_code (VC.seq (VC.region (VO.mv (Rn.move rfl) rfl rfl rfl (VO.mv (Rn.move rfl) rfl rfl rfl (VO.wk (Wk.fbin (.inr (.inr (.inl rfl))) rfl rfl) rfl rfl rfl ?_)))))))
   rintro _ w3 ⟨r3, rfl, f3, c3⟩
   have z3 := c3.size
   refine VO.mv (Rn.assign rfl) rfl rfl rfl (VO.nil (VQ.then_code (VC.seq (VC.region (VO.mv (Rn.move rfl) rfl rfl rfl (VO.wk (Wk.call Tryz.call44 rfl (roots_horner0 _ _)) rfl rfl rfl ?_))))))
   rintro _ w4 ⟨b4, rfl, F4, c4⟩
   have z4 := c4.size
   refine VO.mv (Rn.move rfl) rfl rfl rfl (VO.mv (Rn.move rfl) rfl rfl rfl (VO.wk (Wk.call Tryz.call44 rfl (roots_horner1 _ _)) rfl rfl rfl ?_))
   rintro _ w5 ⟨b5, rfl, F5, c5⟩
   have z5 := c5.size
   refine VO.wk (Wk.fbin (.inr (.inr (.inl rfl))) rfl rfl) rfl rfl rfl ?_
   rintro _ w6 ⟨r6, rfl, f6, c6⟩
   have z6 := c6.size
   refine VO.mv (Rn.assign rfl) rfl rfl rfl (VO.mv (Rn.assign rfl) rfl rfl rfl (VO.nil (VQ.then_code (VC.ret (VQ.ret2 rfl rfl rfl (Ret.mk ?_))))))
   have CH_6 := (Ch.refl (No) w).and (c1.trans (c2.trans (c3.trans (c4.trans (c5.trans c6)))))
   exact ⟨_, _, rfl, (by rw [eighF, if_neg (by omega), if_neg (by omega)]; show (cn _, cn _) = _; rw [F4, f6, F5, f3, f2, f1]; rfl), CH_6⟩
set_option maxRecDepth 100000 in
theorem roots_modI (a : Int) (n q : Nat) (hn : 0 < n) (ha : -1000000000000 ≤ a ∧ a ≤ 1000000000000) (hn2 : n ≤ 1000000000000) (hq : a % (n : Int) = (q : Int)) (w : World) :
  Calls Tryz.prog 31 #[.int .i64 a, .int .i64 n] w (Ret (fun v w' => v = .int .i64 q ∧ w = w')) := by
 have h0 := tmod_mod (k := a) hn
 have h1 := Int.tmod_lt_of_pos a (show (0 : Int) < n by omega)
 have h2 := Int.tmod_lt_of_pos (-a) (show (0 : Int) < n by omega)
 rw [Int.neg_tmod] at h2
 rw [Int.tmod_eq_emod_of_nonneg (by omega)] at h0
 refine calls_of_VC (args := [.int .i64 a, .int .i64 n]) Tryz.func31 rfl Tryz.ntmps31 rfl (VC.seq (VC.region (VO.mv (Rn.assign rfl) rfl rfl rfl (VO.nil (VQ.then_code (VC.seq (VC.region ?_)))))))
 refine VO.mv (Rn.move rfl) rfl rfl rfl (VO.mv (Rn.move rfl) rfl rfl rfl (VO.mv (Rn.rem rfl rfl (by omega)) rfl rfl rfl (VO.mv (Rn.move rfl) rfl rfl rfl ?_)))
 refine VO.mv (Rn.add rfl rfl (by rw [IntKind.wrap_i64]; omega)) rfl rfl rfl ?_
 refine VO.mv (Rn.move rfl) rfl rfl rfl (VO.mv (Rn.rem0 rfl rfl (by omega) (by omega)) rfl rfl rfl (VO.mv (Rn.assign rfl) rfl rfl rfl (VO.nil (VQ.then_code (VC.ret (VQ.ret1 rfl rfl (Ret.mk ?_)))))))
 exact ⟨by rw [h0, hq], rfl⟩
set_option maxRecDepth 100000 in
theorem roots_pairG (n : Nat) (a : Int) (q : Nat) (hn : 1 ≤ n) (hn2 : n ≤ 4194304) (ha : -1000000000000 ≤ a ∧ a ≤ 1000000000000) (hq : a % (n : Int) = (q : Int)) (w : World) :
  Calls Tryz.prog 24 #[.int .i64 n, .int .i64 a] w (Ret (fun v w' => ∃ c s, v = .tuple #[.float .f64 c, .float .f64 s, .nilIface] ∧ cx (c, s) = pairF n q ∧ Ch No w w')) := by
 have hql : q < n := by have := Int.emod_lt_of_pos a (show (0 : Int) < n by omega); omega
 have hm := Nat.mod_lt (4 * q) (show 0 < n by omega)
 have hr : (4 * (q : Int)) % (n : Int) = ((4 * q % n : Nat) : Int) := by push_cast; rfl
 have hd : (4 * (q : Int)) / (n : Int) = ((4 * q / n : Nat) : Int) := by push_cast; rfl
 have hd2 := Nat.div_le_self (4 * q) n
 refine calls_of_VC (args := [.int .i64 n, .int .i64 a]) Tryz.func24 rfl Tryz.ntmps24 rfl (VC.seq (VC.region (VO.mv (Rn.assign rfl) rfl rfl rfl (VO.mv (Rn.assign rfl) rfl rfl rfl (VO.mv (Rn.assign rfl) rfl rfl rfl (VO.nil (VQ.then_code ?_)))))))
 refine VC.seq (VC.seq (VC.region (VO.mv (Rn.move rfl) rfl rfl rfl (VO.mv (Rn.lss rfl rfl) rfl rfl rfl (VO.mv (Rn.move rfl) rfl rfl rfl ?_)))))
 refine VO.orJoin (b := _) 3 13 16 rfl (fun hc1 Jhc1 => by
   refine VO.skip rfl rfl rfl (VO.skip rfl rfl rfl (VO.mv (Rn.pick_true rfl rfl) rfl rfl rfl ?_))
   exact (VO.fg rfl (VO.fg rfl Jhc1))) (fun hc1 Jhc1 => by
   try simp only [Bool.and_eq_true, Bool.or_eq_true, Bool.not_eq_true', Bool.not_eq_false', Bool.and_eq_false_iff, Bool.or_eq_false_iff, decide_eq_true_eq, decide_eq_false_iff_not] at hc1
   refine VO.mv (Rn.move rfl) rfl rfl rfl (VO.mv (Rn.gtr rfl rfl) rfl rfl rfl (VO.mv (Rn.pick_false rfl rfl) rfl rfl rfl ?_))
   exact (VO.fg rfl (VO.fg rfl Jhc1))) ?_
 refine VO.nil (VQ.then_code (VC.cond rfl (fun hc2 => ?_) (fun hc2 => ?_)))
 ·
  try simp only [Bool.and_eq_true, Bool.or_eq_true, Bool.not_eq_true', Bool.not_eq_false', Bool.and_eq_false_iff, Bool.or_eq_false_iff, decide_eq_true_eq, decide_eq_false_iff_not] at hc2
  omega
 ·
  try simp only [Bool.and_eq_true, Bool.or_eq_true, Bool.not_eq_true', Bool.not_eq_false', Bool.and_eq_false_iff, Bool.or_eq_false_iff, decide_eq_true_eq, decide_eq_false_iff_not] at hc2
  refine VC.skip (VQ.then_code (VC.seq (VC.region (VO.mv (Rn.move rfl) rfl rfl rfl (VO.mv (Rn.move rfl) rfl rfl rfl (VO.wk (Wk.call Tryz.call31 rfl (roots_modI _ _ q (by omega) (by omega) (by omega) hq _)) rfl rfl rfl ?_))))))
  rintro _ _ ⟨rfl, rfl⟩
  refine VO.mv (Rn.mul rfl rfl (by rw [IntKind.wrap_i64]; omega)) rfl rfl rfl ?_
  refine VO.mv (Rn.assign rfl) rfl rfl rfl (VO.nil (VQ.then_code (VC.seq (VC.region (VO.mv (Rn.move rfl) rfl rfl rfl (VO.mv (Rn.move rfl) rfl rfl rfl (VO.mv (Rn.rem0 rfl rfl (by omega) (by omega)) rfl rfl rfl ?_)))))))
  refine VO.mv (Rn.assign rfl) rfl rfl rfl (VO.nil (VQ.then_code (VC.seq (VC.region (VO.mv (Rn.assign rfl) rfl rfl rfl (VO.mv (Rn.assign rfl) rfl rfl rfl (VO.nil ?_)))))))
  refine VQ.then_code (VC.cut (σ := Nat × Nat) (fun (c, s) => [(0, .int .i64 n), (7, .int .i64 (4 * (q : Int))), (9, .float .f64 c), (10, .float .f64 s)]) (fun (c, s) w' => cx (c, s) = pair0 n q ∧ w.heap.size ≤ w'.heap.size ∧ Ch No w w') ?_ ?_)
  ·
   refine VC.seq (VC.region (VO.mv (Rn.move rfl) rfl rfl rfl ?_))
   refine VO.mv (Rn.mul rfl rfl (by rw [IntKind.wrap_i64]; omega)) rfl rfl rfl ?_
   refine VO.mv (Rn.move rfl) rfl rfl rfl (VO.mv (Rn.leq rfl rfl) rfl rfl rfl (VO.nil (VQ.then_code (VC.cond_if rfl (fun hc3 => ?_) (fun hc3 => ?_)))))
   ·
    refine VC.region (VO.mv (Rn.move rfl) rfl rfl rfl (VO.mv (Rn.move rfl) rfl rfl rfl ?_))
    refine VO.mv (Rn.mul rfl rfl (by rw [IntKind.wrap_i64]; omega)) rfl rfl rfl ?_
    refine VO.wk (Wk.call Tryz.call33 rfl (roots_eighth _ _ (by omega) _)) rfl rfl rfl ?_
    rintro _ w1 ⟨a1, b1, rfl, F1, c1⟩
    have z1 := c1.size
    refine VO.mv (Rn.move rfl) rfl rfl rfl (VO.mv (Rn.extract rfl rfl) rfl rfl rfl (VO.mv (Rn.extract rfl rfl) rfl rfl rfl (VO.mv (Rn.assign rfl) rfl rfl rfl (VO.mv (Rn.assign rfl) rfl rfl rfl (VO.nil (VQ.cut (_, _) ?_ ⟨rfl, rfl, rfl, rfl, trivial⟩))))))
    have CH_1 := (Ch.refl (No) w).and c1
    exact ⟨(by rw [hr] at F1 hc3; rw [pair0, if_pos (by omega)]; exact F1), by omega, CH_1⟩
   ·
    refine VC.region (VO.mv (Rn.move rfl) rfl rfl rfl (VO.mv (Rn.move rfl) rfl rfl rfl ?_))
    refine VO.mv (Rn.sub rfl rfl (by rw [IntKind.wrap_i64]; omega)) rfl rfl rfl ?_
    refine VO.mv (Rn.move rfl) rfl rfl rfl ?_
    refine VO.mv (Rn.mul rfl rfl (by rw [IntKind.wrap_i64]; omega)) rfl rfl rfl ?_
    refine VO.wk (Wk.call Tryz.call33 rfl (roots_eighth _ _ (by omega) _)) rfl rfl rfl ?_
    rintro _ w2 ⟨a2, b2, rfl, F2, c2⟩
    have z2 := c2.size
    refine VO.mv (Rn.move rfl) rfl rfl rfl (VO.mv (Rn.extract rfl rfl) rfl rfl rfl (VO.mv (Rn.extract rfl rfl) rfl rfl rfl (VO.mv (Rn.assign rfl) rfl rfl rfl (VO.mv (Rn.assign rfl) rfl rfl rfl (VO.nil (VQ.cut (_, _) ?_ ⟨rfl, rfl, rfl, rfl, trivial⟩))))))
    have CH_2 := (Ch.refl (No) w).and c2
    exact ⟨(by rw [hr] at F2 hc3; rw [pair0, if_neg (by omega)]; exact congrArg (fun z : Cx => (z.2, z.1)) F2), by omega, CH_2⟩
  rintro ⟨c, s⟩ w3 ⟨hcs, hszc, CH_3⟩
  show VC _ _ _ _ [(0, .int .i64 n), (7, .int .i64 (4 * (q : Int))), (9, .float .f64 c), (10, .float .f64 s)] _
  refine VC.seq (VC.seq (VC.region (VO.mv (Rn.move rfl) rfl rfl rfl (VO.mv (Rn.move rfl) rfl rfl rfl (VO.mv (Rn.quo0 rfl rfl (by omega) (by omega) (by omega)) rfl rfl rfl (VO.mv (Rn.move rfl) rfl rfl rfl (VO.nil ?_)))))))
  refine VQ.then_code (VC.block (VC.loopS (σ := Nat × Nat × Nat) (fun (j, c, s) => [(9, .float .f64 c), (10, .float .f64 s), (47, .int .i64 (4 * (q : Int) / (n : Int))), (48, .int .i64 j)]) (fun (j, c, s) w' => j ≤ 4 * q / n ∧ cx (c, s) = turF (pair0 n q) j ∧ w3.heap.size ≤ w'.heap.size ∧ Ch (No) w w') (fun (j, c, s) => 4 * q / n - j) (0, c, s) ?_ ⟨rfl, rfl, rfl, rfl, trivial⟩ ?_))
  · exact ⟨(Nat.zero_le _), (by rw [hcs]; rfl), (Nat.le_refl _), CH_3⟩
  rintro ⟨j, c, s⟩ w4 ⟨hj, ht, hsz4, CH_4⟩
  show VC _ _ _ _ [(9, .float .f64 c), (10, .float .f64 s), (47, .int .i64 (4 * (q : Int) / (n : Int))), (48, .int .i64 j)] _
  refine VC.seq (VC.region (VO.mv (Rn.lss rfl rfl) rfl rfl rfl (VO.nil (VQ.then_code (VC.seq (VC.cond_if rfl (fun hc4 => ?_) (fun hc4 => ?_)))))))
  ·
   refine VC.skip (VQ.then_code (VC.seq (VC.block (VC.region (VO.mv (Rn.move rfl) rfl rfl rfl (VO.mv (Rn.fneg rfl) rfl rfl rfl (VO.mv (Rn.move rfl) rfl rfl rfl ?_)))))))
   refine VO.mv (Rn.assign rfl) rfl rfl rfl (VO.mv (Rn.assign rfl) rfl rfl rfl (VO.nil (VQ.block_normal (VQ.then_code (VC.region ?_)))))
   refine VO.mv (Rn.add rfl rfl (by rw [IntKind.wrap_i64]; omega)) rfl rfl rfl ?_
   refine VO.mv (Rn.move rfl) rfl rfl rfl (VO.nil ?_)
   refine VQ.round (j + 1, _, _) (by first | omega | (dsimp only; omega)) ?_ ⟨rfl, rfl, rfl, rfl, trivial⟩
   exact ⟨(by omega), (by rw [turF, ← ht]; show (cn _, cn _) = _; rw [cn_neg]; rfl), (by omega), CH_4⟩
  ·
   refine VC.exit (VQ.then_exit (VQ.then_exit (VQ.block_exit (VQ.then_code (VC.seq (VC.region (VO.mv (Rn.move rfl) rfl rfl rfl ?_)))))))
   refine VO.wk (Wk.call Tryz.call34 rfl (roots_plus _ _)) rfl rfl rfl ?_
   rintro _ _ ⟨rfl, rfl⟩
   refine VO.mv (Rn.move rfl) rfl rfl rfl (VO.wk (Wk.call Tryz.call34 rfl (roots_plus _ _)) rfl rfl rfl ?_)
   rintro _ _ ⟨rfl, rfl⟩
   refine VO.mv (Rn.assign rfl) rfl rfl rfl (VO.mv (Rn.assign rfl) rfl rfl rfl (VO.mv (Rn.assign rfl) rfl rfl rfl (VO.nil (VQ.then_code (VC.ret (VQ.ret3 rfl rfl rfl rfl (Ret.mk ?_)))))))
   have e : j = 4 * q / n := by omega
   subst e
   exact ⟨_, _, rfl, (by show (cn _, cn _) = _; rw [cn_pz, cn_pz, pairF, ← ht]; rfl), CH_4⟩
set_option maxRecDepth 100000 in
theorem roots_RootG (n : Nat) (a : Int) (q : Nat) (hn : 1 ≤ n) (hn2 : n ≤ 4194304) (ha : -1000000000000 ≤ a ∧ a ≤ 1000000000000) (hq : a % (n : Int) = (q : Int)) (w : World) :
  Calls Tryz.prog 30 #[.int .i64 n, .int .i64 a] w (Ret (fun v w' => ∃ x y, v = .tuple #[.complex .f64 x y, .nilIface] ∧ cx (x, y) = rootF n q ∧ Ch No w w')) := by
 refine calls_of_VC (args := [.int .i64 n, .int .i64 a]) Tryz.func30 rfl Tryz.ntmps30 rfl (VC.seq (VC.region (VO.mv (Rn.assign rfl) rfl rfl rfl (VO.mv (Rn.assign rfl) rfl rfl rfl (VO.nil (VQ.then_code (VC.seq ?_)))))))
 refine VC.region (VO.mv (Rn.move rfl) rfl rfl rfl (VO.mv (Rn.move rfl) rfl rfl rfl (VO.wk (Wk.call Tryz.call24 rfl (roots_pairG _ _ q (by omega) (by omega) (by omega) hq _)) rfl rfl rfl ?_)))
 rintro _ w1 ⟨x1, y1, rfl, F1, c1⟩
 have z1 := c1.size
 refine VO.mv (Rn.move rfl) rfl rfl rfl (VO.mv (Rn.extract rfl rfl) rfl rfl rfl (VO.mv (Rn.extract rfl rfl) rfl rfl rfl (VO.mv (Rn.extract rfl rfl) rfl rfl rfl (VO.mv (Rn.assign rfl) rfl rfl rfl (VO.mv (Rn.assign rfl) rfl rfl rfl (VO.mv (Rn.assign rfl) rfl rfl rfl (VO.nil ?_)))))))
 refine VQ.then_code (VC.seq (VC.seq (VC.region (VO.mv (Rn.move rfl) rfl rfl rfl (VO.mv (Rn.nil_neq_nil Tryz.underlying29 rfl) rfl rfl rfl (VO.nil (VQ.then_code ?_)))))))
 refine VC.cond_false rfl (VC.skip (VQ.then_code (VC.seq (VC.region (VO.mv (Rn.move rfl) rfl rfl rfl (VO.mv (Rn.move rfl) rfl rfl rfl (VO.mv (Rn.fneg rfl) rfl rfl rfl ?_)))))))
 refine VO.wk (Wk.call Tryz.call34 rfl (roots_plus _ _)) rfl rfl rfl ?_
 rintro _ _ ⟨rfl, rfl⟩
 refine VO.mv (Rn.complex rfl rfl) rfl rfl rfl (VO.mv (Rn.assign rfl) rfl rfl rfl (VO.mv (Rn.assign rfl) rfl rfl rfl (VO.nil (VQ.then_code (VC.ret (VQ.ret2 rfl rfl rfl (Ret.mk ?_)))))))
 have CH_1 := (Ch.refl (No) w).and c1
 exact ⟨_, _, rfl, (by show (cn _, cn _) = _; rw [cn_pz, cn_neg, rootF, ← F1]; rfl), CH_1⟩
set_option maxRecDepth 100000 in
theorem roots_Twist (u v : Nat) (n : Nat) (a : Int) (q : Nat) (hn : 1 ≤ n) (hn2 : n ≤ 4194304) (ha : -1000000000000 ≤ a ∧ a ≤ 1000000000000) (hq : a % (n : Int) = (q : Int)) (w : World) :
  Calls Tryz.prog 22 #[.complex .f64 u v, .int .i64 n, .int .i64 a] w (Ret (fun v_ w' => ∃ x y, v_ = .tuple #[.complex .f64 x y, .nilIface] ∧ cx (x, y) = twistF (cx (u, v)) n q ∧ Ch No w w')) := by
 refine calls_of_VC (args := [.complex .f64 u v, .int .i64 n, .int .i64 a]) Tryz.func22 rfl Tryz.ntmps22 rfl (VC.seq (VC.region (VO.mv (Rn.assign rfl) rfl rfl rfl (VO.mv (Rn.assign rfl) rfl rfl rfl (VO.nil (VQ.then_code (VC.seq ?_)))))))
 refine VC.region (VO.mv (Rn.move rfl) rfl rfl rfl (VO.mv (Rn.move rfl) rfl rfl rfl (VO.wk (Wk.call Tryz.call30 rfl (roots_RootG _ _ q (by omega) (by omega) (by omega) hq _)) rfl rfl rfl ?_)))
 rintro _ w1 ⟨x1, y1, rfl, F1, c1⟩
 have z1 := c1.size
 refine VO.mv (Rn.move rfl) rfl rfl rfl (VO.mv (Rn.extract rfl rfl) rfl rfl rfl (VO.mv (Rn.extract rfl rfl) rfl rfl rfl (VO.mv (Rn.assign rfl) rfl rfl rfl (VO.mv (Rn.assign rfl) rfl rfl rfl (VO.nil (VQ.then_code (VC.seq ?_)))))))
 refine VC.seq (VC.region (VO.mv (Rn.move rfl) rfl rfl rfl (VO.mv (Rn.nil_neq_nil Tryz.underlying29 rfl) rfl rfl rfl (VO.nil (VQ.then_code (VC.cond_false rfl (VC.skip ?_)))))))
 refine VQ.then_code (VC.seq (VC.seq (VC.region (VO.mv (Rn.move rfl) rfl rfl rfl (VO.mv (Rn.move rfl) rfl rfl rfl (VO.wk (Wk.call Tryz.call31 rfl (roots_modI _ _ q (by omega) (by omega) (by omega) hq _)) rfl rfl rfl ?_))))))
 rintro _ _ ⟨rfl, rfl⟩
 refine VO.mv (Rn.eql rfl rfl) rfl rfl rfl (VO.nil (VQ.then_code (VC.cond_if rfl (fun hc1 => ?_) (fun hc1 => ?_))))
 ·
  refine VC.seq (VC.region (VO.mv (Rn.move rfl) rfl rfl rfl (VO.mv (Rn.assign rfl) rfl rfl rfl (VO.mv (Rn.assign rfl) rfl rfl rfl (VO.nil (VQ.then_code (VC.ret ?_)))))))
  refine VQ.then_ret (VQ.ret2 rfl rfl rfl (Ret.mk ?_))
  have CH_1 := (Ch.refl (No) w).and c1
  exact ⟨_, _, rfl, (by rw [twistF, if_pos (by omega)]), CH_1⟩
 ·
  refine VC.skip (VQ.then_code (VC.seq (VC.region (VO.mv (Rn.move rfl) rfl rfl rfl (VO.mv (Rn.move rfl) rfl rfl rfl (VO.wk (Wk.call Tryz.call32 rfl (cplx_Mul _ _ _ _ _)) rfl rfl rfl ?_))))))
  rintro _ w2 ⟨p2, q2, rfl, F2, c2⟩
  have z2 := c2.size
  refine VO.mv (Rn.assign rfl) rfl rfl rfl (VO.mv (Rn.assign rfl) rfl rfl rfl (VO.nil (VQ.then_code (VC.ret (VQ.ret2 rfl rfl rfl (Ret.mk ?_))))))
  have CH_2 := (Ch.refl (No) w).and (c1.trans c2)
  exact ⟨_, _, rfl, (by rw [twistF, if_neg (by omega), F2, F1]), CH_2⟩
end Go.Tm
namespace Go.Tm
open Ieee
def wd (s : Bool) (c : Nat) : Nat := (if s then 2 ^ 63 else 0) + (if c = 0 then 0 else (1022 + c.log2) * 2 ^ 52 + c * 2 ^ (52 - c.log2))
theorem log2_bd {c : Nat} (h0 : c ≠ 0) (h : c < 2 ^ 53) : c.log2 ≤ 52 ∧ 2 ^ 52 ≤ c * 2 ^ (52 - c.log2) ∧ c * 2 ^ (52 - c.log2) < 2 ^ 53 := by
  have h1 : 2 ^ c.log2 ≤ c := Nat.log2_self_le h0
  have h2 : c < 2 ^ (c.log2 + 1) := Nat.lt_log2_self
  have h3 : c.log2 ≤ 52 := by
    have : c.log2 < 53 := (Nat.log2_lt h0).2 h
    omega
  refine ⟨h3, ?_, ?_⟩
  · have := Nat.mul_le_mul_right (2 ^ (52 - c.log2)) h1
    rw [← Nat.pow_add, show c.log2 + (52 - c.log2) = 52 by omega] at this
    exact this
  · have := Nat.mul_lt_mul_of_pos_right h2 (Nat.two_pow_pos (52 - c.log2))
    rw [← Nat.pow_add, show c.log2 + 1 + (52 - c.log2) = 53 by omega] at this
    exact this
theorem read_wd (s : Bool) {c : Nat} (h : c < 2 ^ 53) : ∃ k : Nat, double.read (wd s c) = .number s (c * 2 ^ k) (-(k : Int)) ∧ (c ≠ 0 → k + c.log2 = 52) ∧ k ≤ 1074 := by
  by_cases h0 : c = 0
  · subst h0
    refine ⟨1074, ?_, fun h => absurd rfl h, by omega⟩
    generalize (2 : Nat) ^ 1074 = X
    rw [Nat.zero_mul]
    cases s <;> decide
  · obtain ⟨h1, h2, h3⟩ := log2_bd h0 h
    refine ⟨52 - c.log2, ?_, fun _ => by omega, by omega⟩
    have e1 : double.signWeight = 2 ^ 63 := rfl
    have e2 : double.binade = 2 ^ 52 := rfl
    have e3 : double.infRung = (2 ^ 11 - 1) * 2 ^ 52 := rfl
    have e4 : double.leastPlace = -1074 := rfl
    unfold wd
    rw [if_neg h0]
    generalize c * 2 ^ (52 - c.log2) = K at *
    generalize c.log2 = L at *
    unfold Format.read
    simp only [e1, e2, e3, e4]
    have r1 : ((if s = true then 2 ^ 63 else 0) + ((1022 + L) * 2 ^ 52 + K)) % 2 ^ 63 = (1022 + L) * 2 ^ 52 + K := by split <;> omega
    have r2 : (((if s = true then 2 ^ 63 else 0) + ((1022 + L) * 2 ^ 52 + K)) / 2 ^ 63 % 2 == 1) = s := by cases s <;> simp <;> omega
    rw [r1, r2, if_neg (by omega), if_pos (by omega)]
    have r3 : ((1022 + L) * 2 ^ 52 + K) % 2 ^ 52 = K - 2 ^ 52 := by omega
    have r4 : ((1022 + L) * 2 ^ 52 + K) / 2 ^ 52 = 1023 + L := by omega
    have r5 : 2 ^ 52 + (K - 2 ^ 52) = K := by omega
    have r6 : (-1074 : Int) + ((1023 + L - 1 : Nat) : Int) = -((52 - L : Nat) : Int) := by omega
    rw [r3, r4, r5, r6]
theorem cut_whole (s : Bool) {A d n : Nat} (hn : n = A * 2 ^ d) (hd : d ≤ n.log2 + 2) : Toward.even.cut s n d = A := by
  have h2 := Nat.two_pow_pos d
  have e1 : n / 2 ^ d = A := by rw [hn]; exact Nat.mul_div_cancel _ h2
  have e2 : n % 2 ^ d = 0 := by rw [hn]; exact Nat.mul_mod_left _ _
  unfold Toward.cut
  rw [Nat.min_eq_left hd, Nat.one_shiftLeft]
  simp only [e1, e2]
  have : ¬ (2 ^ d < 0) ∧ ¬ (2 ^ d = 0) := by omega
  simp
theorem log2_mul_pow (c k : Nat) (h : c ≠ 0) : (c * 2 ^ k).log2 = c.log2 + k := by
  have h1 : 2 ^ c.log2 ≤ c := Nat.log2_self_le h
  have h2 : c < 2 ^ (c.log2 + 1) := Nat.lt_log2_self
  have h3 : c * 2 ^ k ≠ 0 := by have := Nat.two_pow_pos k; exact Nat.mul_ne_zero h (by omega)
  have a1 := Nat.mul_le_mul_right (2 ^ k) h1
  have a2 := Nat.mul_lt_mul_of_pos_right h2 (Nat.two_pow_pos k)
  rw [← Nat.pow_add] at a1 a2
  have b1 : c.log2 + k ≤ (c * 2 ^ k).log2 := (Nat.le_log2 h3).2 a1
  have b2 : (c * 2 ^ k).log2 < c.log2 + 1 + k := (Nat.log2_lt h3).2 a2
  omega
theorem nearest_wd (s : Bool) {c M k : Nat} (h : c < 2 ^ 53) (hM : M = c * 2 ^ k) : double.nearest s M (-(k : Int)) = wd s c := by
  have e1 : double.signWeight = 2 ^ 63 := rfl
  by_cases h0 : c = 0
  · subst h0
    rw [Nat.zero_mul] at hM; subst hM
    simp [Format.nearest, wd, Format.word, e1]
  · obtain ⟨h1, h2, h3⟩ := log2_bd h0 h
    have hM0 : M ≠ 0 := by rw [hM]; have := Nat.two_pow_pos k; exact Nat.mul_ne_zero h0 (by omega)
    have hL : M.log2 = c.log2 + k := by rw [hM]; exact log2_mul_pow c k h0
    have e2 : double.fractionBits = 52 := rfl
    have e3 : double.infRung = (2 ^ 11 - 1) * 2 ^ 52 := rfl
    have e4 : double.leastPlace = -1074 := rfl
    have e5 : double.binade = 2 ^ 52 := rfl
    unfold Format.nearest
    rw [if_neg hM0, hL, e2, e3, e4, e5]
    have hl : max (-(k : Int) + ((c.log2 + k : Nat) : Int) - ((52 : Nat) : Int)) (-1074) = (c.log2 : Int) - 52 := by omega
    rw [hl]
    have hcut : Toward.even.cut s (M <<< (-(k : Int) - ((c.log2 : Int) - 52)).toNat) ((c.log2 : Int) - 52 - -(k : Int)).toNat = c * 2 ^ (52 - c.log2) := by
      by_cases hk : 52 - c.log2 ≤ k
      · rw [show (-(k : Int) - ((c.log2 : Int) - 52)).toNat = 0 by omega, show ((c.log2 : Int) - 52 - -(k : Int)).toNat = k - (52 - c.log2) by omega, Nat.shiftLeft_zero]
        refine cut_whole s ?_ (by omega)
        rw [hM, Nat.mul_assoc, ← Nat.pow_add, show 52 - c.log2 + (k - (52 - c.log2)) = k by omega]
      · rw [show ((c.log2 : Int) - 52 - -(k : Int)).toNat = 0 by omega, show (-(k : Int) - ((c.log2 : Int) - 52)).toNat = 52 - c.log2 - k by omega]
        refine cut_whole s ?_ (by omega)
        rw [hM, Nat.shiftLeft_eq, Nat.mul_assoc, ← Nat.pow_add, show k + (52 - c.log2 - k) = 52 - c.log2 by omega, Nat.pow_zero, Nat.mul_one]
    show double.word s (min (((c.log2 : Int) - 52 - -1074).toNat * 2 ^ 52 + Toward.even.cut s (M <<< (-(k : Int) - ((c.log2 : Int) - 52)).toNat) ((c.log2 : Int) - 52 - -(k : Int)).toNat) ((2 ^ 11 - 1) * 2 ^ 52)) = _
    rw [hcut]
    unfold wd
    rw [if_neg h0]
    simp only [Format.word, e1]
    generalize c * 2 ^ (52 - c.log2) = K at *
    generalize c.log2 = L at *
    rw [show ((L : Int) - 52 - -1074).toNat = 1022 + L by omega, Nat.min_eq_left (show (1022 + L) * 2 ^ 52 + K ≤ (2 ^ 11 - 1) * 2 ^ 52 by omega)]
    cases s <;> simp
def DW (d : Datum) (a : Int) : Prop := ∃ (s : Bool) (k : Nat), d = .number s (a.natAbs * 2 ^ k) (-(k : Int)) ∧ (a ≠ 0 → s = decide (a < 0)) ∧ k ≤ 1074 ∧ (a ≠ 0 → k + a.natAbs.log2 = 52)
def Wh (x : Fl) (a : Int) : Prop := ∃ s : Bool, x = some (wd s a.natAbs) ∧ (a ≠ 0 → s = decide (a < 0))
def Sm (a : Int) : Prop := a.natAbs < 2 ^ 53
theorem Wh.dw {x : Fl} {a : Int} (h : Wh x a) (ha : Sm a) : ∃ b, x = some b ∧ DW (double.read b) a := by
  obtain ⟨s, rfl, hs⟩ := h
  obtain ⟨k, e, h1, h2⟩ := read_wd s ha
  exact ⟨_, rfl, s, k, e, hs, h2, fun h => h1 (by omega)⟩
theorem signed_val {s : Bool} {a : Int} (hs : a ≠ 0 → s = decide (a < 0)) (k u : Nat) : signed s (a.natAbs * 2 ^ k) u = a * 2 ^ (k + u) := by
  have e : ((a.natAbs * 2 ^ k * 2 ^ u : Nat) : Int) = (a.natAbs : Int) * 2 ^ (k + u) := by
    rw [Nat.mul_assoc, ← Nat.pow_add]; push_cast; rfl
  unfold signed
  rw [Nat.shiftLeft_eq, e]
  by_cases h : a = 0
  · subst h; simp
  · have := hs h
    subst this
    by_cases h2 : a < 0
    · rw [if_pos (by simpa using h2), show (a.natAbs : Int) = -a by omega, Int.neg_mul, Int.neg_neg]
    · rw [if_neg (by simpa using h2), show (a.natAbs : Int) = a by omega]
theorem natAbs_pow (a : Int) (k : Nat) : (a * 2 ^ k).natAbs = a.natAbs * 2 ^ k := by
  rw [Int.natAbs_mul, Int.natAbs_pow]; rfl
theorem two_pow_posI (k : Nat) : (0 : Int) < 2 ^ k := by have := Nat.two_pow_pos k; exact_mod_cast this
theorem mulp_neg {a : Int} (k : Nat) : (a * 2 ^ k < 0) ↔ a < 0 := by
  have := two_pow_posI k
  constructor
  · intro h
    by_cases h2 : a < 0
    · exact h2
    · have := Int.mul_nonneg (show 0 ≤ a by omega) (show (0 : Int) ≤ 2 ^ k by omega)
      omega
  · intro h; exact Int.mul_neg_of_neg_of_pos h this
theorem mulp_zero {a : Int} (k : Nat) : (a * 2 ^ k = 0) ↔ a = 0 := by
  have := two_pow_posI k
  rw [Int.mul_eq_zero]
  omega
theorem sum_wh {x y : Datum} {a b : Int} (hx : DW x a) (hy : DW y b) (hc : Sm (a + b)) : ∃ d, x.sum y = some d ∧ Wh (some (double.write d)) (a + b) := by
  obtain ⟨s, k, rfl, hs, -, -⟩ := hx
  obtain ⟨t, l, rfl, ht, -, -⟩ := hy
  refine ⟨_, rfl, ?_⟩
  have main : ∀ K : Nat, min (-(k : Int)) (-(l : Int)) = -(K : Int) → k ≤ K → l ≤ K → Wh (some (double.write (.number (if signed s (a.natAbs * 2 ^ k) (-(k : Int) - min (-(k : Int)) (-(l : Int))).toNat + signed t (b.natAbs * 2 ^ l) (-(l : Int) - min (-(k : Int)) (-(l : Int))).toNat = 0 then s && t else decide (signed s (a.natAbs * 2 ^ k) (-(k : Int) - min (-(k : Int)) (-(l : Int))).toNat + signed t (b.natAbs * 2 ^ l) (-(l : Int) - min (-(k : Int)) (-(l : Int))).toNat < 0)) (signed s (a.natAbs * 2 ^ k) (-(k : Int) - min (-(k : Int)) (-(l : Int))).toNat + signed t (b.natAbs * 2 ^ l) (-(l : Int) - min (-(k : Int)) (-(l : Int))).toNat).natAbs (min (-(k : Int)) (-(l : Int)))))) (a + b) := by
    intro K h1 h2 h3
    rw [h1, show (-(k : Int) - -(K : Int)).toNat = K - k by omega, show (-(l : Int) - -(K : Int)).toNat = K - l by omega, signed_val hs, signed_val ht, show k + (K - k) = K by omega, show l + (K - l) = K by omega, ← Int.add_mul]
    simp only [mulp_neg, mulp_zero, natAbs_pow]
    refine ⟨if a + b = 0 then s && t else decide (a + b < 0), ?_, fun h => if_neg h⟩
    show some (double.nearest _ _ _) = _
    rw [nearest_wd _ hc rfl]
  exact main (max k l) (by omega) (by omega) (by omega)
theorem DW.opposite {x : Datum} {a : Int} (h : DW x a) : DW x.opposite (-a) := by
  obtain ⟨s, k, rfl, hs, hk, hl⟩ := h
  refine ⟨!s, k, by simp [Datum.opposite], fun h => ?_, hk, fun h => by rw [Int.natAbs_neg]; exact hl (by omega)⟩
  rw [hs (by omega)]
  by_cases h2 : a < 0
  · rw [decide_eq_true h2, decide_eq_false (by omega)]; rfl
  · rw [decide_eq_false h2, decide_eq_true (by omega)]; rfl
theorem Wh.add {x y : Fl} {a b : Int} (hx : Wh x a) (hy : Wh y b) (ha : Sm a) (hb : Sm b) (hc : Sm (a + b)) : Wh (fadd x y) (a + b) := by
  obtain ⟨u, rfl, hu⟩ := hx.dw ha
  obtain ⟨v, rfl, hv⟩ := hy.dw hb
  obtain ⟨d, e, hd⟩ := sum_wh hu hv hc
  show Wh (((double.read u).sum (double.read v)).map double.write) _
  rw [e]; exact hd
theorem Wh.sub {x y : Fl} {a b : Int} (hx : Wh x a) (hy : Wh y b) (ha : Sm a) (hb : Sm b) (hc : Sm (a - b)) : Wh (fsub x y) (a - b) := by
  obtain ⟨u, rfl, hu⟩ := hx.dw ha
  obtain ⟨v, rfl, hv⟩ := hy.dw hb
  obtain ⟨d, e, hd⟩ := sum_wh hu hv.opposite (by rw [← Int.sub_eq_add_neg]; exact hc)
  show Wh (((double.read u).sum (double.read v).opposite).map double.write) _
  rw [e, Int.sub_eq_add_neg]; exact hd
theorem Wh.mul {x y : Fl} {a b : Int} (hx : Wh x a) (hy : Wh y b) (ha : Sm a) (hb : Sm b) (hc : Sm (a * b)) : Wh (fmul x y) (a * b) := by
  obtain ⟨u, rfl, hu⟩ := hx.dw ha
  obtain ⟨v, rfl, hv⟩ := hy.dw hb
  obtain ⟨s, k, e, hs, -, -⟩ := hu
  obtain ⟨t, l, e', ht, -, -⟩ := hv
  show Wh (((double.read u).product (double.read v)).map double.write) _
  rw [e, e']
  refine ⟨s ^^ t, ?_, fun h => ?_⟩
  · show some (double.nearest (s ^^ t) (a.natAbs * 2 ^ k * (b.natAbs * 2 ^ l)) (-(k : Int) + -(l : Int))) = _
    rw [show (-(k : Int) + -(l : Int)) = -((k + l : Nat) : Int) by omega, nearest_wd (c := (a * b).natAbs) _ hc]
    rw [Int.natAbs_mul, Nat.pow_add]
    ac_rfl
  · have h1 : a ≠ 0 := fun h' => h (by rw [h', Int.zero_mul])
    have h2 : b ≠ 0 := fun h' => h (by rw [h', Int.mul_zero])
    rw [hs h1, ht h2]
    by_cases p : a < 0 <;> by_cases q : b < 0
    · have := Int.mul_pos_of_neg_of_neg p q
      simp [p, q]; omega
    · have := Int.mul_neg_of_neg_of_pos p (show 0 < b by omega)
      simp [p, q]; omega
    · have := Int.mul_neg_of_pos_of_neg (show 0 < a by omega) q
      simp [p, q]; omega
    · have := Int.mul_pos (show 0 < a by omega) (show 0 < b by omega)
      simp [p, q]; omega
theorem Wh.quo {x y : Fl} {a b q : Int} (hx : Wh x a) (hy : Wh y b) (ha : Sm a) (hb : Sm b) (hb0 : 0 < b) (hq : a = q * b) (hc : Sm q) : Wh (fquo x y) q := by
  obtain ⟨u, rfl, hu⟩ := hx.dw ha
  obtain ⟨v, rfl, hv⟩ := hy.dw hb
  obtain ⟨s, k, e, hs, hk, hl⟩ := hu
  obtain ⟨t, l, e', ht, hk', hl'⟩ := hv
  have ht' : t = false := by rw [ht (by omega)]; simp; omega
  subst ht'
  have hbn : b.natAbs ≠ 0 := by omega
  have hb2 : b.natAbs * 2 ^ l ≠ 0 := Nat.mul_ne_zero hbn (by have := Nat.two_pow_pos l; omega)
  have han : a.natAbs = q.natAbs * b.natAbs := by rw [hq, Int.natAbs_mul]
  show Wh (((double.read u).quotient (double.fractionBits + 2) (double.read v)).map double.write) _
  rw [e, e']
  have e2 : double.fractionBits + 2 = 54 := rfl
  rw [e2]
  show Wh (Option.map double.write (if b.natAbs * 2 ^ l = 0 then (if a.natAbs * 2 ^ k = 0 then none else some (.infinity (s ^^ false))) else some (.number (s ^^ false) (2 * ((a.natAbs * 2 ^ k) <<< (54 + (b.natAbs * 2 ^ l).log2 - (a.natAbs * 2 ^ k).log2) / (b.natAbs * 2 ^ l)) + ((a.natAbs * 2 ^ k) <<< (54 + (b.natAbs * 2 ^ l).log2 - (a.natAbs * 2 ^ k).log2) % (b.natAbs * 2 ^ l) != 0).toNat) (-(k : Int) - -(l : Int) - ((54 + (b.natAbs * 2 ^ l).log2 - (a.natAbs * 2 ^ k).log2 : Nat) : Int) - 1)))) q
  rw [if_neg hb2]
  simp only [Option.map_some, Bool.xor_false]
  refine ⟨s, ?_, fun h => ?_⟩
  · have hlb := hl' (by omega)
    have hlog : (b.natAbs * 2 ^ l).log2 = 52 := by rw [log2_mul_pow _ _ hbn]; omega
    rw [hlog]
    obtain ⟨more, hm⟩ : ∃ m, 54 + 52 - (a.natAbs * 2 ^ k).log2 = m := ⟨_, rfl⟩
    rw [hm]
    have hge : l ≤ k + more := by
      by_cases h0 : a = 0
      · subst h0; simp at hm; omega
      · have hla := hl h0
        have : (a.natAbs * 2 ^ k).log2 = 52 := by rw [log2_mul_pow _ _ (by omega)]; omega
        omega
    have hdiv : a.natAbs * 2 ^ k * 2 ^ more = q.natAbs * 2 ^ (k + more - l) * (b.natAbs * 2 ^ l) := by
      rw [han, Nat.mul_assoc (q.natAbs * b.natAbs), ← Nat.pow_add, show q.natAbs * 2 ^ (k + more - l) * (b.natAbs * 2 ^ l) = q.natAbs * b.natAbs * (2 ^ (k + more - l) * 2 ^ l) by ac_rfl, ← Nat.pow_add, show k + more - l + l = k + more by omega]
    have hpos : 0 < b.natAbs * 2 ^ l := by omega
    rw [Nat.shiftLeft_eq, hdiv, Nat.mul_div_cancel _ hpos, Nat.mul_mod_left]
    show some (double.nearest s (2 * (q.natAbs * 2 ^ (k + more - l)) + 0) (-(k : Int) - -(l : Int) - (more : Int) - 1)) = _
    rw [show (-(k : Int) - -(l : Int) - (more : Int) - 1) = -((k + more - l + 1 : Nat) : Int) by omega, nearest_wd (c := q.natAbs) _ hc]
    rw [Nat.pow_succ, Nat.add_zero]; ac_rfl
  · have h0 : a ≠ 0 := by rw [hq]; exact Int.mul_ne_zero h (by omega)
    rw [hs h0, hq]
    by_cases p : q < 0
    · have := Int.mul_neg_of_neg_of_pos p hb0; simp [p, this]
    · have := Int.mul_pos (show 0 < q by omega) hb0; simp [p]; omega
theorem wd_xor (s : Bool) {c : Nat} (h : c < 2 ^ 53) : wd s c ^^^ 2 ^ 63 = wd (!s) c := by
  have key : ∀ x, x < 2 ^ 63 → x ^^^ 2 ^ 63 = 2 ^ 63 + x := by
    intro x hx
    apply Nat.eq_of_testBit_eq
    intro i
    rw [Nat.testBit_xor, Nat.testBit_two_pow]
    by_cases hi : 63 = i
    · subst hi
      rw [Nat.testBit_two_pow_add_eq, Nat.testBit_lt_two_pow hx]; simp
    · by_cases hl : i < 63
      · rw [Nat.testBit_two_pow_add_gt hl]; simp [hi]
      · have h1 : x.testBit i = false := Nat.testBit_lt_two_pow (Nat.lt_of_lt_of_le hx (Nat.pow_le_pow_right (by omega) (by omega)))
        have h2 : (2 ^ 63 + x).testBit i = false := Nat.testBit_lt_two_pow (Nat.lt_of_lt_of_le (show 2 ^ 63 + x < 2 ^ 64 by omega) (Nat.pow_le_pow_right (by omega) (by omega)))
        rw [h1, h2]; simp [hi]
  have hlt : wd false c < 2 ^ 63 := by
    unfold wd
    simp only [Bool.false_eq_true, if_false, Nat.zero_add]
    split
    · simp
    · rename_i h0
      obtain ⟨h1, h2, h3⟩ := log2_bd h0 h
      simp; omega
  have e : wd true c = 2 ^ 63 + wd false c := by unfold wd; simp
  cases s
  · rw [key _ hlt]; exact e.symm
  · rw [e, ← key _ hlt, Nat.xor_assoc, Nat.xor_self, Nat.xor_zero]; rfl
theorem Wh.neg {x : Fl} {a : Int} (h : Wh x a) (ha : Sm a) : Wh (fneg x) (-a) := by
  obtain ⟨s, rfl, hs⟩ := h
  refine ⟨!s, ?_, fun h => ?_⟩
  · show some (wd s a.natAbs ^^^ 2 ^ 63) = _
    rw [wd_xor s ha, Int.natAbs_neg]
  · rw [hs (by omega)]
    by_cases h2 : a < 0
    · rw [decide_eq_true h2, decide_eq_false (by omega)]; rfl
    · rw [decide_eq_false h2, decide_eq_true (by omega)]; rfl
theorem Wh.of_int {a : Int} (ha : Sm a) : Wh (some (FloatKind.f64.nearest a)) a := by
  refine ⟨decide (a < 0), ?_, fun _ => rfl⟩
  show some (double.nearest (decide (a < 0)) a.natAbs 0) = _
  rw [show (0 : Int) = -((0 : Nat) : Int) from rfl, nearest_wd (c := a.natAbs) _ ha (by simp)]
theorem Wh.order {u v : Nat} {a b : Int} (hx : Wh (some u) a) (hy : Wh (some v) b) (ha : Sm a) (hb : Sm b) : double.order u v = some (compare a b) := by
  obtain ⟨u', e, hu⟩ := hx.dw ha; cases e
  obtain ⟨v', e, hv⟩ := hy.dw hb; cases e
  obtain ⟨s, k, e, hs, -, -⟩ := hu
  obtain ⟨t, l, e', ht, -, -⟩ := hv
  unfold Format.order
  rw [e, e']
  show some (compare (signed s _ _) (signed t _ _)) = _
  have main : ∀ K : Nat, min (-(k : Int)) (-(l : Int)) = -(K : Int) → k ≤ K → l ≤ K → compare (signed s (a.natAbs * 2 ^ k) (-(k : Int) - min (-(k : Int)) (-(l : Int))).toNat) (signed t (b.natAbs * 2 ^ l) (-(l : Int) - min (-(k : Int)) (-(l : Int))).toNat) = compare a b := by
    intro K h1 h2 h3
    rw [h1, show (-(k : Int) - -(K : Int)).toNat = K - k by omega, show (-(l : Int) - -(K : Int)).toNat = K - l by omega, signed_val hs, signed_val ht, show k + (K - k) = K by omega, show l + (K - l) = K by omega]
    have hp := two_pow_posI K
    rcases Int.lt_trichotomy a b with h | h | h
    · rw [Int.compare_eq_lt.2 h, Int.compare_eq_lt.2 (Int.mul_lt_mul_of_pos_right h hp)]
    · rw [h]; simp
    · rw [Int.compare_eq_gt.2 h, Int.compare_eq_gt.2 (Int.mul_lt_mul_of_pos_right h hp)]
  rw [main (max k l) (by omega) (by omega) (by omega)]
end Go.Tm
namespace Go.Tm
open Ieee
def WhC (z : Cx) (a b : Int) : Prop := Wh z.1 a ∧ Wh z.2 b
def B44 (a : Int) : Prop := -17592186044416 ≤ a ∧ a ≤ 17592186044416
theorem sm_of {a : Int} (h1 : -1000000000000000 ≤ a) (h2 : a ≤ 1000000000000000) : Sm a := by unfold Sm; omega
theorem WhC.less {x y : Cx} {a b c d : Int} (hx : WhC x a b) (hy : WhC y c d) (ha : -100000000000000 ≤ a ∧ a ≤ 100000000000000) (hb : -100000000000000 ≤ b ∧ b ≤ 100000000000000) (hc : -100000000000000 ≤ c ∧ c ≤ 100000000000000) (hd : -100000000000000 ≤ d ∧ d ≤ 100000000000000) : WhC (lessC x y) (a - c) (b - d) :=
  ⟨hx.1.sub hy.1 (sm_of (by omega) (by omega)) (sm_of (by omega) (by omega)) (sm_of (by omega) (by omega)), hx.2.sub hy.2 (sm_of (by omega) (by omega)) (sm_of (by omega) (by omega)) (sm_of (by omega) (by omega))⟩
theorem WhC.minusI {x : Cx} {a b : Int} (hx : WhC x a b) (ha : -100000000000000 ≤ a ∧ a ≤ 100000000000000) : WhC (minusI x) b (-a) := ⟨hx.2, hx.1.neg (sm_of (by omega) (by omega))⟩
theorem WhC.timesI {x : Cx} {a b : Int} (hx : WhC x a b) (hb : -100000000000000 ≤ b ∧ b ≤ 100000000000000) : WhC (timesI x) (-b) a := ⟨hx.2.neg (sm_of (by omega) (by omega)), hx.1⟩
theorem WhC.mul {z w : Cx} {a b c s : Int} (hz : WhC z a b) (hw : WhC w c s) (ha : B44 a) (hb : B44 b) (hc : c = -1 ∨ c = 0 ∨ c = 1) (hs : s = -1 ∨ s = 0 ∨ s = 1) : WhC (mulC z w) (a * c - b * s) (a * s + b * c) := by
  obtain ⟨a1, a2⟩ := ha
  obtain ⟨b1, b2⟩ := hb
  rcases hc with rfl | rfl | rfl <;> rcases hs with rfl | rfl | rfl <;>
    exact ⟨(hz.1.mul hw.1 (sm_of (by omega) (by omega)) (sm_of (by omega) (by omega)) (sm_of (by omega) (by omega))).sub (hz.2.mul hw.2 (sm_of (by omega) (by omega)) (sm_of (by omega) (by omega)) (sm_of (by omega) (by omega))) (sm_of (by omega) (by omega)) (sm_of (by omega) (by omega)) (sm_of (by omega) (by omega)),
      (hz.1.mul hw.2 (sm_of (by omega) (by omega)) (sm_of (by omega) (by omega)) (sm_of (by omega) (by omega))).add (hz.2.mul hw.1 (sm_of (by omega) (by omega)) (sm_of (by omega) (by omega)) (sm_of (by omega) (by omega))) (sm_of (by omega) (by omega)) (sm_of (by omega) (by omega)) (sm_of (by omega) (by omega))⟩
theorem cn_wd (s : Bool) {c : Nat} (h : c < 2 ^ 53) : cn (wd s c) = some (wd s c) := by
  rw [cn_eq, if_neg]
  unfold wd
  by_cases h0 : c = 0
  · subst h0; cases s <;> simp
  · obtain ⟨h1, h2, h3⟩ := log2_bd h0 h
    rw [if_neg h0]
    generalize c * 2 ^ (52 - c.log2) = K at *
    generalize c.log2 = L at *
    cases s <;> simp <;> omega
theorem Wh.cn_int {a : Int} (ha : Sm a) : Wh (fi a) a := by
  obtain ⟨s, e, h⟩ := Wh.of_int ha
  injection e with e
  refine ⟨s, ?_, h⟩
  show cn (FloatKind.f64.nearest a) = _
  rw [e, cn_wd s ha]
theorem WhC.over {z : Cx} {a b n p q : Int} (hz : WhC z a b) (hn : 0 < n ∧ n ≤ 16) (ha : a = p * n) (hb : b = q * n) (h1 : -1000000000000000 ≤ a ∧ a ≤ 1000000000000000) (h2 : -1000000000000000 ≤ b ∧ b ≤ 1000000000000000) (h3 : Sm p) (h4 : Sm q) : WhC (overC z n) p q :=
  have hf := Wh.cn_int (a := n) (sm_of (by omega) (by omega))
  ⟨hz.1.quo hf (sm_of (by omega) (by omega)) (sm_of (by omega) (by omega)) hn.1 ha h3, hz.2.quo hf (sm_of (by omega) (by omega)) (sm_of (by omega) (by omega)) hn.1 hb h4⟩
def uvS (n k j : Nat) (a b : Int) (x : Int × Int) : Int × Int :=
  if 4 * (j * k) / n % 4 = 0 then (x.1 + a, x.2 + b) else if 4 * (j * k) / n % 4 = 1 then (x.1 + b, x.2 - a) else if 4 * (j * k) / n % 4 = 2 then (x.1 - a, x.2 - b) else (x.1 - b, x.2 + a)
def uvL (n k : Nat) (us bs : Nat → Int) : Nat → Int × Int
  | 0 => (0, 0)
  | j + 1 => uvS n k j (us j) (bs j) (uvL n k us bs j)
def rB (q : Nat) : CB := (pzB (tur q).1, pzB (Op.negFloat .f64 (pzB (tur q).2)))
def WhL (zs : List Cx) (n : Nat) (us bs : Nat → Int) : Prop := zs.length = n ∧ ∀ k, k < n → WhC (zs.getD k z0) (us k) (bs k)
def bD (n : Nat) : Bld := ⟨n, 2 * n, 0, n, [⟨6, n, 0, 1, n, n, 0⟩], n, 2 * n⟩
def bF (n : Nat) : Bld := ⟨n, 2 * n, 0, n, [⟨1, n, 0, 1, n, 0, 0⟩, ⟨5, n, 0, 1, 1, n, 0⟩], n + 1, 2 * n⟩
theorem sum_congr {n k : Nat} {X Y : Nat → Cx} : ∀ m, (∀ j, j ≤ m → X j = Y j) → sumC n k X m = sumC n k Y m
  | 0, h => h 0 (Nat.le_refl 0)
  | m + 1, h => by
    rw [sumC, sumC, sum_congr m (fun j hj => h j (by omega)), h (m + 1) (Nat.le_refl _)]
theorem direct_acts {n : Nat} {zs : List Cx} (h : zs.length = n) : ∀ i, i ≤ n → actsC ⟨6, n, 0, 1, n, n, 0⟩ (zs ++ List.replicate n z0) i = zs ++ ((List.range i).map (fun i => directC n i (fun j => zs.getD j z0)) ++ List.replicate (n - i) z0)
  | 0, _ => by simp [actsC]
  | i + 1, hi => by
    rw [actsC, direct_acts h i (by omega)]
    unfold actC
    rw [if_neg (show ¬ (6 : Int) = 1 by decide), if_neg (show ¬ (6 : Int) = 5 by decide), if_pos (show (6 : Int) = 6 from rfl)]
    simp only [Int.toNat_natCast, Int.toNat_zero, Nat.zero_add]
    have e1 : (1 : Int).toNat = 1 := rfl
    have e : directC n i (fun j => (zs ++ ((List.range i).map (fun i => directC n i (fun j => zs.getD j z0)) ++ List.replicate (n - i) z0)).getD (j * (1 : Int).toNat) z0) = directC n i (fun j => zs.getD j z0) := by
      refine sum_congr _ fun j hj => ?_
      rw [e1, Nat.mul_one]
      simp only [List.getD]
      rw [List.getElem?_append_left (by omega)]
    rw [e]
    obtain ⟨m, hm⟩ : ∃ m, n - i = m + 1 := ⟨n - i - 1, by omega⟩
    rw [hm, show n - (i + 1) = m by omega, List.set_append_right _ _ (by omega), List.set_append_right _ _ (by simp; omega), List.range_succ, List.map_append]
    simp [h, List.replicate_succ]
theorem load_zero {n : Nat} {zs : List Cx} (h : zs.length = n) : loadC (2 * n) 0 zs = zs ++ List.replicate n z0 := by
  simp [loadC, h]; omega
theorem fwd_direct {n : Nat} {zs : List Cx} (h : zs.length = n) : fwdC (bD n) zs = (List.range n).map (fun i => directC n i (fun j => zs.getD j z0)) := by
  have e1 : ((2 : Int) * (n : Int)).toNat = 2 * n := by omega
  unfold fwdC
  simp only [bD, e1, Int.toNat_zero, Int.toNat_natCast]
  rw [load_zero h]
  simp only [runC, List.foldl_cons, List.foldl_nil, Int.toNat_natCast]
  rw [direct_acts h n (Nat.le_refl n)]
  simp [h]
  exact List.take_of_length_le (by simp)
inductive Leaf : Nat → Bld → Prop
  | d1 : Leaf 1 (bD 1)
  | d2 : Leaf 2 (bD 2)
  | d4 : Leaf 4 (bD 4)
  | f2 : Leaf 2 (bF 2)
  | f4 : Leaf 4 (bF 4)
theorem Leaf.n {n : Nat} {b : Bld} (h : Leaf n b) : n = 1 ∨ n = 2 ∨ n = 4 := by cases h <;> simp
theorem Leaf.ln {n : Nat} {b : Bld} (h : Leaf n b) : b.ln = n := by cases h <;> rfl
structure LeafOk (n : Nat) (b : Bld) : Prop where
  ok : PrgOk b (2 * n)
  okb : okB b
  ne : 1 ≤ b.steps.length
  ac : 1 ≤ cntS b.steps
  nf : b.full = false
theorem Leaf.ok {n : Nat} {b : Bld} (h : Leaf n b) : LeafOk n b := by
  cases h <;> exact ⟨⟨by decide, by decide, by decide, by decide, by decide, by decide, by decide, by decide⟩, ⟨by decide, by decide, by decide⟩, by decide, by decide, by decide⟩
theorem leaf_of {kd : Int} {n : Nat} (hn : n = 1 ∨ n = 2 ∨ n = 4) (h : kd = 1 ∨ (kd = 2 ∧ 1 < n)) : Leaf n (buildM (.mk kd n [])) ∧ (Ord.mk kd n []).len = n := by
  rcases hn with rfl | rfl | rfl <;> rcases h with rfl | ⟨rfl, h⟩
  · exact ⟨by rw [show buildM (.mk 1 ((1 : Nat) : Int) []) = bD 1 by kernel_rfl]; exact .d1, by kernel_rfl⟩
  · omega
  · exact ⟨by rw [show buildM (.mk 1 ((2 : Nat) : Int) []) = bD 2 by kernel_rfl]; exact .d2, by kernel_rfl⟩
  · exact ⟨by rw [show buildM (.mk 2 ((2 : Nat) : Int) []) = bF 2 by kernel_rfl]; exact .f2, by kernel_rfl⟩
  · exact ⟨by rw [show buildM (.mk 1 ((4 : Nat) : Int) []) = bD 4 by kernel_rfl]; exact .d4, by kernel_rfl⟩
  · exact ⟨by rw [show buildM (.mk 2 ((4 : Nat) : Int) []) = bF 4 by kernel_rfl]; exact .f4, by kernel_rfl⟩
theorem best4 {r : Ord × Int} (h : Best PU 4 r) : r.1 = .mk 2 ((4 : Nat) : Int) [] := by
  have e : (bestF PU 30 4).map (·.1) = some (.mk 2 ((4 : Nat) : Int) []) := by kernel_rfl
  cases hb : bestF PU 30 4 with
  | none => rw [hb] at e; cases e
  | some r' =>
    rw [hb] at e
    rw [h.unique ⟨30, hb⟩]
    exact Option.some.inj e
end Go.Tm
namespace Go.Tm
open Ieee
theorem nearest_num {s : Bool} {c k i : Nat} (hc : c ≠ 0) (hi : (i = 0 ∧ c < 2 ^ 52) ∨ (2 ^ 52 ≤ c ∧ c < 2 ^ 53)) (hf : i * 2 ^ 52 + c ≤ (2 ^ 11 - 1) * 2 ^ 52) :
    double.nearest s (c * 2 ^ k) (-1074 + (i : Int) - (k : Int)) = double.word s (i * 2 ^ 52 + c) := by
  have hM0 : c * 2 ^ k ≠ 0 := by have := Nat.two_pow_pos k; exact Nat.mul_ne_zero hc (by omega)
  have hL : (c * 2 ^ k).log2 = c.log2 + k := log2_mul_pow c k hc
  have hl1 : 2 ^ c.log2 ≤ c := Nat.log2_self_le hc
  have e2 : double.fractionBits = 52 := rfl
  have e3 : double.infRung = (2 ^ 11 - 1) * 2 ^ 52 := rfl
  have e4 : double.leastPlace = -1074 := rfl
  have e5 : double.binade = 2 ^ 52 := rfl
  unfold Format.nearest
  rw [if_neg hM0, hL, e2, e3, e4, e5]
  have hl : max (-1074 + (i : Int) - (k : Int) + ((c.log2 + k : Nat) : Int) - ((52 : Nat) : Int)) (-1074) = -1074 + (i : Int) := by
    rcases hi with ⟨h1, h2⟩ | ⟨h1, h2⟩
    · have : c.log2 < 52 := (Nat.log2_lt hc).2 h2
      omega
    · have a : c.log2 < 53 := (Nat.log2_lt hc).2 h2
      have b : 52 ≤ c.log2 := (Nat.le_log2 hc).2 h1
      omega
  rw [hl]
  have hcut : Toward.even.cut s ((c * 2 ^ k) <<< (-1074 + (i : Int) - (k : Int) - (-1074 + (i : Int))).toNat) (-1074 + (i : Int) - (-1074 + (i : Int) - (k : Int))).toNat = c := by
    rw [show (-1074 + (i : Int) - (k : Int) - (-1074 + (i : Int))).toNat = 0 by omega, show (-1074 + (i : Int) - (-1074 + (i : Int) - (k : Int))).toNat = k by omega, Nat.shiftLeft_zero]
    exact cut_whole s rfl (by omega)
  show double.word s (min ((-1074 + (i : Int) - -1074).toNat * 2 ^ 52 + Toward.even.cut s ((c * 2 ^ k) <<< (-1074 + (i : Int) - (k : Int) - (-1074 + (i : Int))).toNat) (-1074 + (i : Int) - (-1074 + (i : Int) - (k : Int))).toNat) ((2 ^ 11 - 1) * 2 ^ 52)) = _
  rw [hcut, show (-1074 + (i : Int) - -1074).toNat = i by omega, Nat.min_eq_left hf]
theorem word_of {b : Nat} (hb : b < 2 ^ 64) : double.word (b / 2 ^ 63 % 2 == 1) (b % 2 ^ 63) = b := by
  have e1 : double.signWeight = 2 ^ 63 := rfl
  unfold Format.word
  rw [e1]
  by_cases h : b / 2 ^ 63 % 2 = 1
  · simp [h]; omega
  · simp [h]; omega
theorem nearest_read {b k : Nat} {s : Bool} {c : Nat} {e : Int} (hb : b < 2 ^ 64) (hr : double.read b = .number s c e) : double.nearest s (c * 2 ^ k) (e - (k : Int)) = b := by
  have e1 : double.signWeight = 2 ^ 63 := rfl
  have e3 : double.infRung = (2 ^ 11 - 1) * 2 ^ 52 := rfl
  have e4 : double.leastPlace = -1074 := rfl
  have e5 : double.binade = 2 ^ 52 := rfl
  have hw := word_of hb
  unfold Format.read at hr
  simp only [e1, e3, e4, e5] at hr
  split at hr
  · rename_i h
    injection hr with h1 h2 h3
    subst h1 h2 h3
    by_cases h0 : b % 2 ^ 63 = 0
    · rw [h0] at hw ⊢
      rw [Nat.zero_mul, Format.nearest, if_pos rfl]
      exact hw
    · have := nearest_num (s := b / 2 ^ 63 % 2 == 1) (c := b % 2 ^ 63) (k := k) (i := 0) h0 (.inl ⟨rfl, h⟩) (by omega)
      rw [Nat.zero_mul, Nat.zero_add, hw] at this
      exact this
  · rename_i h
    split at hr
    · rename_i h'
      injection hr with h1 h2 h3
      subst h1 h2 h3
      have hq : b % 2 ^ 63 / 2 ^ 52 < 2 ^ 11 - 1 := Nat.div_lt_of_lt_mul (by omega)
      have hq1 : 1 ≤ b % 2 ^ 63 / 2 ^ 52 := (Nat.le_div_iff_mul_le (by decide)).2 (by omega)
      have hm := Nat.mod_lt (b % 2 ^ 63) (show 0 < 2 ^ 52 by decide)
      have hd := Nat.div_add_mod (b % 2 ^ 63) (2 ^ 52)
      have := nearest_num (s := b / 2 ^ 63 % 2 == 1) (c := 2 ^ 52 + b % 2 ^ 63 % 2 ^ 52) (k := k) (i := b % 2 ^ 63 / 2 ^ 52 - 1) (by omega) (.inr ⟨by omega, by omega⟩) (by omega)
      rw [show (b % 2 ^ 63 / 2 ^ 52 - 1) * 2 ^ 52 + (2 ^ 52 + b % 2 ^ 63 % 2 ^ 52) = b % 2 ^ 63 by omega, hw] at this
      exact this
    · split at hr <;> cases hr
def FlOk (x : Fl) : Prop := ∀ b, x = some b → b < 2 ^ 64 ∧ cn b = some b
theorem FlOk.cn {b : Nat} (h : b < 2 ^ 64) : FlOk (cn b) := by
  intro c hc
  unfold Go.Tm.cn at hc
  split at hc
  · cases hc
  · rename_i hn
    injection hc with hc
    subst hc
    exact ⟨h, by unfold Go.Tm.cn; rw [if_neg hn]⟩
theorem one_some : one = some 4607182418800017408 := by kernel_rfl
theorem one_read : double.read 4607182418800017408 = .number false 4503599627370496 (-52) := by kernel_rfl
theorem inf_of {b : Nat} {s : Bool} (hb : b < 2 ^ 64) (hr : double.read b = .infinity s) : double.word s double.infRung = b := by
  have e1 : double.signWeight = 2 ^ 63 := rfl
  have e3 : double.infRung = (2 ^ 11 - 1) * 2 ^ 52 := rfl
  have e4 : double.leastPlace = -1074 := rfl
  have e5 : double.binade = 2 ^ 52 := rfl
  have hw := word_of hb
  unfold Format.read at hr
  simp only [e1, e3, e4, e5] at hr
  split at hr
  · cases hr
  · split at hr
    · cases hr
    · split at hr
      · rename_i h
        injection hr with h1
        subst h1
        rw [e3, ← h]; exact hw
      · cases hr
theorem nan_cn {b : Nat} {s : Bool} {f : Nat} (hr : double.read b = .nan s f) : cn b = none := by
  have : (FloatKind.f64.decode b).isNaN = true := by
    have e : FloatKind.f64.decode b = .nan s f := hr
    rw [e]; rfl
  unfold cn; rw [if_pos this]
theorem fmul_one {x : Fl} (h : FlOk x) : fmul x one = x := by
  rw [one_some]
  cases x with
  | none => rfl
  | some b =>
    obtain ⟨hb, hc⟩ := h b rfl
    show ((double.read b).product (double.read 4607182418800017408)).map double.write = some b
    rw [one_read]
    cases hr : double.read b with
    | nan s f => rw [nan_cn hr] at hc; cases hc
    | infinity s =>
      show some (double.word (s ^^ false) double.infRung) = _
      rw [Bool.xor_false, inf_of hb hr]
    | number s c e =>
      show some (double.nearest (s ^^ false) (c * 4503599627370496) (e + -52)) = _
      rw [Bool.xor_false]
      have := nearest_read (k := 52) hb hr
      exact congrArg some this
theorem fquo_one {x : Fl} (h : FlOk x) : fquo x one = x := by
  rw [one_some]
  cases x with
  | none => rfl
  | some b =>
    obtain ⟨hb, hc⟩ := h b rfl
    show ((double.read b).quotient (double.fractionBits + 2) (double.read 4607182418800017408)).map double.write = some b
    rw [one_read]
    cases hr : double.read b with
    | nan s f => rw [nan_cn hr] at hc; cases hc
    | infinity s =>
      show some (double.word (s ^^ false) double.infRung) = _
      rw [Bool.xor_false, inf_of hb hr]
    | number s c e =>
      have hlog : c.log2 ≤ 54 := by
        have e1 : double.signWeight = 2 ^ 63 := rfl
        have e3 : double.infRung = (2 ^ 11 - 1) * 2 ^ 52 := rfl
        have e4 : double.leastPlace = -1074 := rfl
        have e5 : double.binade = 2 ^ 52 := rfl
        have hlt : c < 2 ^ 55 := by
          unfold Format.read at hr
          simp only [e1, e3, e4, e5] at hr
          split at hr
          · injection hr with h1 h2 h3; omega
          · split at hr
            · injection hr with h1 h2 h3; omega
            · split at hr <;> cases hr
        by_cases h0 : c = 0
        · subst h0; decide
        · have := (Nat.log2_lt h0).2 hlt; omega
      have e2 : double.fractionBits + 2 = 54 := rfl
      rw [e2]
      show some (double.nearest (s ^^ false) (2 * ((c <<< (54 + Nat.log2 4503599627370496 - c.log2)) / 4503599627370496) + ((c <<< (54 + Nat.log2 4503599627370496 - c.log2)) % 4503599627370496 != 0).toNat) (e - -52 - ((54 + Nat.log2 4503599627370496 - c.log2 : Nat) : Int) - 1)) = _
      rw [show Nat.log2 4503599627370496 = 52 by kernel_rfl, Bool.xor_false]
      obtain ⟨m, hm⟩ : ∃ m, 54 + 52 - c.log2 = m + 52 := ⟨54 + 52 - c.log2 - 52, by omega⟩
      rw [hm, Nat.shiftLeft_eq, Nat.pow_add, ← Nat.mul_assoc, show (2 : Nat) ^ 52 = 4503599627370496 from rfl, Nat.mul_div_cancel _ (by decide), Nat.mul_mod_left]
      have := nearest_read (k := m + 1) hb hr
      rw [← this]
      congr 1
      show double.nearest s (2 * (c * 2 ^ m) + 0) _ = _
      rw [show 2 * (c * 2 ^ m) + 0 = c * 2 ^ (m + 1) by rw [Nat.pow_succ, Nat.add_zero]; ac_rfl, show (e - -52 - ((m + 52 : Nat) : Int) - 1) = e - ((m + 1 : Nat) : Int) by omega]
theorem fi_one : fi 1 = one := by kernel_rfl
end Go.Tm
namespace Go.Tm
def hal : Fl := cn 4602678819172646912
theorem hal_some : hal = some 4602678819172646912 := by kernel_rfl
theorem hal_read : Ieee.double.read 4602678819172646912 = .number false 4503599627370496 (-53) := by kernel_rfl
theorem Wh.half {x : Fl} {a : Int} (hx : Wh x (2 * a)) (ha : Sm (2 * a)) : Wh (fmul x hal) a := by
  obtain ⟨u, rfl, hu⟩ := hx.dw ha
  obtain ⟨s, k, e, hs, -, -⟩ := hu
  rw [hal_some]
  show Wh (((Ieee.double.read u).product (Ieee.double.read 4602678819172646912)).map Ieee.double.write) _
  rw [e, hal_read]
  refine ⟨s ^^ false, ?_, fun h => ?_⟩
  · show some (Ieee.double.nearest (s ^^ false) ((2 * a).natAbs * 2 ^ k * 4503599627370496) (-(k : Int) + -53)) = _
    rw [show (-(k : Int) + -53) = -((k + 53 : Nat) : Int) by omega, nearest_wd (c := a.natAbs) _ (by unfold Sm at ha; omega)]
    rw [Int.natAbs_mul, Nat.pow_add, show (2 : Nat) ^ 53 = 2 * 4503599627370496 from rfl, show (2 : Int).natAbs = 2 from rfl]
    ac_rfl
  · rw [hs (by omega)]
    by_cases p : a < 0
    · simp [p]; omega
    · simp [p]; omega
def timesR (z : Cx) : Cx := (fmul z.1 hal, fmul z.2 hal)
theorem WhC.cast {z : Cx} {a b a' b' : Int} (h : WhC z a b) (e1 : a = a') (e2 : b = b') : WhC z a' b' := by subst e1 e2; exact h
def B46 (a : Int) : Prop := -70368744177664 ≤ a ∧ a ≤ 70368744177664
theorem WhC.half {z : Cx} {a b : Int} (hz : WhC z (2 * a) (2 * b)) (ha : B46 a) (hb : B46 b) : WhC (timesR z) a b :=
  ⟨hz.1.half (sm_of (by unfold B46 at ha; omega) (by unfold B46 at ha; omega)), hz.2.half (sm_of (by unfold B46 at hb; omega) (by unfold B46 at hb; omega))⟩
def evenC (a b : Cx) : Cx := timesR (plusC a b)
def oddC (a b : Cx) : Cx := timesR (lessC a b)
def moddC (x y : Cx) : Cx := timesR (minusI (lessC x y))
def rotI (m : Nat) (a b : Int) : Int × Int := if m = 0 then (a, b) else if m = 1 then (b, -a) else if m = 2 then (-a, -b) else (-b, a)
abbrev no0 : Nat → Int := fun _ => 0
def U40 (us : Nat → Int) : Prop := ∀ j, -1099511627776 ≤ us j ∧ us j ≤ 1099511627776
def fwdH (h : Nat) (z : Nat → Cx) (k : Nat) : Cx :=
  plusC (evenC (z (k % h)) (conjC (z ((h - k) % h)))) (twistF (moddC (z (k % h)) (conjC (z ((h - k) % h)))) (2 * h) k)
def invZ (h : Nat) (f : Nat → Cx) (k : Nat) : Cx :=
  plusC (evenC (f k) (conjC (f (h - k)))) (timesI (twistF (oddC (f k) (conjC (f (h - k)))) (2 * h) ((2 * h - k) % (2 * h))))
theorem best1 {r : Ord × Int} (h : Best PU 1 r) : r.1 = .mk 1 ((1 : Nat) : Int) [] := by
  have e : (bestF PU 30 1).map (·.1) = some (.mk 1 ((1 : Nat) : Int) []) := by kernel_rfl
  cases hb : bestF PU 30 1 with
  | none => rw [hb] at e; cases e
  | some r' =>
    rw [hb] at e
    rw [h.unique ⟨30, hb⟩]
    exact Option.some.inj e
theorem best2 {r : Ord × Int} (h : Best PU 2 r) : r.1 = .mk 2 ((2 : Nat) : Int) [] := by
  have e : (bestF PU 30 2).map (·.1) = some (.mk 2 ((2 : Nat) : Int) []) := by kernel_rfl
  cases hb : bestF PU 30 2 with
  | none => rw [hb] at e; cases e
  | some r' =>
    rw [hb] at e
    rw [h.unique ⟨30, hb⟩]
    exact Option.some.inj e
theorem best_leaf {n : Nat} (hn : n = 1 ∨ n = 2 ∨ n = 4) {r : Ord × Int} (h : Best PU n r) : Leaf n (plnM r.1).b := by
  rcases hn with rfl | rfl | rfl
  · rw [best1 h]; exact (leaf_of (kd := 1) (.inl rfl) (.inl rfl)).1
  · rw [best2 h]; exact (leaf_of (kd := 2) (.inr (.inl rfl)) (.inr ⟨rfl, by decide⟩)).1
  · rw [best4 h]; exact (leaf_of (kd := 2) (.inr (.inr rfl)) (.inr ⟨rfl, by decide⟩)).1
end Go.Tm
