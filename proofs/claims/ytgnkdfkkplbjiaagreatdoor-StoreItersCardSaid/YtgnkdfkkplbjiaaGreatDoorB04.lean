/- Lemmas of this claim, joined by program. Walks of functions: hard lengths, sizes, the offer. Regions that draw their order and hold two workers that may be taken in either order; cuts. Conditions: each lemma names its own. -/
import Derived.Test.YtgnkdfkkplbjiaaGreatDoorB03
import Derived.Test.YtgnkdfkkplbjiaaGreatDoorB01
import Derived.Test.YtgnkdfkkplbjiaaGreatDoorB02
set_option linter.all false
namespace Go.Tm
open Go.RowKit Go.Proofs
/-- An order with its cost, as cells. -/
abbrev pricedC (r : Ord × Int) (A : Option Addr) (c : Nat) : Array Value := #[.int .i64 r.1.kind, .int .i64 r.1.n, .slice A r.1.kids.length c, .int .i64 r.2]

theorem bld130_0_1w7 {v0_0 v0_1 v0_2 v1 : Value} (h : [v1].all Value.oneCell' = true) (w : World) : (Instr.build 130 ([(0, .agg #[v0_0, v0_1, v0_2]), (1, v1)] : List (Nat × Value)).toArray).run Tryz.prog w = .ok (.agg #[v0_0, v0_1, v0_2, v1]) w := by
  simp only [List.all_cons, Bool.and_eq_true, List.all_nil, and_true] at h
  have hv1 := oneCell_cells (v := v1) (by simp_all)
  have h1 := fill_set (fun i => ([(0, 3), (3, 1)] : List (Nat × Nat))[i]?) [(0, .agg #[v0_0, v0_1, v0_2]), (1, v1)] [.int .i64 0, .int .i64 0, .slice none 0 0, .int .i64 0] (by simp [okF, agg_cells, hv1, Nat.beq, Nat.ble])
  simp [setF, agg_cells, hv1] at h1
  simp [Instr.build, Tryz.runUnderlying130, Tryz.zeroValue130, Tryz.sizeOf3, Tryz.sizeOf67, agg_cells, h1]
set_option maxRecDepth 100000 in
theorem chooser_hard (P : Pol) (q mb : Nat) (a : Int) (w : World) (ch : Chr w q mb P) (h1 : 1 ≤ a) (h2 : a ≤ 16384) :
    Calls Tryz.prog 90 #[.pointer (some ⟨q, 0, none⟩), .int .i64 a] w (Ret (fun v w' => v = .bool (hardM P (facs a) a) ∧ Ch No w w')) := by
  have lq := ch.lt
  obtain ⟨FA, fc, S, bq, sl, hS, hfl, hqm⟩ := id ch
  refine calls_of_VC (args := [.pointer (some ⟨q, 0, none⟩), .int .i64 a]) Tryz.func90 rfl Tryz.ntmps90 rfl ?_
  refine VC.seq ?_
  refine VC.region ?_
  refine VO.mv (Rn.assign rfl) rfl rfl rfl ?_
  refine VO.nil ?_
  refine VQ.then_code ?_
  refine VC.seq ?_
  refine VC.seq ?_
  refine VC.region ?_
  refine VO.mv (Rn.move rfl) rfl rfl rfl ?_
  refine VO.wk (Wk.call Tryz.call114 rfl (primes_Factors _ _ (by omega) (by omega))) rfl rfl rfl ?_
  rintro _ w1 ⟨fA1, fk1, rfl, fs1, fl1, c1⟩
  have z1 := c1.size
  refine VO.mv (Rn.len Tryz.underlying84 rfl) rfl rfl rfl ?_
  refine VO.mv (Rn.move rfl) rfl rfl rfl ?_
  refine VO.nil ?_
  refine VQ.then_code ?_
  refine VC.block ?_
  refine VC.loopS (σ := Nat) (fun i => [(0, .pointer (some ⟨q, 0, none⟩)), (1, .int .i64 a), (8, .slice fA1 (facs a).length fk1), (9, .int .i64 (facs a).length), (10, .int .i64 i)]) (fun i w' => w' = w1 ∧ i ≤ (facs a).length ∧ ((facs a).take i).any (fun q => decide (q > P.prime)) = false) (fun i => (facs a).length - i) 0 ?_ ⟨rfl, rfl, rfl, rfl, rfl, trivial⟩ ?_
  · exact ⟨rfl, Nat.zero_le _, rfl⟩
  rintro i _ ⟨rfl, i1, hn⟩
  show VC _ _ _ _ [(0, .pointer (some ⟨q, 0, none⟩)), (1, .int .i64 a), (8, .slice fA1 (facs a).length fk1), (9, .int .i64 (facs a).length), (10, .int .i64 i)] _
  refine VC.seq ?_
  refine VC.region ?_
  refine VO.mv (Rn.lss rfl rfl) rfl rfl rfl ?_
  refine VO.nil ?_
  refine VQ.then_code ?_
  refine VC.seq ?_
  refine VC.cond_if rfl (fun hc1 => ?_) (fun hc1 => ?_)
  · skip
    refine VC.skip ?_
    refine VQ.then_code ?_
    refine VC.seq ?_
    refine VC.block ?_
    refine VC.seq ?_
    have hxi : (facs a)[i]? = some ((facs a).getD ((i : Int)).toNat 0) := by rw [Int.toNat_natCast, List.getD, List.getElem?_eq_getElem (by omega)]; rfl
    refine VC.region ?_
    refine VO.mv (Rn.indexS Tryz.underlying84 Tryz.sizeOf3 rfl rfl (fs1.ne (by omega)) (by omega) (by omega)) rfl rfl rfl ?_
    refine VO.mv (Rn.load Tryz.isAgg3 rfl (fs1.get 0 (by omega) (by omega))) rfl rfl rfl ?_
    refine VO.mv (Rn.assign rfl) rfl rfl rfl ?_
    refine VO.nil ?_
    refine VQ.then_code ?_
    refine VC.seq ?_
    refine VC.region ?_
    refine VO.mv (Rn.move rfl) rfl rfl rfl ?_
    refine VO.mv (Rn.move rfl) rfl rfl rfl ?_
    refine VO.mv (Rn.nilCheck rfl) rfl rfl rfl ?_
    refine VO.mv (Rn.field Tryz.underlying154 rfl Tryz.sizeOf86 rfl rfl rfl) rfl rfl rfl ?_
    refine VO.mv (Rn.field Tryz.underlying86 rfl Tryz.sizeOf3 rfl rfl rfl) rfl rfl rfl ?_
    have bq_1 := bq.keep c1
    refine VO.mv (Rn.load Tryz.isAgg3 rfl (bq_1.cell rfl)) rfl rfl rfl ?_
    refine VO.mv (Rn.gtr rfl rfl) rfl rfl rfl ?_
    refine VO.nil ?_
    refine VQ.then_code ?_
    refine VC.cond_if rfl (fun hc2 => ?_) (fun hc2 => ?_)
    · skip
      refine VC.seq ?_
      refine VC.region ?_
      refine VO.mv (Rn.move rfl) rfl rfl rfl ?_
      refine VO.mv (Rn.leq rfl rfl) rfl rfl rfl ?_
      refine VO.mv (Rn.assign rfl) rfl rfl rfl ?_
      refine VO.nil ?_
      refine VQ.then_code ?_
      refine VC.ret ?_
      refine VQ.block_ret ?_
      refine VQ.then_ret ?_
      refine VQ.then_ret ?_
      refine VQ.block_ret ?_
      refine VQ.then_ret ?_
      refine VQ.ret1 rfl rfl ?_
      refine Ret.mk ?_
      have CH_1 := (Ch.refl (No) w).and c1
      refine ⟨?_, CH_1⟩
      have hm : (facs a).any (fun q => decide (q > P.prime)) = true := List.any_eq_true.2 ⟨_, List.mem_of_getElem? hxi, by simpa using hc2⟩
      unfold hardM; rw [hm]; rfl
    · skip
      refine VC.skip ?_
      refine VQ.block_normal ?_
      refine VQ.then_code ?_
      refine VC.region ?_
      refine VO.mv (Rn.add rfl rfl (by rw [IntKind.wrap_i64]; omega)) rfl rfl rfl ?_
      refine VO.mv (Rn.move rfl) rfl rfl rfl ?_
      refine VO.nil ?_
      refine VQ.round (i + 1) (by first | omega | (dsimp only; omega)) ?_ ⟨rfl, rfl, rfl, rfl, rfl, trivial⟩
      refine ⟨rfl, by omega, ?_⟩
      rw [List.take_add_one, hxi, List.any_append, hn]
      simpa using Int.not_lt.1 hc2
  · skip
    refine VC.exit ?_
    refine VQ.then_exit ?_
    refine VQ.then_exit ?_
    refine VQ.block_exit ?_
    refine VQ.then_code ?_
    refine VC.seq ?_
    refine VC.region ?_
    refine VO.mv (Rn.assign rfl) rfl rfl rfl ?_
    refine VO.nil ?_
    refine VQ.then_code ?_
    refine VC.ret ?_
    refine VQ.ret1 rfl rfl ?_
    refine Ret.mk ?_
    have CH_1 := (Ch.refl (No) w).and c1
    refine ⟨?_, CH_1⟩
    have : i = (facs a).length := by omega
    subst this; rw [List.take_length] at hn
    unfold hardM; rw [hn]; rfl

set_option maxRecDepth 100000 in
theorem fine_two (a : Int) (w : World) (h1 : 1 ≤ a) (h2 : a ≤ 1073741824) :
    Calls Tryz.prog 131 #[.int .i64 a, .int .i64 2] w (Ret (fun v w' => (∃ b, v = .bool b ∧ (b = true ↔ ∃ j : Nat, a = 2 ^ j)) ∧ w = w')) := by
  refine calls_of_VC (args := [.int .i64 a, .int .i64 2]) Tryz.func131 rfl Tryz.ntmps131 rfl ?_
  refine VC.seq ?_
  refine VC.region ?_
  refine VO.mv (Rn.assign rfl) rfl rfl rfl ?_
  refine VO.nil ?_
  refine VQ.then_code ?_
  refine VC.seq ?_
  refine VC.seq ?_
  refine VC.region ?_
  refine VO.mv (Rn.assign rfl) rfl rfl rfl ?_
  refine VO.nil ?_
  refine VQ.then_code ?_
  refine VC.block ?_
  refine VC.loopS (σ := Int × Int) (fun (p, n) => [(0, .int .i64 n), (1, .int .i64 2), (5, .int .i64 p)]) (fun (p, n) w' => w = w' ∧ 1 ≤ n ∧ n ≤ a ∧ (∃ j : Nat, a = n * 2 ^ j) ∧ (p = 2 ∧ n = a ∨ p = 3 ∧ n % 2 = 1)) (fun (p, n) => (3 - p).toNat) (2, a) ?_ ⟨rfl, rfl, rfl, trivial⟩ ?_
  · exact ⟨rfl, h1, Int.le_refl _, ⟨0, by simp⟩, .inl ⟨rfl, rfl⟩⟩
  rintro ⟨p, n⟩ _ ⟨rfl, n1, n2, n3, n4⟩
  show VC _ _ _ _ [(0, .int .i64 n), (1, .int .i64 2), (5, .int .i64 p)] _
  have p1 : 2 ≤ p ∧ p ≤ 3 := by omega
  have pp : p = 2 ∧ p * p = 4 ∨ p = 3 ∧ p * p = 9 := by rcases n4 with ⟨rfl, _⟩ | ⟨rfl, _⟩ <;> simp
  refine VC.seq ?_
  refine VC.seq ?_
  refine VC.region ?_
  refine VO.mv (Rn.move rfl) rfl rfl rfl ?_
  refine VO.mv (Rn.move rfl) rfl rfl rfl ?_
  refine VO.mv (Rn.leq rfl rfl) rfl rfl rfl ?_
  refine VO.mv (Rn.move rfl) rfl rfl rfl ?_
  refine VO.andJoin (b := _) 6 9 15 rfl (fun hc1 Jhc1 => by
      try simp only [Bool.and_eq_true, Bool.or_eq_true, Bool.not_eq_true', Bool.not_eq_false', Bool.and_eq_false_iff, Bool.or_eq_false_iff, decide_eq_true_eq, decide_eq_false_iff_not] at hc1
      refine VO.mv (Rn.move rfl) rfl rfl rfl ?_
      refine VO.mv (Rn.move rfl) rfl rfl rfl ?_
      refine VO.mv (Rn.mul rfl rfl (by rw [IntKind.wrap_i64]; omega)) rfl rfl rfl ?_
      refine VO.mv (Rn.move rfl) rfl rfl rfl ?_
      refine VO.mv (Rn.leq rfl rfl) rfl rfl rfl ?_
      refine VO.mv (Rn.pick_true rfl rfl) rfl rfl rfl ?_
      exact (VO.fg rfl (VO.fg rfl (VO.fg rfl (VO.fg rfl (VO.fg rfl Jhc1)))))) (fun hc1 Jhc1 => by
      refine VO.skip rfl rfl rfl ?_
      refine VO.skip rfl rfl rfl ?_
      refine VO.skip rfl rfl rfl ?_
      refine VO.skip rfl rfl rfl ?_
      refine VO.skip rfl rfl rfl ?_
      refine VO.mv (Rn.pick_false rfl rfl) rfl rfl rfl ?_
      exact (VO.fg rfl (VO.fg rfl (VO.fg rfl (VO.fg rfl (VO.fg rfl Jhc1)))))) ?_
  refine VO.nil ?_
  refine VQ.then_code ?_
  refine VC.cond rfl (fun hc2 => ?_) (fun hc2 => ?_)
  · skip
    try simp only [Bool.and_eq_true, Bool.or_eq_true, Bool.not_eq_true', Bool.not_eq_false', Bool.and_eq_false_iff, Bool.or_eq_false_iff, decide_eq_true_eq, decide_eq_false_iff_not] at hc2
    refine VC.skip ?_
    refine VQ.then_code ?_
    refine VC.seq ?_
    refine VC.block ?_
    refine VC.block ?_
    refine VC.loopS (σ := Int) (fun m => [(0, .int .i64 m), (1, .int .i64 2), (5, .int .i64 p)]) (fun m w' => w = w' ∧ 1 ≤ m ∧ m ≤ a ∧ (∃ j : Nat, a = m * 2 ^ j)) (fun m => m.toNat) n ?_ ⟨rfl, rfl, rfl, trivial⟩ ?_
    · exact ⟨rfl, n1, n2, n3⟩
    rintro m _ ⟨rfl, m1, m2, m3⟩
    show VC _ _ _ _ [(0, .int .i64 m), (1, .int .i64 2), (5, .int .i64 p)] _
    have e : p = 2 := by omega
    refine VC.seq ?_
    refine VC.seq ?_
    refine VC.region ?_
    refine VO.mv (Rn.move rfl) rfl rfl rfl ?_
    refine VO.mv (Rn.move rfl) rfl rfl rfl ?_
    refine VO.mv (Rn.rem0 rfl rfl (by omega) (by omega)) rfl rfl rfl ?_
    refine VO.mv (Rn.eql rfl rfl) rfl rfl rfl ?_
    refine VO.nil ?_
    refine VQ.then_code ?_
    refine VC.cond_if rfl (fun hc3 => ?_) (fun hc3 => ?_)
    · skip
      refine VC.skip ?_
      refine VQ.then_code ?_
      refine VC.block ?_
      refine VC.region ?_
      refine VO.mv (Rn.move rfl) rfl rfl rfl ?_
      refine VO.mv (Rn.move rfl) rfl rfl rfl ?_
      refine VO.mv (Rn.quo0 rfl rfl (by omega) (by omega) (by omega)) rfl rfl rfl ?_
      refine VO.mv (Rn.assign rfl) rfl rfl rfl ?_
      refine VO.nil ?_
      refine VQ.block_normal ?_
      refine VQ.round (m / p) (by first | (rw [e]; omega) | (dsimp only; rw [e]; omega)) ?_ ⟨rfl, rfl, rfl, trivial⟩
      rw [e] at hc3 ⊢
      exact ⟨rfl, by omega, by omega, half_pow m3 hc3⟩
    · skip
      refine VC.exit ?_
      refine VQ.then_exit ?_
      refine VQ.then_exit ?_
      refine VQ.block_exit ?_
      refine VQ.block_normal ?_
      refine VQ.then_code ?_
      refine VC.region ?_
      refine VO.mv (Rn.move rfl) rfl rfl rfl ?_
      refine VO.mv (Rn.add rfl rfl (by rw [IntKind.wrap_i64]; omega)) rfl rfl rfl ?_
      refine VO.mv (Rn.assign rfl) rfl rfl rfl ?_
      refine VO.nil ?_
      refine VQ.round (p + 1, m) (by first | omega | (dsimp only; omega)) ?_ ⟨rfl, rfl, rfl, trivial⟩
      exact ⟨rfl, m1, m2, m3, .inr ⟨by omega, by rw [e] at hc3; omega⟩⟩
  · skip
    try simp only [Bool.and_eq_true, Bool.or_eq_true, Bool.not_eq_true', Bool.not_eq_false', Bool.and_eq_false_iff, Bool.or_eq_false_iff, decide_eq_true_eq, decide_eq_false_iff_not] at hc2
    refine VC.exit ?_
    refine VQ.then_exit ?_
    refine VQ.then_exit ?_
    refine VQ.block_exit ?_
    refine VQ.then_code ?_
    refine VC.seq ?_
    refine VC.region ?_
    refine VO.mv (Rn.move rfl) rfl rfl rfl ?_
    refine VO.mv (Rn.move rfl) rfl rfl rfl ?_
    refine VO.mv (Rn.leq rfl rfl) rfl rfl rfl ?_
    refine VO.mv (Rn.assign rfl) rfl rfl rfl ?_
    refine VO.nil ?_
    refine VQ.then_code ?_
    refine VC.ret ?_
    refine VQ.ret1 rfl rfl ?_
    refine Ret.mk ?_
    exact ⟨⟨_, rfl, fine_end n1 n2 n3 (by omega)⟩, rfl⟩

set_option maxRecDepth 100000 in
theorem primes_Smooth (a : Int) (w : World) (h1 : 1 ≤ a) (h2 : a ≤ 1048576) :
    Calls Tryz.prog 115 #[.int .i64 a, .int .i64 2] w (Ret (fun v w' => v = .tuple #[.int .i64 (up2 a), .nilIface] ∧ w = w')) := by
  have hu := up2_spec h1 (by omega)
  have hu2 := up2_le (j := 20) h1 (by omega) (by omega)
  simp only [Int.reducePow] at hu2
  refine calls_of_VC (args := [.int .i64 a, .int .i64 2]) Tryz.func115 rfl Tryz.ntmps115 rfl ?_
  refine VC.seq ?_
  refine VC.region ?_
  refine VO.mv (Rn.assign rfl) rfl rfl rfl ?_
  refine VO.mv (Rn.assign rfl) rfl rfl rfl ?_
  refine VO.nil ?_
  refine VQ.then_code ?_
  refine VC.seq ?_
  refine VC.seq ?_
  refine VC.region ?_
  refine VO.mv (Rn.move rfl) rfl rfl rfl ?_
  refine VO.mv (Rn.lss rfl rfl) rfl rfl rfl ?_
  refine VO.mv (Rn.move rfl) rfl rfl rfl ?_
  refine VO.orJoin (b := _) 3 8 11 rfl (fun hc1 Jhc1 => by
      refine VO.skip rfl rfl rfl ?_
      refine VO.skip rfl rfl rfl ?_
      refine VO.mv (Rn.pick_true rfl rfl) rfl rfl rfl ?_
      exact (VO.fg rfl (VO.fg rfl Jhc1))) (fun hc1 Jhc1 => by
      try simp only [Bool.and_eq_true, Bool.or_eq_true, Bool.not_eq_true', Bool.not_eq_false', Bool.and_eq_false_iff, Bool.or_eq_false_iff, decide_eq_true_eq, decide_eq_false_iff_not] at hc1
      refine VO.mv (Rn.move rfl) rfl rfl rfl ?_
      refine VO.mv (Rn.gtr rfl rfl) rfl rfl rfl ?_
      refine VO.mv (Rn.pick_false rfl rfl) rfl rfl rfl ?_
      exact (VO.fg rfl (VO.fg rfl Jhc1))) ?_
  refine VO.mv (Rn.move rfl) rfl rfl rfl ?_
  refine VO.orJoin (b := _) 3 12 15 rfl (fun hc2 Jhc2 => by
      refine VO.skip rfl rfl rfl ?_
      refine VO.skip rfl rfl rfl ?_
      refine VO.mv (Rn.pick_true rfl rfl) rfl rfl rfl ?_
      exact (VO.fg rfl (VO.fg rfl Jhc2))) (fun hc2 Jhc2 => by
      try simp only [Bool.and_eq_true, Bool.or_eq_true, Bool.not_eq_true', Bool.not_eq_false', Bool.and_eq_false_iff, Bool.or_eq_false_iff, decide_eq_true_eq, decide_eq_false_iff_not] at hc2
      refine VO.mv (Rn.move rfl) rfl rfl rfl ?_
      refine VO.mv (Rn.lss rfl rfl) rfl rfl rfl ?_
      refine VO.mv (Rn.pick_false rfl rfl) rfl rfl rfl ?_
      exact (VO.fg rfl (VO.fg rfl Jhc2))) ?_
  refine VO.nil ?_
  refine VQ.then_code ?_
  refine VC.cond rfl (fun hc3 => ?_) (fun hc3 => ?_)
  · skip
    try simp only [Bool.and_eq_true, Bool.or_eq_true, Bool.not_eq_true', Bool.not_eq_false', Bool.and_eq_false_iff, Bool.or_eq_false_iff, decide_eq_true_eq, decide_eq_false_iff_not] at hc3
    omega
  · skip
    try simp only [Bool.and_eq_true, Bool.or_eq_true, Bool.not_eq_true', Bool.not_eq_false', Bool.and_eq_false_iff, Bool.or_eq_false_iff, decide_eq_true_eq, decide_eq_false_iff_not] at hc3
    refine VC.skip ?_
    refine VQ.then_code ?_
    refine VC.seq ?_
    refine VC.block ?_
    refine VC.loopS (σ := Int) (fun x => [(0, .int .i64 x), (1, .int .i64 2)]) (fun x w' => w = w' ∧ a ≤ x ∧ x ≤ up2 a) (fun x => (up2 a - x).toNat) a ?_ ⟨rfl, rfl, trivial⟩ ?_
    · exact ⟨rfl, Int.le_refl _, hu.2.1⟩
    rintro x _ ⟨rfl, x1, x2⟩
    show VC _ _ _ _ [(0, .int .i64 x), (1, .int .i64 2)] _
    refine VC.seq ?_
    refine VC.seq ?_
    refine VC.region ?_
    refine VO.mv (Rn.move rfl) rfl rfl rfl ?_
    refine VO.mv (Rn.move rfl) rfl rfl rfl ?_
    refine VO.wk (Wk.call Tryz.call131 rfl (fine_two _ _ (by omega) (by omega))) rfl rfl rfl ?_
    rintro _ _ ⟨⟨fb, rfl, hfb⟩, rfl⟩
    refine VO.mv (Rn.not rfl) rfl rfl rfl ?_
    refine VO.nil ?_
    refine VQ.then_code ?_
    refine VC.cond rfl (fun hc4 => ?_) (fun hc4 => ?_)
    · skip
      try simp only [Bool.and_eq_true, Bool.or_eq_true, Bool.not_eq_true', Bool.not_eq_false', Bool.and_eq_false_iff, Bool.or_eq_false_iff, decide_eq_true_eq, decide_eq_false_iff_not] at hc4
      refine VC.skip ?_
      refine VQ.then_code ?_
      refine VC.block ?_
      refine VC.region ?_
      refine VO.mv (Rn.move rfl) rfl rfl rfl ?_
      refine VO.mv (Rn.add rfl rfl (by rw [IntKind.wrap_i64]; omega)) rfl rfl rfl ?_
      refine VO.mv (Rn.assign rfl) rfl rfl rfl ?_
      refine VO.nil ?_
      refine VQ.block_normal ?_
      refine VQ.round (x + 1) (by have hne : x ≠ up2 a := fun e => (by rw [e] at hfb; have := hfb.2 hu.1; simp [this] at hc4) ; omega) ?_ ⟨rfl, rfl, trivial⟩
      have hne : x ≠ up2 a := fun e => (by rw [e] at hfb; have := hfb.2 hu.1; simp [this] at hc4)
      exact ⟨rfl, by omega, by omega⟩
    · skip
      try simp only [Bool.and_eq_true, Bool.or_eq_true, Bool.not_eq_true', Bool.not_eq_false', Bool.and_eq_false_iff, Bool.or_eq_false_iff, decide_eq_true_eq, decide_eq_false_iff_not] at hc4
      refine VC.exit ?_
      refine VQ.then_exit ?_
      refine VQ.then_exit ?_
      refine VQ.block_exit ?_
      refine VQ.then_code ?_
      refine VC.seq ?_
      refine VC.region ?_
      refine VO.mv (Rn.move rfl) rfl rfl rfl ?_
      refine VO.mv (Rn.assign rfl) rfl rfl rfl ?_
      refine VO.mv (Rn.assign rfl) rfl rfl rfl ?_
      refine VO.nil ?_
      refine VQ.then_code ?_
      refine VC.ret ?_
      refine VQ.ret2 rfl rfl rfl ?_
      refine Ret.mk ?_
      refine ⟨?_, rfl⟩
      have hb : fb = true := by simpa using hc4
      obtain ⟨j, hj⟩ := hfb.1 hb
      have := hu.2.2 j (by omega)
      have e : x = up2 a := by omega
      rw [e]

set_option maxRecDepth 100000 in
theorem chirp_Size (a : Int) (w : World) (h1 : 1 ≤ a) (h2 : a ≤ 8192) :
    Calls Tryz.prog 91 #[.int .i64 a] w (Ret (fun v w' => v = .tuple #[.int .i64 (up2 (2 * a - 1)), .nilIface] ∧ w = w')) := by
  have hu2 := up2_le (x := 2 * a - 1) (j := 14) (by omega) (by omega) (by omega)
  simp only [Int.reducePow] at hu2
  refine calls_of_VC (args := [.int .i64 a]) Tryz.func91 rfl Tryz.ntmps91 rfl ?_
  refine VC.seq ?_
  refine VC.region ?_
  refine VO.mv (Rn.assign rfl) rfl rfl rfl ?_
  refine VO.mv (Rn.assign rfl) rfl rfl rfl ?_
  refine VO.nil ?_
  refine VQ.then_code ?_
  refine VC.seq ?_
  refine VC.seq ?_
  refine VC.region ?_
  refine VO.mv (Rn.move rfl) rfl rfl rfl ?_
  refine VO.mv (Rn.lss rfl rfl) rfl rfl rfl ?_
  refine VO.mv (Rn.move rfl) rfl rfl rfl ?_
  refine VO.orJoin (b := _) 3 8 11 rfl (fun hc1 Jhc1 => by
      refine VO.skip rfl rfl rfl ?_
      refine VO.skip rfl rfl rfl ?_
      refine VO.mv (Rn.pick_true rfl rfl) rfl rfl rfl ?_
      exact (VO.fg rfl (VO.fg rfl Jhc1))) (fun hc1 Jhc1 => by
      try simp only [Bool.and_eq_true, Bool.or_eq_true, Bool.not_eq_true', Bool.not_eq_false', Bool.and_eq_false_iff, Bool.or_eq_false_iff, decide_eq_true_eq, decide_eq_false_iff_not] at hc1
      refine VO.mv (Rn.move rfl) rfl rfl rfl ?_
      refine VO.mv (Rn.gtr rfl rfl) rfl rfl rfl ?_
      refine VO.mv (Rn.pick_false rfl rfl) rfl rfl rfl ?_
      exact (VO.fg rfl (VO.fg rfl Jhc1))) ?_
  refine VO.nil ?_
  refine VQ.then_code ?_
  refine VC.cond rfl (fun hc2 => ?_) (fun hc2 => ?_)
  · skip
    try simp only [Bool.and_eq_true, Bool.or_eq_true, Bool.not_eq_true', Bool.not_eq_false', Bool.and_eq_false_iff, Bool.or_eq_false_iff, decide_eq_true_eq, decide_eq_false_iff_not] at hc2
    omega
  · skip
    try simp only [Bool.and_eq_true, Bool.or_eq_true, Bool.not_eq_true', Bool.not_eq_false', Bool.and_eq_false_iff, Bool.or_eq_false_iff, decide_eq_true_eq, decide_eq_false_iff_not] at hc2
    refine VC.skip ?_
    refine VQ.then_code ?_
    refine VC.seq ?_
    refine VC.region ?_
    refine VO.mv (Rn.move rfl) rfl rfl rfl ?_
    refine VO.mv (Rn.mul rfl rfl (by rw [IntKind.wrap_i64]; omega)) rfl rfl rfl ?_
    refine VO.mv (Rn.sub rfl rfl (by rw [IntKind.wrap_i64]; omega)) rfl rfl rfl ?_
    refine VO.wk (Wk.call Tryz.call115 rfl (primes_Smooth _ _ (by omega) (by omega))) rfl rfl rfl ?_
    rintro _ _ ⟨rfl, rfl⟩
    refine VO.mv (Rn.move rfl) rfl rfl rfl ?_
    refine VO.mv (Rn.extract rfl rfl) rfl rfl rfl ?_
    refine VO.mv (Rn.extract rfl rfl) rfl rfl rfl ?_
    refine VO.mv (Rn.assign rfl) rfl rfl rfl ?_
    refine VO.mv (Rn.assign rfl) rfl rfl rfl ?_
    refine VO.nil ?_
    refine VQ.then_code ?_
    refine VC.seq ?_
    refine VC.seq ?_
    refine VC.region ?_
    refine VO.mv (Rn.move rfl) rfl rfl rfl ?_
    refine VO.mv (Rn.nil_neq_nil Tryz.underlying27 rfl) rfl rfl rfl ?_
    refine VO.mv (Rn.move rfl) rfl rfl rfl ?_
    refine VO.mv (Rn.move rfl) rfl rfl rfl ?_
    refine VO.mv (Rn.gtr rfl rfl) rfl rfl rfl ?_
    refine VO.mv (Rn.pick_false rfl rfl) rfl rfl rfl ?_
    refine VO.nil ?_
    refine VQ.then_code ?_
    refine VC.cond_if rfl (fun hc3 => ?_) (fun hc3 => ?_)
    · skip
      omega
    · skip
      refine VC.skip ?_
      refine VQ.then_code ?_
      refine VC.seq ?_
      refine VC.region ?_
      refine VO.mv (Rn.move rfl) rfl rfl rfl ?_
      refine VO.mv (Rn.assign rfl) rfl rfl rfl ?_
      refine VO.mv (Rn.assign rfl) rfl rfl rfl ?_
      refine VO.nil ?_
      refine VQ.then_code ?_
      refine VC.ret ?_
      refine VQ.ret2 rfl rfl rfl ?_
      refine Ret.mk ?_
      exact ⟨rfl, rfl⟩

set_option maxRecDepth 100000 in
theorem offer (o : Ord) (cost : Int) (A : Option Addr) (c : Nat) (r : Ord × Int) (B : Option Addr) (e b : Nat) (S : Nat → Prop) (w : World) (bb : Bk w b (pricedC r B e) 130) (kd : RdK S w A o.kids) (kb : RdK S w B r.1.kids) (hS : ¬ S b) :
    Calls Tryz.prog 84 #[ordV o A c, .int .i64 cost, .pointer (some ⟨b, 0, none⟩)] w (Ret (fun v w' => v = .tuple #[] ∧ (∃ A' c', Bk w' b (pricedC (offerM r o cost) A' c') 130 ∧ RdK S w' A' (offerM r o cost).1.kids) ∧ Ch (Is b) w w')) := by
  have lb := bb.lt
  refine calls_of_VC (args := [ordV o A c, .int .i64 cost, .pointer (some ⟨b, 0, none⟩)]) Tryz.func84 rfl Tryz.ntmps84 rfl ?_
  refine VC.seq ?_
  refine VC.region ?_
  refine VO.wk (Wk.box rfl) rfl rfl rfl ?_
  rintro _ w1 ⟨p1, rfl, N1⟩
  have c1 := N1.ch
  have e1 := N1.p; have z1 := N1.size
  have b3 := Bk.new N1
  refine VO.nil ?_
  refine VQ.then_code ?_
  refine VC.seq ?_
  refine VC.region ?_
  refine VO.mv (Rn.field Tryz.underlying130 rfl Tryz.sizeOf3 rfl rfl rfl) rfl rfl rfl ?_
  have bb_1 := bb.keep c1
  refine VO.mv (Rn.load Tryz.isAgg3 rfl (bb_1.cell rfl)) rfl rfl rfl ?_
  refine VO.mv (Rn.lss rfl rfl) rfl rfl rfl ?_
  refine VO.mv (Rn.move rfl) rfl rfl rfl ?_
  refine VO.orJoin (b := _) 5 8 13 rfl (fun hc1 Jhc1 => by
      refine VO.skip rfl rfl rfl ?_
      refine VO.skip rfl rfl rfl ?_
      refine VO.skip rfl rfl rfl ?_
      refine VO.skip rfl rfl rfl ?_
      refine VO.mv (Rn.pick_true rfl rfl) rfl rfl rfl ?_
      exact (VO.fg rfl (VO.fg rfl (VO.fg rfl (VO.fg rfl Jhc1))))) (fun hc1 Jhc1 => by
      try simp only [Bool.and_eq_true, Bool.or_eq_true, Bool.not_eq_true', Bool.not_eq_false', Bool.and_eq_false_iff, Bool.or_eq_false_iff, decide_eq_true_eq, decide_eq_false_iff_not] at hc1
      refine VO.mv (Rn.move rfl) rfl rfl rfl ?_
      refine VO.mv (Rn.field Tryz.underlying130 rfl Tryz.sizeOf3 rfl rfl rfl) rfl rfl rfl ?_
      refine VO.mv (Rn.load Tryz.isAgg3 rfl (bb_1.cell rfl)) rfl rfl rfl ?_
      refine VO.mv (Rn.lss rfl rfl) rfl rfl rfl ?_
      refine VO.mv (Rn.pick_false rfl rfl) rfl rfl rfl ?_
      exact (VO.fg rfl (VO.fg rfl (VO.fg rfl (VO.fg rfl Jhc1))))) ?_
  refine VO.nil ?_
  refine VQ.then_code ?_
  refine VC.cond rfl (fun hc2 => ?_) (fun hc2 => ?_)
  · skip
    try simp only [Bool.and_eq_true, Bool.or_eq_true, Bool.not_eq_true', Bool.not_eq_false', Bool.and_eq_false_iff, Bool.or_eq_false_iff, decide_eq_true_eq, decide_eq_false_iff_not] at hc2
    refine VC.region ?_
    refine VO.mv (Rn.loads Tryz.isAgg67 Tryz.sizeOf67 rfl rfl (b3.all' rfl)) rfl rfl rfl ?_
    refine VO.mv (Rn.move rfl) rfl rfl rfl ?_
    refine VO.mv (Rn.build rfl (bld130_0_1w7 rfl)) rfl rfl rfl ?_
    refine VO.wk0 (Wk.puts Tryz.sizeOf130 rfl rfl rfl rfl bb_1 (Nat.le_of_ble_eq_true rfl)) rfl rfl ?_
    intro _ w2 Z2
    have c2 := Z2.ch; have z2 := Z2.size
    have bb_2 := Bk.put Z2
    refine VO.nil ?_
    refine VQ.end0 rfl ?_
    refine Ret.mk ?_
    have eo : offerM r o cost = (o, cost) := by unfold offerM; rw [if_pos hc2]
    have CH_1 := (Ch.refl (Is b) w).and c1
    have CH_2 : Ch (Is b) w w2 := CH_1.then c2 (by intro q h1 h2; rcases h2 with h2 | h2 <;> first | exact h2 | (exfalso; omega) | omega)
    refine ⟨rfl, ⟨A, c, ?_, ?_⟩, CH_2⟩
    · rw [eo]; exact bb_2
    have kd_1 := kd.keep c1
    have kd_2 := kd_1.to c2 (by first | exact fun _ _ _ _ => id | (intro q h1 h2 hx h3; omega) | exact fun q h1 h2 hx h3 => hS (h3 ▸ h2))
    · rw [eo]; exact kd_2
  · skip
    try simp only [Bool.and_eq_true, Bool.or_eq_true, Bool.not_eq_true', Bool.not_eq_false', Bool.and_eq_false_iff, Bool.or_eq_false_iff, decide_eq_true_eq, decide_eq_false_iff_not] at hc2
    refine VC.skip ?_
    refine VQ.end0 rfl ?_
    refine Ret.mk ?_
    have eo : offerM r o cost = r := by unfold offerM; rw [if_neg (by omega)]
    have CH_1 := (Ch.refl (Is b) w).and c1
    refine ⟨rfl, ⟨B, e, ?_, ?_⟩, CH_1⟩
    · rw [eo]; exact bb_1
    have kb_1 := kb.keep c1
    · rw [eo]; exact kb_1

end Go.Tm
namespace Go.Tm
open Go.RowKit
inductive Tr where
  | nil
  | mv (i : Nat) (t : Tr)
  | wk (i : Nat) (t : Tr)
  | two (i : Nat) (s : Tr) (j : Nat) (t : Tr)
def Tr.len : Tr → Nat → Bool
  | .nil, n => Nat.beq n 0
  | .mv _ t, n + 1 => t.len n
  | .wk _ t, n + 1 => t.len n
  | .two _ s _ t, n + 1 => s.len n && t.len n
  | _, 0 => false
section
variable {P : Program} {md : Region.Mode} {ops : Array Oper} {Q : Exit → Act → World → Prop} {S : World → Prop} {n : Nat} {L : Array Bool → Act → World → Prop}
def Region.treeB (md : Region.Mode) (ops : Array Oper) (n : Nat) : Tr → Array Bool → Bool
  | .nil, listed => Region.seqB md ops (ops.size - n) n listed
  | .mv i r, listed => Nat.blt i n && (Region.ready md ops listed).contains i && Region.free md ops listed i && Region.treeB md ops n r (listed.setIfInBounds i true)
  | .wk i r, listed => Nat.blt i n && decide (Region.ready md ops listed = [i]) && Region.treeB md ops n r (listed.setIfInBounds i true)
  | .two i s j t, listed => Nat.blt i n && Nat.blt j n && decide (Region.ready md ops listed = [i, j]) && Region.treeB md ops n s (listed.setIfInBounds i true) && Region.treeB md ops n t (listed.setIfInBounds j true)
def Region.treeOk (md : Region.Mode) (ops : Array Oper) (n : Nat) (t : Tr) : Bool :=
  Region.noSelect ops && Region.waitB md ops n && t.len n && Region.treeB md ops n t (Array.replicate ops.size false)
def wpTr (P : Program) (ops : Array Oper) (Q : Exit → Act → World → Prop) (S : World → Prop) (Lq : Act → World → Prop) : Tr → Act → World → Prop
  | .nil, a, w => Lq a w
  | .mv i r, a, w => ∃ oi v, ops[i]? = some oi ∧ YieldsIf P ops S oi v a ∧ wpTr P ops Q S Lq r (a.put oi.dst v) w
  | .wk i r, a, w => wpOp P ops Q i (fun a' w' => S w' ∧ wpTr P ops Q S Lq r a' w') a w
  | .two i s j t, a, w => wpOp P ops Q i (fun a' w' => S w' ∧ wpTr P ops Q S Lq s a' w') a w ∧ wpOp P ops Q j (fun a' w' => S w' ∧ wpTr P ops Q S Lq t a' w') a w
theorem wpAnyHL_tree {Lq : Act → World → Prop} (hsel : Region.noSelect ops = true) (hwt : Region.waitB md ops n = true) (hQ : ∀ c a d v w, Q (.panic c) (Act.put a d v) w → Q (.panic c) a w) :
    ∀ (t : Tr) (m : Nat) (listed : Array Bool) (a : Act) (w : World), t.len m = true → HeadInv md ops n listed → Region.treeB md ops n t listed = true → S w → wpTr P ops Q S Lq t a w →
    wpAnyHL P md ops Q S n (fun listed' a' w' => Region.seqB md ops (ops.size - n) n listed' = true ∧ Lq a' w') m listed a w
  | .nil, m, listed, a, w, hm, _, hB, hS, h => by
    have : m = 0 := Nat.eq_of_beq_eq_true hm
    subst this
    exact ⟨hB, h⟩
  | .mv i r, 0, _, _, _, hm, _, _, _, _ => by cases hm
  | .wk i r, 0, _, _, _, hm, _, _, _, _ => by cases hm
  | .two i s j t, 0, _, _, _, hm, _, _, _, _ => by cases hm
  | .mv i r, m + 1, listed, a, w, hm, inv, hB, hS, h => by
    simp only [Region.treeB, Bool.and_eq_true, Nat.blt_eq] at hB
    obtain ⟨⟨⟨hin, hr⟩, hf⟩, hB'⟩ := hB
    obtain ⟨oi, v, hoi, hy, hK⟩ := h
    have hr' : i ∈ Region.ready md ops listed := by simpa using hr
    exact wpAnyHL_first hoi (Region.noSelect_spec hsel) hwt hin (fun c a w => hQ c a _ _ w) (fun listed' a' w' hL => seqB_ready hL.1) m listed a w inv (Region.free_spec hoi hf) hr' hy hS
      (wpAnyHL_tree hsel hwt hQ r m _ _ w hm (inv.set hr' hin) hB' hS hK)
  | .wk i r, m + 1, listed, a, w, hm, inv, hB, hS, h => by
    simp only [Region.treeB, Bool.and_eq_true, Nat.blt_eq, decide_eq_true_eq] at hB
    obtain ⟨⟨hin, hr⟩, hB'⟩ := hB
    have hr' : i ∈ Region.ready md ops listed := by rw [hr]; simp
    refine ⟨by rw [hr]; simp, fun j hj => ?_⟩
    rw [hr] at hj
    have hji : j = i := by simpa using hj
    subst hji
    exact ⟨hin, wpOp_mono (fun a' w' h' => ⟨h'.1, wpAnyHL_tree hsel hwt hQ r m _ a' w' hm (inv.set hr' hin) hB' h'.1 h'.2⟩) h⟩
  | .two i s j t, m + 1, listed, a, w, hm, inv, hB, hS, h => by
    simp only [Region.treeB, Bool.and_eq_true, Nat.blt_eq, decide_eq_true_eq] at hB
    obtain ⟨⟨⟨⟨hi, hj⟩, hr⟩, hs⟩, ht⟩ := hB
    simp only [Tr.len, Bool.and_eq_true] at hm
    have hri : i ∈ Region.ready md ops listed := by rw [hr]; simp
    have hrj : j ∈ Region.ready md ops listed := by rw [hr]; simp
    refine ⟨by rw [hr]; simp, fun x hx => ?_⟩
    rw [hr] at hx
    simp only [List.mem_cons, List.not_mem_nil, or_false] at hx
    rcases hx with rfl | rfl
    · exact ⟨hi, wpOp_mono (fun a' w' h' => ⟨h'.1, wpAnyHL_tree hsel hwt hQ s m _ a' w' hm.1 (inv.set hri hi) hs h'.1 h'.2⟩) h.1⟩
    · exact ⟨hj, wpOp_mono (fun a' w' h' => ⟨h'.1, wpAnyHL_tree hsel hwt hQ t m _ a' w' hm.2 (inv.set hrj hj) ht h'.1 h'.2⟩) h.2⟩
theorem any_of_tree {a : Act} {w : World} {l : List Oper} (n : Nat) (t : Tr) (S : World → Prop) (hB : Region.treeOk .any l.toArray n t = true)
    (hQ : ∀ c a d v w, Q (.panic c) (Act.put a d v) w → Q (.panic c) a w) (hS : S w.drew) (h : wpTr P l.toArray Q S (fun a' w' => wpList P l.toArray Q (l.drop n) a' w') t a w.drew) : wpAny P .any l.toArray Q l.toArray.size (Array.replicate l.toArray.size false) a w.drew := by
  simp only [Region.treeOk, Bool.and_eq_true] at hB
  obtain ⟨⟨⟨hsel, hwt⟩, hlen⟩, hord⟩ := hB
  have hn : n ≤ l.length := by
    simp only [Region.waitB, Bool.or_eq_true, Bool.and_eq_true, decide_eq_true_eq, List.size_toArray] at hwt
    rcases hwt with h | ⟨⟨h, _⟩, _⟩ <;> omega
  have hdl : (l.drop n).length = l.toArray.size - n := by simp
  have inv0 : HeadInv .any l.toArray n (Array.replicate l.toArray.size false) :=
    ⟨by simp, fun j oj _ hl => (by rw [getD_replicate_false] at hl; cases hl), fun t _ ht => getD_in (by simpa using ht) (getD_replicate_false _ _)⟩
  have H := wpAnyHL_tree hsel hwt hQ t n _ a w.drew hlen inv0 hord hS h
  have := wpAny_of_headH (g := l.toArray.size - n) (fun listed a' w' hL => by
    have := wpAny_of_seq (md := .any) (Q' := Q) (l.drop n) n listed a' w' (fun j => by simp [List.getElem?_drop]) (by rw [hdl]; exact hL.1) hL.2
    rwa [hdl] at this) _ _ _ _ H
  rw [show n + (l.toArray.size - n) = l.toArray.size by simp only [List.size_toArray]; omega] at this
  exact this
end
section
variable {P : Program} {n : Fr} {m : Nat} {rr : Option Nat} {ops : Array Oper} {Q : Exit → Act → World → Prop} {S : World → Prop} {Lq : Act → World → Prop} {k : K} {w : World} {o : Oper} {t s : Tr}
def VT (P : Program) (n : Fr) (ops : Array Oper) (Q : Exit → Act → World → Prop) (S : World → Prop) (Lq : Act → World → Prop) (t : Tr) (k : K) (w : World) : Prop := ∀ a, Fits n k a → wpTr P ops Q S Lq t a w
theorem VC.drawsT {id : Nat} {l : List Oper} (m : Nat) (t : Tr) (S : World → World → Prop) (hm : P.follows .mixedOrders = true) (hB : Region.treeOk .any l.toArray m t = true) (hS : ∀ w1, w1 = w.drew → S w1 w1)
    (h : ∀ w1, w1 = w.drew → VT P n l.toArray (NoPanic Q) (S w1) (fun a' w' => wpList P l.toArray (NoPanic Q) (l.drop m) a' w') t k w1) : VC (r := none) P n (.region id l.toArray true) Q k w :=
  fun a ha => wpIn_none.2 <| wp_region_noPanic (wp_region_any hm (any_of_tree m t (S w.drew) hB (fun _ _ _ _ _ h => h) (hS _ rfl) (h _ rfl a ha)))
theorem VC.drawsTR {id : Nat} {l : List Oper} (m : Nat) (t : Tr) (S : World → World → Prop) (hm : P.follows .mixedOrders = true) (hd : l.all notDef = true) (hB : Region.treeOk .any l.toArray m t = true) (hS : ∀ w1, w1 = w.drew → S w1 w1)
    (h : ∀ w1, w1 = w.drew → VT P n l.toArray (NoPO Q) (S w1) (fun a' w' => wpList P l.toArray (NoPO Q) (l.drop m) a' w') t k w1) : VC (r := rr) P n (.region id l.toArray true) Q k w :=
  fun a ha => wpIn_region_any hm (any_fw (by simpa using hd) _ _ a _ (any_of_tree m t (S w.drew) hB (fun _ _ _ _ _ h => h) (hS _ rfl) (h _ rfl a ha)))
theorem VT.two {i j : Nat} (h1 : VT P n ops Q S Lq (.wk i s) k w) (h2 : VT P n ops Q S Lq (.wk j t) k w) : VT P n ops Q S Lq (.two i s j t) k w := fun a ha => ⟨h1 a ha, h2 a ha⟩
theorem VT.mv {i d : Nat} {v : Value} (hr : ∀ w', S w' → Rn P n k w' o v) (ho : ops[i]? = some o) (hd : o.dst = some d) (hg : guardOk ops k o.guard = some true) (hn : Nat.blt d n.sz = true)
    (h : VT P n ops Q S Lq t ((d, v) :: k) w) : VT P n ops Q S Lq (.mv i t) k w := fun a ha =>
  ⟨o, v, ho, .inl ⟨guardOk_wanted hg ha, fun w' hw' => hr w' hw' a ha⟩, by rw [hd]; exact h _ (ha.put hn v)⟩
theorem VT.wk {i d : Nat} {R : Value → World → Prop} (hw : Wk P n k w o R) (ho : ops[i]? = some o) (hd : o.dst = some d) (hg : guardOk ops k o.guard = some true) (hn : Nat.blt d n.sz = true)
    (h : ∀ v w', R v w' → S w' ∧ VT P n ops Q S Lq t ((d, v) :: k) w') : VT P n ops Q S Lq (.wk i t) k w := by
  intro a ha
  simp only [wpTr, wpOp, ho]
  rw [guardOk_wanted hg ha]
  simp only [if_true]
  left
  refine hw a Q _ ha fun v w' hR => ?_
  rw [hd]
  exact ⟨(h v w' hR).1, (h v w' hR).2 _ (ha.put hn v)⟩
theorem VT.wk0 {i : Nat} {R : Value → World → Prop} (hw : Wk P n k w o R) (ho : ops[i]? = some o) (hd : o.dst = none) (hg : guardOk ops k o.guard = some true)
    (h : ∀ v w', R v w' → S w' ∧ VT P n ops Q S Lq t k w') : VT P n ops Q S Lq (.wk i t) k w := by
  intro a ha
  simp only [wpTr, wpOp, ho]
  rw [guardOk_wanted hg ha]
  simp only [if_true]
  left
  refine hw a Q _ ha fun v w' hR => ?_
  rw [hd]
  exact ⟨(h v w' hR).1, (h v w' hR).2 _ ha⟩
theorem VT.late {i d : Nat} {v : Value} (hr : Rn P n k w o v) (ho : ops[i]? = some o) (hd : o.dst = some d) (hg : guardOk ops k o.guard = some true) (hn : Nat.blt d n.sz = true) (hS : S w)
    (h : VT P n ops Q S Lq t ((d, v) :: k) w) : VT P n ops Q S Lq (.wk i t) k w :=
  VT.wk (R := fun u w' => u = v ∧ w' = w) (Wk.of_run fun a ha => ⟨v, w, hr a ha, rfl, rfl⟩) ho hd hg hn (by rintro u w' ⟨rfl, rfl⟩; exact ⟨hS, h⟩)
theorem VT.done {l : List Oper} {m : Nat} (h : VO P n ops Q (l.drop m) k w) : VT P n ops Q S (fun a' w' => wpList P ops Q (l.drop m) a' w') .nil k w := fun a ha => h a ha
/-- What a part hands on. -/
def CutPost (n : Fr) {σ : Type} (kf : σ → K) (J : σ → World → Prop) (a' : Act) (w' : World) : Prop := ∃ s, J s w' ∧ Fits n (kf s) a'
theorem VC.cut {x y : Code} {σ : Type} (kf : σ → K) (J : σ → World → Prop) (h1 : VC (r := rr) P n x (Exit.then (CutPost n kf J) Q) k w) (h2 : ∀ s w, J s w → VC (r := rr) P n y Q (kf s) w) : VC (r := rr) P n (.seq x y) Q k w := by
  intro a ha
  refine wpIn_seq (wpIn_mono (h1 a ha) fun e a' w' hq => ?_)
  cases e <;> first | exact hq | skip
  obtain ⟨s, hJ, hf⟩ := hq
  exact h2 s w' hJ a' hf
theorem VQ.cut {σ : Type} {kf : σ → K} {J : σ → World → Prop} (s : σ) (hJ : J s w) (hk : kall k (kf s)) : VQ n (Exit.then (CutPost n kf J) Q) .normal k w := fun _ ha => ⟨s, hJ, ha.less hk⟩
end
end Go.Tm
