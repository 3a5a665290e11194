/- Lemmas of this claim, joined by program. Walks of functions: the law's own (sameTexts, lately). Lengths from 1 to 24 have plans: the kernel reckons them. Walks of functions: pack (small), plans of the law. Walks of functions: what the law holds fixed. Walks of functions: who goes. Conditions: each lemma names its own. -/
import Derived.Test.YtgnkdfkkplbjiaaGreatDoorA12
import Derived.Test.YtgnkdfkkplbjiaaGreatDoorA11
import Derived.KernelRfl
set_option linter.all false
namespace Go.Tm
open Go.RowKit Go.Proofs
theorem nm_get {S : Nat → Prop} {w : World} {A : Option Addr} {l : Nat} {L : List Nm} {i : Nat} {y : Nm} (h : SlR S w A l 1 (L.map strV)) (hy : L[i]? = some y) : w.cell? ((sAddr A).add (i * 1)) = some (strV y) := by
  have hl := h.len
  have hi := (List.getElem?_eq_some_iff.1 hy).1
  refine h.one (by simp at hl; omega) ?_
  rw [List.getElem?_map, hy]; rfl
theorem ext_take {L M : List Nm} (hl : L.length = M.length) (h : L.take L.length = M.take L.length) : L = M := by
  rwa [List.take_length, hl, List.take_length] at h
theorem rev_take {U : List Nm} {i : Nat} {x : Nm} (h : U[i]? = some x) : (U.take (i + 1)).reverse = x :: (U.take i).reverse := by
  rw [List.take_add_one, h]; simp
theorem late_end {ro : Nat} {U want : List Nm} {i : Int} (h : ¬ 0 ≤ i ∨ ¬ (want.length : Int) < ro) : lateGo ro (U.take (i + 1).toNat).reverse want = want := by
  cases hrev : (U.take (i + 1).toNat).reverse with
  | nil => rfl
  | cons a t =>
    rw [lateGo, if_neg]
    intro hlt
    rcases h with h | h
    · rw [show (i + 1).toNat = 0 by omega] at hrev
      simp at hrev
    · omega

set_option maxRecDepth 100000 in
theorem inf9w27 : Inf Tryz.prog 9 (.string ⟨#[]⟩) 1 16 := ⟨Tryz.t9, Tryz.type9, rfl, rfl, rfl⟩
set_option maxRecDepth 100000 in
theorem sameTexts (L M : List Nm) (S1 S2 : Nat → Prop) (A B : Option Addr) (c d : Nat) (w : World) (s1 : SlR S1 w A L.length 1 (L.map strV)) (s2 : SlR S2 w B M.length 1 (M.map strV)) (hL : L.length ≤ 1000000000) (hM : M.length ≤ 1000000000) :
    Calls Tryz.prog 15 #[.slice A L.length c, .slice B M.length d] w (Ret (fun v w' => v = .bool (decide (L = M)) ∧ Ch No w w')) := by
  refine calls_of_VC (args := [.slice A L.length c, .slice B M.length d]) Tryz.func15 rfl Tryz.ntmps15 rfl ?_
  refine VC.seq ?_
  refine VC.region ?_
  refine VO.mv (Rn.assign rfl) rfl rfl rfl ?_
  refine VO.nil ?_
  refine VQ.then_code ?_
  refine VC.seq ?_
  refine VC.seq ?_
  refine VC.region ?_
  refine VO.mv (Rn.move rfl) rfl rfl rfl ?_
  refine VO.mv (Rn.len Tryz.underlying30 rfl) rfl rfl rfl ?_
  refine VO.mv (Rn.move rfl) rfl rfl rfl ?_
  refine VO.mv (Rn.len Tryz.underlying30 rfl) rfl rfl rfl ?_
  refine VO.mv (Rn.neq rfl rfl) rfl rfl rfl ?_
  refine VO.nil ?_
  refine VQ.then_code ?_
  refine VC.cond_if rfl (fun hc1 => ?_) (fun hc1 => ?_)
  · skip
    refine VC.seq ?_
    refine VC.region ?_
    refine VO.mv (Rn.assign rfl) rfl rfl rfl ?_
    refine VO.nil ?_
    refine VQ.then_code ?_
    refine VC.ret ?_
    refine VQ.then_ret ?_
    refine VQ.ret1 rfl rfl ?_
    refine Ret.mk ?_
    exact ⟨by rw [decide_eq_false (fun e => hc1 (by rw [e]))], (Ch.refl (No) w)⟩
  · skip
    refine VC.skip ?_
    refine VQ.then_code ?_
    refine VC.seq ?_
    refine VC.seq ?_
    refine VC.region ?_
    refine VO.mv (Rn.move rfl) rfl rfl rfl ?_
    refine VO.mv (Rn.len Tryz.underlying30 rfl) rfl rfl rfl ?_
    refine VO.mv (Rn.move rfl) rfl rfl rfl ?_
    refine VO.nil ?_
    refine VQ.then_code ?_
    refine VC.block ?_
    refine VC.loopS (σ := Nat) (fun i => [(0, .slice A L.length c), (1, .slice B M.length d), (12, .int .i64 L.length), (13, .int .i64 i)]) (fun i w' => i ≤ L.length ∧ L.take i = M.take i ∧ w.heap.size ≤ w'.heap.size ∧ SlR S1 w' A L.length 1 (L.map strV) ∧ SlR S2 w' B M.length 1 (M.map strV) ∧ Ch (No) w w') (fun i => L.length - i) 0 ?_ ⟨rfl, rfl, rfl, rfl, trivial⟩ ?_
    · exact ⟨(by omega), rfl, (Nat.le_refl _), s1, s2, (Ch.refl (No) w)⟩
    rintro i w1 ⟨hi, ht, hsz1, s1_1, s2_1, CH_1⟩
    show VC _ _ _ _ [(0, .slice A L.length c), (1, .slice B M.length d), (12, .int .i64 L.length), (13, .int .i64 i)] _
    refine VC.seq ?_
    refine VC.region ?_
    refine VO.mv (Rn.lss rfl rfl) rfl rfl rfl ?_
    refine VO.nil ?_
    refine VQ.then_code ?_
    refine VC.seq ?_
    refine VC.cond_if rfl (fun hc2 => ?_) (fun hc2 => ?_)
    · skip
      refine VC.skip ?_
      refine VQ.then_code ?_
      refine VC.seq ?_
      refine VC.block ?_
      refine VC.seq ?_
      refine VC.region ?_
      refine VO.mv (Rn.move rfl) rfl rfl rfl ?_
      refine VO.mv (Rn.assign rfl) rfl rfl rfl ?_
      refine VO.nil ?_
      refine VQ.then_code ?_
      refine VC.seq ?_
      obtain ⟨x, hx⟩ : ∃ x, L[i]? = some x := ⟨_, List.getElem?_eq_getElem (by omega)⟩
      obtain ⟨y, hy⟩ : ∃ y, M[i]? = some y := ⟨_, List.getElem?_eq_getElem (by omega)⟩
      refine VC.draws 9 [(0, true), (1, true), (2, true), (3, true), (4, true), (5, true), (6, true), (7, true), (8, true)] (fun w1 w' => Ch (No) w1 w') mixed (by kernel_rfl) (fun _ _ => Ch.refl _ _) ?_
      intro w2 D2
      have c2 := Ch.of_drew D2; have z2 := c2.size
      have s1_2 := s1_1.keep c2
      have s2_2 := s2_1.keep c2
      refine VH.mv (fun w' hS => Rn.move rfl) rfl rfl rfl rfl ?_
      refine VH.mv (fun w' hS => Rn.move rfl) rfl rfl rfl rfl ?_
      refine VH.mv (fun w' hS => Rn.indexS Tryz.underlying30 Tryz.sizeOf9 rfl rfl (s1_2.ne (by omega)) (by omega) (by omega)) rfl rfl rfl rfl ?_
      refine VH.mv (fun w' hS => Rn.load Tryz.isAgg9 rfl (nm_get ((s1_2).keep hS) hx)) rfl rfl rfl rfl ?_
      refine VH.mv (fun w' hS => Rn.move rfl) rfl rfl rfl rfl ?_
      refine VH.mv (fun w' hS => Rn.move rfl) rfl rfl rfl rfl ?_
      refine VH.mv (fun w' hS => Rn.indexS Tryz.underlying30 Tryz.sizeOf9 rfl rfl (s2_2.ne (by omega)) (by omega) (by omega)) rfl rfl rfl rfl ?_
      refine VH.mv (fun w' hS => Rn.load Tryz.isAgg9 rfl (nm_get ((s2_2).keep hS) hy)) rfl rfl rfl rfl ?_
      refine VH.mv (fun w' hS => Rn.nm_neq rfl rfl) rfl rfl rfl rfl ?_
      refine VH.done ?_
      refine VO.nil ?_
      refine VQ.noPanic ?_
      refine VQ.then_code ?_
      refine VC.cond_if rfl (fun hc3 => ?_) (fun hc3 => ?_)
      · skip
        refine VC.seq ?_
        refine VC.region ?_
        refine VO.mv (Rn.assign rfl) rfl rfl rfl ?_
        refine VO.nil ?_
        refine VQ.then_code ?_
        refine VC.ret ?_
        refine VQ.block_ret ?_
        refine VQ.then_ret ?_
        refine VQ.then_ret ?_
        refine VQ.block_ret ?_
        refine VQ.then_ret ?_
        refine VQ.ret1 rfl rfl ?_
        refine Ret.mk ?_
        have CH_2 := CH_1.and c2
        exact ⟨by rw [decide_eq_false (fun e => hc3 (by subst e; rw [hx] at hy; injection hy))], CH_2⟩
      · skip
        refine VC.skip ?_
        refine VQ.block_normal ?_
        refine VQ.then_code ?_
        refine VC.region ?_
        refine VO.mv (Rn.add rfl rfl (by rw [IntKind.wrap_i64]; omega)) rfl rfl rfl ?_
        refine VO.mv (Rn.move rfl) rfl rfl rfl ?_
        refine VO.nil ?_
        refine VQ.round (i + 1) (by first | omega | (dsimp only; omega)) ?_ ⟨rfl, rfl, rfl, rfl, trivial⟩
        have CH_2 := CH_1.and c2
        exact ⟨(by omega), (by rw [List.take_add_one, List.take_add_one, hx, hy, ht, Classical.not_not.1 hc3]), (by omega), s1_2, s2_2, CH_2⟩
    · skip
      refine VC.exit ?_
      refine VQ.then_exit ?_
      refine VQ.then_exit ?_
      refine VQ.block_exit ?_
      refine VQ.then_code ?_
      refine VC.seq ?_
      refine VC.region ?_
      refine VO.mv (Rn.assign rfl) rfl rfl rfl ?_
      refine VO.nil ?_
      refine VQ.then_code ?_
      refine VC.ret ?_
      refine VQ.ret1 rfl rfl ?_
      refine Ret.mk ?_
      have hil : i = L.length := by omega
      subst hil
      exact ⟨by rw [decide_eq_true (ext_take (by omega) ht)], CH_1⟩

set_option maxHeartbeats 1000000 in
set_option maxRecDepth 100000 in
theorem law_lately (U L : List Nm) (ro : Nat) (S1 S2 : Nat → Prop) (A B : Option Addr) (c d : Nat) (w : World) (su : SlR S1 w A U.length 1 (U.map strV)) (sl : SlR S2 w B L.length 1 (L.map strV)) (hU : U.length ≤ 9223372036854775807) (hL : L.length ≤ 1000000) (hr : ro ≤ 1000) (hS1 : ∀ y, S1 y → y < w.heap.size) (hS2 : ∀ y, S2 y → y < w.heap.size) :
    Calls Tryz.prog 12 #[.slice A U.length c, .slice B L.length d, .int .i64 ro] w (Ret (fun v w' => v = .bool (decide (L = lateGo ro U.reverse [])) ∧ Ch No w w')) := by
  refine calls_of_VC (args := [.slice A U.length c, .slice B L.length d, .int .i64 ro]) Tryz.func12 rfl Tryz.ntmps12 rfl ?_
  refine VC.seq ?_
  refine VC.region ?_
  refine VO.mv (Rn.assign rfl) rfl rfl rfl ?_
  refine VO.nil ?_
  refine VQ.then_code ?_
  refine VC.seq ?_
  refine VC.region ?_
  refine VO.wk (Wk.lit0 Tryz.underlying30 inf9w27) rfl rfl rfl ?_
  rintro _ w1 ⟨p1, rfl, N1⟩
  have c1 := N1.ch
  have e1 := N1.p; have z1 := N1.size
  have l12o := Ow.of_new (cs := []) (sz := 1) (l := 0) N1 rfl (by decide)
  refine VO.mv (Rn.assign rfl) rfl rfl rfl ?_
  refine VO.nil ?_
  refine VQ.then_code ?_
  refine VC.seq ?_
  refine VC.seq ?_
  refine VC.region ?_
  refine VO.mv (Rn.move rfl) rfl rfl rfl ?_
  refine VO.mv (Rn.len Tryz.underlying30 rfl) rfl rfl rfl ?_
  refine VO.mv (Rn.sub rfl rfl (by rw [IntKind.wrap_i64]; omega)) rfl rfl rfl ?_
  refine VO.mv (Rn.assign rfl) rfl rfl rfl ?_
  refine VO.nil ?_
  refine VQ.then_code ?_
  refine VC.block ?_
  have su_1 := su.keep c1
  have sl_1 := sl.keep c1
  have CH_1 := (Ch.refl (No) w).and c1
  refine VC.loopS (σ := Int × List Nm × Nat × Nat × Option Addr × Nat) (fun (i, want, wl, r, WA, wc) => [(0, .slice A U.length c), (1, .slice B L.length d), (2, .int .i64 ro), (7, .slice WA wl wc), (8, .int .i64 i)]) (fun (i, want, wl, r, WA, wc) w' => -1 ≤ i ∧ i < U.length ∧ want.length = wl ∧ wl ≤ ro ∧ lateGo ro U.reverse [] = lateGo ro (U.take (i + 1).toNat).reverse want ∧ SlR S1 w' A U.length 1 (U.map strV) ∧ SlR S2 w' B L.length 1 (L.map strV) ∧ Ow w' r 9 1 WA wl wc (want.map strV) ∧ w.heap.size < r ∧ Ch No w w') (fun (i, want, wl, r, WA, wc) => (i + 1).toNat) ((U.length : Int) - 1, [], 0, p1 + 1, some ⟨p1, 0, none⟩, 0) ?_ ⟨rfl, rfl, rfl, rfl, rfl, trivial⟩ ?_
  · exact ⟨by omega, by omega, rfl, by omega, by rw [show ((U.length : Int) - 1 + 1).toNat = U.length by omega, List.take_length], su_1, sl_1, l12o, by omega, CH_1⟩
  rintro ⟨i, want, wl, r, WA, wc⟩ w2 ⟨hi0, hi1, hwl, hwr, hgo, su_2, sl_2, row_2, hrr, CH_2⟩
  show VC _ _ _ _ [(0, .slice A U.length c), (1, .slice B L.length d), (2, .int .i64 ro), (7, .slice WA wl wc), (8, .int .i64 i)] _
  have zc := CH_2.size; have lrow := row_2.lt
  refine VC.seq ?_
  refine VC.seq ?_
  refine VC.region ?_
  refine VO.mv (Rn.move rfl) rfl rfl rfl ?_
  refine VO.mv (Rn.geq rfl rfl) rfl rfl rfl ?_
  refine VO.mv (Rn.move rfl) rfl rfl rfl ?_
  refine VO.andJoin (b := _) 5 18 23 rfl (fun hc1 Jhc1 => by
      try simp only [Bool.and_eq_true, Bool.or_eq_true, Bool.not_eq_true', Bool.not_eq_false', Bool.and_eq_false_iff, Bool.or_eq_false_iff, decide_eq_true_eq, decide_eq_false_iff_not] at hc1
      refine VO.mv (Rn.move rfl) rfl rfl rfl ?_
      refine VO.mv (Rn.len Tryz.underlying30 rfl) rfl rfl rfl ?_
      refine VO.mv (Rn.move rfl) rfl rfl rfl ?_
      refine VO.mv (Rn.lss rfl rfl) rfl rfl rfl ?_
      refine VO.mv (Rn.pick_true rfl rfl) rfl rfl rfl ?_
      exact (VO.fg rfl (VO.fg rfl (VO.fg rfl (VO.fg rfl Jhc1))))) (fun hc1 Jhc1 => by
      refine VO.skip rfl rfl rfl ?_
      refine VO.skip rfl rfl rfl ?_
      refine VO.skip rfl rfl rfl ?_
      refine VO.skip rfl rfl rfl ?_
      refine VO.mv (Rn.pick_false rfl rfl) rfl rfl rfl ?_
      exact (VO.fg rfl (VO.fg rfl (VO.fg rfl (VO.fg rfl Jhc1))))) ?_
  refine VO.nil ?_
  refine VQ.then_code ?_
  refine VC.cond rfl (fun hc2 => ?_) (fun hc2 => ?_)
  · skip
    try simp only [Bool.and_eq_true, Bool.or_eq_true, Bool.not_eq_true', Bool.not_eq_false', Bool.and_eq_false_iff, Bool.or_eq_false_iff, decide_eq_true_eq, decide_eq_false_iff_not] at hc2
    refine VC.skip ?_
    refine VQ.then_code ?_
    refine VC.seq ?_
    refine VC.block ?_
    refine VC.seq ?_
    refine VC.region ?_
    refine VO.mv (Rn.assign rfl) rfl rfl rfl ?_
    refine VO.nil ?_
    refine VQ.then_code ?_
    refine VC.seq ?_
    refine VC.seq ?_
    obtain ⟨x, hx⟩ : ∃ x, U[i.toNat]? = some x := ⟨_, List.getElem?_eq_getElem (by omega)⟩
    have hxr : (U.take (i + 1).toNat).reverse = x :: (U.take i.toNat).reverse := by rw [show (i + 1).toNat = i.toNat + 1 by omega]; exact rev_take hx
    refine VC.region ?_
    refine VO.mv (Rn.move rfl) rfl rfl rfl ?_
    refine VO.mv (Rn.len Tryz.underlying30 rfl) rfl rfl rfl ?_
    refine VO.mv (Rn.move rfl) rfl rfl rfl ?_
    refine VO.nil ?_
    refine VQ.then_code ?_
    refine VC.block ?_
    refine VC.loopS (σ := Nat × Bool) (fun (j, seen) => [(0, .slice A U.length c), (1, .slice B L.length d), (2, .int .i64 ro), (7, .slice WA wl wc), (8, .int .i64 i), (9, .bool seen), (26, .slice WA wl wc), (27, .int .i64 wl), (28, .int .i64 j)]) (fun (j, seen) w' => j ≤ wl ∧ seen = (want.take j).contains x ∧ w2.heap.size ≤ w'.heap.size ∧ SlR S1 w' A U.length 1 (U.map strV) ∧ SlR S2 w' B L.length 1 (L.map strV) ∧ Ow w' r 9 1 WA wl wc (want.map strV) ∧ Ch (No) w w') (fun (j, seen) => wl - j) (0, false) ?_ ⟨rfl, rfl, rfl, rfl, rfl, rfl, rfl, rfl, rfl, trivial⟩ ?_
    · exact ⟨(by omega), (by simp), (Nat.le_refl _), su_2, sl_2, row_2, CH_2⟩
    rintro ⟨j, seen⟩ w3 ⟨hj, hsn, hsz3, su_3, sl_3, row_3, CH_3⟩
    show VC _ _ _ _ [(0, .slice A U.length c), (1, .slice B L.length d), (2, .int .i64 ro), (7, .slice WA wl wc), (8, .int .i64 i), (9, .bool seen), (26, .slice WA wl wc), (27, .int .i64 wl), (28, .int .i64 j)] _
    refine VC.seq ?_
    refine VC.region ?_
    refine VO.mv (Rn.lss rfl rfl) rfl rfl rfl ?_
    refine VO.nil ?_
    refine VQ.then_code ?_
    refine VC.seq ?_
    refine VC.cond_if rfl (fun hc3 => ?_) (fun hc3 => ?_)
    · skip
      refine VC.skip ?_
      refine VQ.then_code ?_
      refine VC.seq ?_
      refine VC.block ?_
      refine VC.seq ?_
      obtain ⟨y, hy⟩ : ∃ y, want[j]? = some y := ⟨_, List.getElem?_eq_getElem (by omega)⟩
      refine VC.region ?_
      refine VO.mv (Rn.indexS Tryz.underlying30 Tryz.sizeOf9 rfl rfl (row_3.sl.ne (by omega)) (by omega) (by omega)) rfl rfl rfl ?_
      refine VO.mv (Rn.load Tryz.isAgg9 rfl (nm_get row_3.sl hy)) rfl rfl rfl ?_
      refine VO.mv (Rn.assign rfl) rfl rfl rfl ?_
      refine VO.nil ?_
      refine VQ.then_code ?_
      refine VC.region ?_
      refine VO.mv (Rn.move rfl) rfl rfl rfl ?_
      refine VO.mv (Rn.move rfl) rfl rfl rfl ?_
      refine VO.orJoin (b := _) 7 33 40 rfl (fun hc4 Jhc4 => by
          refine VO.skip rfl rfl rfl ?_
          refine VO.skip rfl rfl rfl ?_
          refine VO.skip rfl rfl rfl ?_
          refine VO.skip rfl rfl rfl ?_
          refine VO.skip rfl rfl rfl ?_
          refine VO.skip rfl rfl rfl ?_
          refine VO.mv (Rn.pick_true rfl rfl) rfl rfl rfl ?_
          exact (VO.fg rfl (VO.fg rfl (VO.fg rfl (VO.fg rfl (VO.fg rfl (VO.fg rfl Jhc4))))))) (fun hc4 Jhc4 => by
          try simp only [Bool.and_eq_true, Bool.or_eq_true, Bool.not_eq_true', Bool.not_eq_false', Bool.and_eq_false_iff, Bool.or_eq_false_iff, decide_eq_true_eq, decide_eq_false_iff_not] at hc4
          refine VO.mv (Rn.move rfl) rfl rfl rfl ?_
          refine VO.mv (Rn.move rfl) rfl rfl rfl ?_
          refine VO.mv (Rn.move rfl) rfl rfl rfl ?_
          refine VO.mv (Rn.indexS Tryz.underlying30 Tryz.sizeOf9 rfl rfl (su_3.ne (by omega)) (by omega) (by omega)) rfl rfl rfl ?_
          refine VO.mv (Rn.load Tryz.isAgg9 rfl (nm_get su_3 hx)) rfl rfl rfl ?_
          refine VO.mv (Rn.nm_eql rfl rfl) rfl rfl rfl ?_
          refine VO.mv (Rn.pick_false rfl rfl) rfl rfl rfl ?_
          exact (VO.fg rfl (VO.fg rfl (VO.fg rfl (VO.fg rfl (VO.fg rfl (VO.fg rfl Jhc4))))))) ?_
      refine VO.mv (Rn.assign rfl) rfl rfl rfl ?_
      refine VO.nil ?_
      refine VQ.block_normal ?_
      refine VQ.then_code ?_
      refine VC.region ?_
      refine VO.mv (Rn.add rfl rfl (by rw [IntKind.wrap_i64]; omega)) rfl rfl rfl ?_
      refine VO.mv (Rn.move rfl) rfl rfl rfl ?_
      refine VO.nil ?_
      refine VQ.round (j + 1, seen || decide (y = x)) (by (dsimp only; omega)) ?_ ⟨rfl, rfl, rfl, rfl, rfl, rfl, rfl, rfl, rfl, trivial⟩
      exact ⟨(by omega), (by rw [List.take_add_one, hy, hsn]; simp [Bool.or_comm, eq_comm]), (by omega), su_3, sl_3, row_3, CH_3⟩
    · skip
      refine VC.exit ?_
      refine VQ.then_exit ?_
      refine VQ.then_exit ?_
      refine VQ.block_exit ?_
      refine VQ.then_code ?_
      refine VC.seq ?_
      have hsn' : seen = want.contains x := by rw [hsn, List.take_of_length_le (by omega)]
      refine VC.region ?_
      refine VO.mv (Rn.move rfl) rfl rfl rfl ?_
      refine VO.mv (Rn.not rfl) rfl rfl rfl ?_
      refine VO.nil ?_
      refine VQ.then_code ?_
      refine VC.cond rfl (fun hc5 => ?_) (fun hc5 => ?_)
      · skip
        try simp only [Bool.and_eq_true, Bool.or_eq_true, Bool.not_eq_true', Bool.not_eq_false', Bool.and_eq_false_iff, Bool.or_eq_false_iff, decide_eq_true_eq, decide_eq_false_iff_not] at hc5
        refine VC.region ?_
        refine VO.mv (Rn.move rfl) rfl rfl rfl ?_
        refine VO.mv (Rn.move rfl) rfl rfl rfl ?_
        refine VO.mv (Rn.move rfl) rfl rfl rfl ?_
        refine VO.mv (Rn.indexS Tryz.underlying30 Tryz.sizeOf9 rfl rfl (su_3.ne (by omega)) (by omega) (by omega)) rfl rfl rfl ?_
        refine VO.mv (Rn.load Tryz.isAgg9 rfl (nm_get su_3 hx)) rfl rfl rfl ?_
        refine VO.wk (Wk.lit Tryz.underlying30 inf9w27 (by decide) rfl rfl (by rfl) (by decide) (by decide) (by rfl)) rfl rfl rfl ?_
        rintro _ w4 ⟨p4, rfl, N4⟩
        have c4 := N4.ch
        have e4 := N4.p; have z4 := N4.size
        have l49 := SlR.of_new (sz := 1) (l := 1) N4 rfl
        have l49o := Ow.of_new (sz := 1) (l := 1) N4 rfl (by decide)
        have row_4 := row_3.keep c4
        refine VO.wk (Wk.append (S := _) Tryz.underlying30 inf9w27 rfl (by decide) rfl rfl row_4 l49 (by rfl) (fun h => by simp at h) (by omega) (by simp only [maxLen]; omega)) rfl rfl rfl ?_
        rintro _ w5 ⟨r5, A5, k5, rfl, o5, c5, q5⟩
        have z5 := c5.size
        have y5 := o5.lt
        refine VO.mv (Rn.assign rfl) rfl rfl rfl ?_
        refine VO.nil ?_
        refine VQ.block_normal ?_
        refine VQ.then_code ?_
        refine VC.region ?_
        refine VO.mv (Rn.move rfl) rfl rfl rfl ?_
        refine VO.mv (Rn.sub rfl rfl (by rw [IntKind.wrap_i64]; omega)) rfl rfl rfl ?_
        refine VO.mv (Rn.assign rfl) rfl rfl rfl ?_
        refine VO.nil ?_
        refine VQ.round (i - 1, want ++ [x], wl + 1, r5, A5, k5) (by (dsimp only; omega)) ?_ ⟨rfl, rfl, rfl, rfl, rfl, trivial⟩
        have hcx : want.contains x = false := by rw [← hsn']; simpa using hc5
        rw [hxr, lateGo, if_pos (by omega), if_neg (by rw [hcx]; decide)] at hgo
        have su_4 := su_3.keep c4
        have su_5 := su_4.to c5 (by first | exact fun _ _ _ _ => id | (intro q h1 h2 hx h3; have := hS1 q h2; omega))
        have sl_4 := sl_3.keep c4
        have sl_5 := sl_4.to c5 (by first | exact fun _ _ _ _ => id | (intro q h1 h2 hx h3; have := hS2 q h2; omega))
        have CH_4 := CH_3.and c4
        have CH_5 : Ch (No) w w5 := CH_4.then c5 (by intro q h1 h2; rcases h2 with h2 | h2 <;> first | exact h2 | (exfalso; omega) | omega)
        refine ⟨by omega, by omega, by simp; omega, by omega, by rw [hgo]; congr 3; omega, su_5, sl_5, (o5).to' (by simp) (by simp [flat, Value.cells]), by omega, CH_5⟩
      · skip
        try simp only [Bool.and_eq_true, Bool.or_eq_true, Bool.not_eq_true', Bool.not_eq_false', Bool.and_eq_false_iff, Bool.or_eq_false_iff, decide_eq_true_eq, decide_eq_false_iff_not] at hc5
        refine VC.skip ?_
        refine VQ.block_normal ?_
        refine VQ.then_code ?_
        refine VC.region ?_
        refine VO.mv (Rn.move rfl) rfl rfl rfl ?_
        refine VO.mv (Rn.sub rfl rfl (by rw [IntKind.wrap_i64]; omega)) rfl rfl rfl ?_
        refine VO.mv (Rn.assign rfl) rfl rfl rfl ?_
        refine VO.nil ?_
        refine VQ.round (i - 1, want, wl, r, WA, wc) (by (dsimp only; omega)) ?_ ⟨rfl, rfl, rfl, rfl, rfl, trivial⟩
        have hcx : want.contains x = true := by rw [← hsn']; simpa using hc5
        rw [hxr, lateGo, if_pos (by omega), if_pos hcx] at hgo
        exact ⟨by omega, by omega, hwl, hwr, by rw [hgo]; congr 3; omega, su_3, sl_3, row_3, hrr, CH_3⟩
  · skip
    try simp only [Bool.and_eq_true, Bool.or_eq_true, Bool.not_eq_true', Bool.not_eq_false', Bool.and_eq_false_iff, Bool.or_eq_false_iff, decide_eq_true_eq, decide_eq_false_iff_not] at hc2
    refine VC.exit ?_
    refine VQ.then_exit ?_
    refine VQ.then_exit ?_
    refine VQ.block_exit ?_
    refine VQ.then_code ?_
    refine VC.seq ?_
    subst hwl
    refine VC.region ?_
    refine VO.mv (Rn.move rfl) rfl rfl rfl ?_
    refine VO.mv (Rn.move rfl) rfl rfl rfl ?_
    refine VO.wk (Wk.call Tryz.call15 rfl (sameTexts L want _ _ _ _ _ _ _ sl_2 row_2.sl (by omega) (by omega))) rfl rfl rfl ?_
    rintro _ w6 ⟨rfl, c6⟩
    have z6 := c6.size
    refine VO.mv (Rn.assign rfl) rfl rfl rfl ?_
    refine VO.nil ?_
    refine VQ.then_code ?_
    refine VC.ret ?_
    refine VQ.ret1 rfl rfl ?_
    refine Ret.mk ?_
    have CH_6 := CH_2.and c6
    exact ⟨by rw [hgo, late_end hc2], CH_6⟩

end Go.Tm
namespace Go.Tm
def chkB (n : Int) : Bool := match bestF PU 30 n with
  | some r => decide (r.1.len = n) && !(buildM r.1).full
  | none => false
theorem HasP.of_chk {n : Int} (h : chkB n = true) : HasP PU n := by
  intro r hr
  unfold chkB at h
  cases hb : bestF PU 30 n with
  | none => rw [hb] at h; cases h
  | some r' =>
    rw [hb] at h
    have : r = r' := hr.unique ⟨30, hb⟩
    subst this
    simpa using h
set_option maxRecDepth 100000 in
theorem chk24 : ((List.range 24).all fun k : Nat => chkB ((k : Int) + 1)) = true := by kernel_rfl
theorem hasP24 (n : Int) (h1 : 1 ≤ n) (h2 : n ≤ 24) : HasP PU n := by
  refine HasP.of_chk ?_
  have h := List.all_eq_true.1 chk24 (n - 1).toNat (by simp; omega)
  rwa [show (((n - 1).toNat : Nat) : Int) + 1 = n by omega] at h
end Go.Tm
namespace Go.Tm
open Go.RowKit Go.Proofs
/-- A writer in memory. -/
structure WrR (w : World) (q r : Nat) (bs : List UInt8) : Prop where
  ex : ∃ A c, Bk w q #[.slice A bs.length c] 98 ∧ Ow w r 5 1 A bs.length c (Lib.byteCells bs)
theorem WrR.to {D : Nat → Prop} {w w' : World} {q r : Nat} {bs : List UInt8} (h : WrR w q r bs) (c : Ch D w w') (hd : ∀ x, x < w.heap.size → QR q r x → x = x → ¬ D x) : WrR w' q r bs := by
  obtain ⟨A, k, h1, h2⟩ := h
  exact ⟨A, k, h1.to c (hd q h1.lt (.inl rfl) rfl), h2.to c (fun x h3 h4 h5 => hd x h3 (.inr h4) rfl)⟩
theorem WrR.keep {w w' : World} {q r : Nat} {bs : List UInt8} (h : WrR w q r bs) (c : Ch No w w') : WrR w' q r bs := h.to c fun _ _ _ _ => id
theorem WrR.lt {w : World} {q r : Nat} {bs : List UInt8} (h : WrR w q r bs) : q < w.heap.size ∧ r ≤ w.heap.size ∧ r ≠ q + 1 := by
  obtain ⟨A, k, h1, h2⟩ := h
  refine ⟨h1.lt, h2.lt, fun e => ?_⟩
  rcases h2.2 with ⟨_, _, _, h⟩ | ⟨g, cur, _, h3, h4, _⟩
  · omega
  · have : g = q := by omega
    subst this
    rw [h1.blk] at h4
    injection h4 with h4
    injection h4 with _ h5
    exact absurd h5 (by decide)
theorem byte_one (bs : List UInt8) : (Lib.byteCells bs).all Value.oneCell' = true := by
  simp [Lib.byteCells, Value.oneCell']
theorem byteCells_len (bs : List UInt8) : (Lib.byteCells bs).length = bs.length := by simp [Lib.byteCells]
def planN (N : Int) : Int := 1 + (IntKind.u64.wrap N) % 24
theorem planN_bd (N : Int) : 1 ≤ planN N ∧ planN N ≤ 24 := by unfold planN; rw [IntKind.wrap_u64]; omega
theorem Ow.nilc {w : World} {r : Nat} {e : TypeId} {sz : Nat} {A : Option Addr} {l c : Nat} {cs : List Value} (h : Ow w r e sz A l c cs) (hA : A = none) : c = 0 := by
  rcases h.2 with ⟨_, _, h, _⟩ | ⟨g, cur, h, _⟩
  · exact h
  · rw [hA] at h; cases h

set_option maxRecDepth 100000 in
theorem inf5w28 : Inf Tryz.prog 5 (.int .u8 0) 1 1 := ⟨Tryz.t5, Tryz.type5, rfl, rfl, rfl⟩
theorem build98w28 {ps : List (Nat × Value)} {cs : Array Value} (h : Instr.fill (fun i => ([(0, 1)] : List (Nat × Nat))[i]?) #[.slice none 0 0] ps = some cs) (w : World) : (Instr.build 98 ps.toArray).run Tryz.prog w = .ok (.agg cs) w := by
  simp [Instr.build, Tryz.runUnderlying98, Tryz.zeroValue98, Tryz.sizeOf46, Value.cells, h]
set_option maxRecDepth 100000 in
theorem pack_New (w : World) :
    Calls Tryz.prog 29 #[] w (Ret (fun v w' => ∃ q, v = .pointer (some ⟨q, 0, none⟩) ∧ WrR w' q 0 [] ∧ w.heap.size ≤ q ∧ Ch No w w')) := by
  refine calls_of_VC (args := []) Tryz.func29 rfl Tryz.ntmps29 rfl ?_
  refine VC.seq ?_
  refine VC.region ?_
  refine VO.mv (Rn.assign rfl) rfl rfl rfl ?_
  refine VO.nil ?_
  refine VQ.then_code ?_
  refine VC.seq ?_
  refine VC.region ?_
  refine VO.mv (Rn.build rfl (build98w28 rfl)) rfl rfl rfl ?_
  refine VO.wk (Wk.box rfl) rfl rfl rfl ?_
  rintro _ w1 ⟨p1, rfl, N1⟩
  have c1 := N1.ch
  have e1 := N1.p; have z1 := N1.size
  have b2 := Bk.new N1
  refine VO.mv (Rn.assign rfl) rfl rfl rfl ?_
  refine VO.nil ?_
  refine VQ.then_code ?_
  refine VC.ret ?_
  refine VQ.ret1 rfl rfl ?_
  refine Ret.mk ?_
  have CH_1 := (Ch.refl (No) w).and c1
  exact ⟨_, rfl, ⟨none, 0, b2, Ow.nil _ _ _⟩, by omega, CH_1⟩

set_option maxRecDepth 100000 in
theorem pack_Uint1 (q r : Nat) (bs : List UInt8) (x : Nat) (hx : x ≤ 127) (w : World) (wr : WrR w q r bs) (hl : bs.length ≤ 1000000) :
    Calls Tryz.prog 30 #[.pointer (some ⟨q, 0, none⟩), .int .u64 x] w (Ret (fun v w' => ∃ r', v = .tuple #[] ∧ WrR w' q r' (bs ++ [UInt8.ofNat x]) ∧ (r' = r ∨ w.heap.size < r') ∧ Ch (QR q r) w w')) := by
  obtain ⟨A, c, bk, row⟩ := id wr
  have lw := wr.lt; have lrow := row.lt
  refine calls_of_VC (args := [.pointer (some ⟨q, 0, none⟩), .int .u64 x]) Tryz.func30 rfl Tryz.ntmps30 rfl ?_
  refine VC.seq ?_
  refine VC.block ?_
  refine VC.loopS (σ := Unit) (fun u => [(0, .pointer (some ⟨q, 0, none⟩)), (1, .int .u64 x)]) (fun u w' => w = w') (fun u => 0) () ?_ ⟨rfl, rfl, trivial⟩ ?_
  · exact rfl
  rintro u _ rfl
  show VC _ _ _ _ [(0, .pointer (some ⟨q, 0, none⟩)), (1, .int .u64 x)] _
  refine VC.seq ?_
  refine VC.seq ?_
  refine VC.region ?_
  refine VO.mv (Rn.move rfl) rfl rfl rfl ?_
  refine VO.mv (Rn.gtr rfl rfl) rfl rfl rfl ?_
  refine VO.nil ?_
  refine VQ.then_code ?_
  refine VC.cond_if rfl (fun hc1 => ?_) (fun hc1 => ?_)
  · skip
    omega
  · skip
    refine VC.exit ?_
    refine VQ.then_exit ?_
    refine VQ.then_exit ?_
    refine VQ.block_exit ?_
    refine VQ.then_code ?_
    refine VC.region ?_
    refine VO.mv (Rn.move rfl) rfl rfl rfl ?_
    refine VO.mv (Rn.move rfl) rfl rfl rfl ?_
    refine VO.mv (Rn.nilCheck rfl) rfl rfl rfl ?_
    refine VO.mv (Rn.field Tryz.underlying98 rfl Tryz.sizeOf46 rfl rfl rfl) rfl rfl rfl ?_
    refine VO.mv (Rn.load Tryz.isAgg46 rfl (bk.cell rfl)) rfl rfl rfl ?_
    refine VO.mv (Rn.move rfl) rfl rfl rfl ?_
    refine VO.mv (Rn.conv Tryz.underlying75 Tryz.underlying5 rfl) rfl rfl rfl ?_
    refine VO.wk (Wk.lit Tryz.underlying46 inf5w28 (by decide) rfl rfl (by rfl) (by decide) (by decide) (by rfl)) rfl rfl rfl ?_
    rintro _ w1 ⟨p1, rfl, N1⟩
    have c1 := N1.ch
    have e1 := N1.p; have z1 := N1.size
    have l27 := SlR.of_new (sz := 1) (l := 1) N1 rfl
    have l27o := Ow.of_new (sz := 1) (l := 1) N1 rfl (by decide)
    have row_1 := row.keep c1
    refine VO.wk (Wk.append (S := _) Tryz.underlying46 inf5w28 rfl (by decide) rfl rfl row_1 l27 (by rfl) (fun h => by simp at h) (by omega) (by simp only [maxLen]; omega)) rfl rfl rfl ?_
    rintro _ w2 ⟨r2, A2, k2, rfl, o2, c2, q2⟩
    have z2 := c2.size
    have y2 := o2.lt
    refine VO.mv (Rn.nilCheck rfl) rfl rfl rfl ?_
    refine VO.mv (Rn.field Tryz.underlying98 rfl Tryz.sizeOf46 rfl rfl rfl) rfl rfl rfl ?_
    have bk_1 := bk.keep c1
    have bk_2 := bk_1.to c2 (by first | exact id | omega)
    refine VO.wk0 (Wk.put Tryz.sizeOf46 rfl rfl rfl rfl bk_2 rfl) rfl rfl ?_
    intro _ w3 Z3
    have c3 := Z3.ch; have z3 := Z3.size
    have bk_3 := Bk.put Z3
    refine VO.nil ?_
    refine VQ.end0 rfl ?_
    refine Ret.mk ?_
    have row_3 := o2.to c3 (by first | exact fun _ _ _ _ => id | (intro q h1 h2 hx h3; omega))
    have yr := row_3.lt
    have CH_1 := (Ch.refl (QR q r) w).and c1
    have CH_2 : Ch (QR q r) w w2 := CH_1.then c2 (by intro q h1 h2; rcases h2 with h2 | h2 <;> first | exact h2 | (exfalso; omega) | omega)
    have CH_3 : Ch (QR q r) w w3 := CH_2.then c3 (by intro q h1 h2; rcases h2 with h2 | h2 <;> first | exact h2 | (exfalso; omega) | omega)
    exact ⟨_, rfl, ⟨A2, k2, (by show Bk _ _ #[.slice _ (bs ++ [UInt8.ofNat x]).length _] _; rw [List.length_append]; exact bk_3), (row_3).to' (by simp) (by simp [flat, Value.cells, Lib.byteCells, IntKind.wrap_u8])⟩, by omega, CH_3⟩

set_option maxRecDepth 100000 in
theorem pack_Out (q r : Nat) (bs : List UInt8) (w : World) (wr : WrR w q r bs) (hl : bs.length ≤ 1000000000) :
    Calls Tryz.prog 33 #[.pointer (some ⟨q, 0, none⟩)] w (Ret (fun v w' => ∃ r' A' c', v = .slice A' bs.length c' ∧ Ow w' r' 5 1 A' bs.length c' (Lib.byteCells bs) ∧ (r' = 0 ∨ w.heap.size < r') ∧ Ch No w w')) := by
  obtain ⟨A, c, bk, row⟩ := id wr
  have lw := wr.lt; have lrow := row.lt
  refine calls_of_VC (args := [.pointer (some ⟨q, 0, none⟩)]) Tryz.func33 rfl Tryz.ntmps33 rfl ?_
  refine VC.seq ?_
  refine VC.region ?_
  refine VO.mv (Rn.assign rfl) rfl rfl rfl ?_
  refine VO.nil ?_
  refine VQ.then_code ?_
  refine VC.seq ?_
  refine VC.region ?_
  refine VO.mv (Rn.move rfl) rfl rfl rfl ?_
  refine VO.mv (Rn.nilCheck rfl) rfl rfl rfl ?_
  refine VO.mv (Rn.field Tryz.underlying98 rfl Tryz.sizeOf46 rfl rfl rfl) rfl rfl rfl ?_
  refine VO.mv (Rn.load Tryz.isAgg46 rfl (bk.cell rfl)) rfl rfl rfl ?_
  refine VO.wk (Wk.append (S := _) Tryz.underlying46 inf5w28 rfl (by decide) rfl rfl (Ow.nil _ _ _) row.sl (byte_one _) (fun _ h => row.nilc h) (by omega) (by simp only [maxLen]; omega)) rfl rfl rfl ?_
  rintro _ w1 ⟨r1, A1, k1, rfl, o1, c1, q1⟩
  have z1 := c1.size
  have y1 := o1.lt
  refine VO.mv (Rn.assign rfl) rfl rfl rfl ?_
  refine VO.nil ?_
  refine VQ.then_code ?_
  refine VC.ret ?_
  refine VQ.ret1 rfl rfl ?_
  refine Ret.mk ?_
  have yo := o1.lt
  have CH_1 : Ch (No) w w1 := (Ch.refl (No) w).then c1 (by intro q h1 h2; rcases h2 with h2 | h2 <;> first | exact h2 | (exfalso; omega) | omega)
  exact ⟨r1, A1, k1, by rw [Nat.zero_add], (o1).to' (by omega) (by simp), by omega, CH_1⟩

set_option maxRecDepth 100000 in
theorem st_Save0 (mo : Nat) (hmo : mo ≤ 64) (q mb r : Nat) (w : World) (sr : StR w q mb r 0 mo [] []) :
    Calls Tryz.prog 14 #[.pointer (some ⟨q, 0, none⟩)] w (Ret (fun v w' => ∃ r' A' c', v = .slice A' 2 c' ∧ Ow w' r' 5 1 A' 2 c' (Lib.byteCells [UInt8.ofNat mo, 0]) ∧ (r' = 0 ∨ w.heap.size < r') ∧ StR w' q mb r 0 mo [] [] ∧ Ch (QS q mb r) w w')) := by
  obtain ⟨A, c, bq, row, mp⟩ := id sr
  have ls := sr.lt; have lrow := row.lt
  refine calls_of_VCD (args := [.pointer (some ⟨q, 0, none⟩)]) Tryz.func14 rfl Tryz.ntmps14 rfl ?_
  refine VC.seq ?_
  refine VC.region ?_
  refine VO.mv (Rn.assign rfl) rfl rfl rfl ?_
  refine VO.nil ?_
  refine VQ.then_code ?_
  refine VC.seq ?_
  refine VC.region ?_
  refine VO.mv (Rn.move rfl) rfl rfl rfl ?_
  refine VO.mv (Rn.nilCheck rfl) rfl rfl rfl ?_
  refine VO.mv (Rn.field Tryz.underlying62 rfl Tryz.sizeOf60 rfl rfl rfl) rfl rfl rfl ?_
  refine VO.wk (Wk.call Tryz.call23 rfl (mutex_lock muLib bq rfl)) rfl rfl rfl ?_
  rintro _ w1 ⟨rfl, Z1⟩
  have c1 := Z1.ch
  have bq_1 := Bk.put Z1
  have z1 := c1.size
  refine VO.nil ?_
  refine VQ.then_code ?_
  refine VC.seq ?_
  refine VC.region ?_
  refine VO.mv (Rn.move rfl) rfl rfl rfl ?_
  refine VO.mv (Rn.nilCheck rfl) rfl rfl rfl ?_
  refine VO.mv (Rn.field Tryz.underlying62 rfl Tryz.sizeOf60 rfl rfl rfl) rfl rfl rfl ?_
  refine VO.defer rfl ?_
  refine VO.nil ?_
  refine VQ.then_code ?_
  refine VC.seq ?_
  refine VC.region ?_
  refine VO.wk (Wk.call Tryz.call29 rfl (pack_New _)) rfl rfl rfl ?_
  rintro _ w2 ⟨qw, rfl, wr2, yqw, c2⟩
  have lw2 := wr2.lt
  have z2 := c2.size
  refine VO.mv (Rn.assign rfl) rfl rfl rfl ?_
  refine VO.nil ?_
  refine VQ.then_code ?_
  refine VC.seq ?_
  refine VC.region ?_
  refine VO.mv (Rn.move rfl) rfl rfl rfl ?_
  refine VO.mv (Rn.move rfl) rfl rfl rfl ?_
  refine VO.mv (Rn.nilCheck rfl) rfl rfl rfl ?_
  refine VO.mv (Rn.field Tryz.underlying62 rfl Tryz.sizeOf3 rfl rfl rfl) rfl rfl rfl ?_
  have bq_2 := bq_1.keep c2
  refine VO.mv (Rn.load Tryz.isAgg3 rfl (bq_2.cell rfl)) rfl rfl rfl ?_
  refine VO.mv (Rn.conv_in Tryz.underlying3 Tryz.underlying75 rfl (by rw [IntKind.wrap_u64]; omega)) rfl rfl rfl ?_
  refine VO.wk (Wk.call Tryz.call30 rfl (pack_Uint1 _ _ [] mo (by omega) _ wr2 (by simp))) rfl rfl rfl ?_
  rintro _ w3 ⟨rw3, rfl, wr3, yw3, c3⟩
  have lw3 := wr3.lt
  have z3 := c3.size
  refine VO.nil ?_
  refine VQ.then_code ?_
  refine VC.seq ?_
  refine VC.region ?_
  refine VO.mv (Rn.move rfl) rfl rfl rfl ?_
  refine VO.mv (Rn.move rfl) rfl rfl rfl ?_
  refine VO.mv (Rn.nilCheck rfl) rfl rfl rfl ?_
  refine VO.mv (Rn.field Tryz.underlying62 rfl Tryz.sizeOf30 rfl rfl rfl) rfl rfl rfl ?_
  have bq_3 := bq_2.to c3 (by first | exact id | omega)
  refine VO.mv (Rn.load Tryz.isAgg30 rfl (bq_3.cell rfl)) rfl rfl rfl ?_
  refine VO.mv (Rn.len Tryz.underlying30 rfl) rfl rfl rfl ?_
  refine VO.mv (Rn.conv_in Tryz.underlying3 Tryz.underlying75 rfl (by rw [IntKind.wrap_u64]; simp)) rfl rfl rfl ?_
  refine VO.wk (Wk.call Tryz.call30 rfl (pack_Uint1 _ _ [UInt8.ofNat mo] 0 (by omega) _ wr3 (by simp))) rfl rfl rfl ?_
  rintro _ w4 ⟨rw4, rfl, wr4, yw4, c4⟩
  have lw4 := wr4.lt
  have z4 := c4.size
  refine VO.nil ?_
  refine VQ.then_code ?_
  refine VC.seq ?_
  refine VC.seq ?_
  refine VC.region ?_
  refine VO.mv (Rn.move rfl) rfl rfl rfl ?_
  refine VO.mv (Rn.nilCheck rfl) rfl rfl rfl ?_
  refine VO.mv (Rn.field Tryz.underlying62 rfl Tryz.sizeOf30 rfl rfl rfl) rfl rfl rfl ?_
  have bq_4 := bq_3.to c4 (by first | exact id | omega)
  refine VO.mv (Rn.load Tryz.isAgg30 rfl (bq_4.cell rfl)) rfl rfl rfl ?_
  refine VO.mv (Rn.len Tryz.underlying30 rfl) rfl rfl rfl ?_
  refine VO.mv (Rn.move rfl) rfl rfl rfl ?_
  refine VO.nil ?_
  refine VQ.then_code ?_
  refine VC.block ?_
  refine VC.loopS (σ := Unit) (fun u => [(0, .pointer (some ⟨q, 0, none⟩)), (3, .pointer (some ⟨qw, 0, none⟩)), (33, .int .i64 0), (34, .int .i64 0)]) (fun u w' => w4 = w') (fun u => 0) () ?_ ⟨rfl, rfl, rfl, rfl, trivial⟩ ?_
  · exact rfl
  rintro u _ rfl
  show VC _ _ _ _ [(0, .pointer (some ⟨q, 0, none⟩)), (3, .pointer (some ⟨qw, 0, none⟩)), (33, .int .i64 0), (34, .int .i64 0)] _
  refine VC.seq ?_
  refine VC.region ?_
  refine VO.mv (Rn.lss rfl rfl) rfl rfl rfl ?_
  refine VO.nil ?_
  refine VQ.then_code ?_
  refine VC.seq ?_
  refine VC.cond_if rfl (fun hc1 => ?_) (fun hc1 => ?_)
  · skip
    omega
  · skip
    refine VC.exit ?_
    refine VQ.then_exit ?_
    refine VQ.then_exit ?_
    refine VQ.block_exit ?_
    refine VQ.then_code ?_
    refine VC.seq ?_
    refine VC.region ?_
    refine VO.mv (Rn.move rfl) rfl rfl rfl ?_
    refine VO.wk (Wk.call Tryz.call33 rfl (pack_Out _ _ ([UInt8.ofNat mo] ++ [UInt8.ofNat 0]) _ wr4 (by simp))) rfl rfl rfl ?_
    rintro _ w5 ⟨ro5, oA5, oc5, rfl, out5, yo5, c5⟩
    have lo5 := out5.lt
    have z5 := c5.size
    refine VO.mv (Rn.assign rfl) rfl rfl rfl ?_
    refine VO.nil ?_
    refine VQ.then_code ?_
    refine VC.ret ?_
    have bq_5 := bq_4.keep c5
    refine VQ.unlockD muLib bq_5 rfl ?_
    intro w6 Z6
    have c6 := Z6.ch; have z6 := Z6.size
    have bq_6 := Bk.put Z6
    refine VQ.toD ?_
    refine VQ.ret1 rfl rfl ?_
    refine Ret.mk ?_
    have out_6 := out5.to c6 (by first | exact fun _ _ _ _ => id | (intro q h1 h2 hx h3; omega))
    have row_1 := row.to c1 (by first | exact fun _ _ _ _ => id | (intro q h1 h2 hx h3; omega))
    have row_2 := row_1.keep c2
    have row_3 := row_2.to c3 (by first | exact fun _ _ _ _ => id | (intro q h1 h2 hx h3; omega))
    have row_4 := row_3.to c4 (by first | exact fun _ _ _ _ => id | (intro q h1 h2 hx h3; omega))
    have row_5 := row_4.keep c5
    have row_6 := row_5.to c6 (by first | exact fun _ _ _ _ => id | (intro q h1 h2 hx h3; omega))
    have mp_1 := mp.to c1 (by first | exact id | omega)
    have mp_2 := mp_1.keep c2
    have mp_3 := mp_2.to c3 (by first | exact id | omega)
    have mp_4 := mp_3.to c4 (by first | exact id | omega)
    have mp_5 := mp_4.keep c5
    have mp_6 := mp_5.to c6 (by first | exact id | omega)
    have CH_1 : Ch (QS q mb r) w w1 := (Ch.refl (QS q mb r) w).then c1 (by intro q h1 h2; rcases h2 with h2 | h2 <;> first | exact h2 | (exfalso; omega) | omega)
    have CH_2 := CH_1.and c2
    have CH_3 : Ch (QS q mb r) w w3 := CH_2.then c3 (by intro q h1 h2; rcases h2 with h2 | h2 <;> first | exact h2 | (exfalso; omega) | omega)
    have CH_4 : Ch (QS q mb r) w w4 := CH_3.then c4 (by intro q h1 h2; rcases h2 with h2 | h2 <;> first | exact h2 | (exfalso; omega) | omega)
    have CH_5 := CH_4.and c5
    have CH_6 : Ch (QS q mb r) w w6 := CH_5.then c6 (by intro q h1 h2; rcases h2 with h2 | h2 <;> first | exact h2 | (exfalso; omega) | omega)
    exact ⟨_, _, _, rfl, out_6, by omega, ⟨_, _, bq_6, row_6, mp_6⟩, CH_6⟩

set_option maxRecDepth 100000 in
theorem planOf0 (kd N : Int) (nm : Nm) (w : World) (st : StT w) (tab : TabB w.heap.size w) (hG : 23 ≤ w.heap.size) :
    Calls Tryz.prog 7 #[.agg #[.int .i64 kd, strV nm, .int .i64 N, .int .i64 0]] w (Ret (fun v w' => ∃ p r, v = .pointer (some ⟨p, 0, none⟩) ∧ Best PU (planN N) r ∧ PlnR w.heap.size w'.heap.size w' p (plnM r.1) ∧ Ch No w w')) := by
  have hpn := planN_bd N
  have hu0 : 0 ≤ IntKind.u64.wrap N := by rw [IntKind.wrap_u64]; omega
  refine calls_of_VC (args := [.agg #[.int .i64 kd, strV nm, .int .i64 N, .int .i64 0]]) Tryz.func7 rfl Tryz.ntmps7 rfl ?_
  refine VC.seq ?_
  refine VC.region ?_
  refine VO.wk (Wk.box rfl) rfl rfl rfl ?_
  rintro _ w1 ⟨p1, rfl, N1⟩
  have c1 := N1.ch
  have e1 := N1.p; have z1 := N1.size
  have b1 := Bk.new N1
  refine VO.mv (Rn.assign rfl) rfl rfl rfl ?_
  refine VO.nil ?_
  refine VQ.then_code ?_
  refine VC.seq ?_
  refine VC.region ?_
  refine VO.mv (Rn.field Tryz.underlying32 rfl Tryz.sizeOf3 rfl rfl rfl) rfl rfl rfl ?_
  refine VO.mv (Rn.load Tryz.isAgg3 rfl (b1.cell rfl)) rfl rfl rfl ?_
  refine VO.mv (Rn.conv Tryz.underlying3 Tryz.underlying24 rfl) rfl rfl rfl ?_
  refine VO.mv (Rn.rem0 rfl rfl hu0 (by omega)) rfl rfl rfl ?_
  refine VO.mv (Rn.conv_in Tryz.underlying75 Tryz.underlying3 rfl (by rw [IntKind.wrap_i64]; omega)) rfl rfl rfl ?_
  refine VO.mv (Rn.add rfl rfl (by rw [IntKind.wrap_i64]; omega)) rfl rfl rfl ?_
  have st_1 := st.keep c1
  have tab_1 := tab.keep c1
  refine VO.wk (Wk.call Tryz.call19 rfl (plan_New (planN N) (by omega) (by omega) (hasP24 _ (by omega) (by omega)) _ st_1 ((tab_1).up (by omega)) (by omega))) rfl rfl rfl ?_
  rintro _ w2 ⟨p2, rr2, rfl, hr2, pl2, c2⟩
  have z2 := c2.size
  refine VO.mv (Rn.move rfl) rfl rfl rfl ?_
  refine VO.mv (Rn.extract rfl rfl) rfl rfl rfl ?_
  refine VO.mv (Rn.extract rfl rfl) rfl rfl rfl ?_
  refine VO.mv (Rn.assign rfl) rfl rfl rfl ?_
  refine VO.mv (Rn.assign rfl) rfl rfl rfl ?_
  refine VO.nil ?_
  refine VQ.then_code ?_
  refine VC.seq ?_
  refine VC.seq ?_
  refine VC.region ?_
  refine VO.mv (Rn.move rfl) rfl rfl rfl ?_
  refine VO.mv (Rn.nil_neq_nil Tryz.underlying27 rfl) rfl rfl rfl ?_
  refine VO.mv (Rn.move rfl) rfl rfl rfl ?_
  refine VO.mv (Rn.move rfl) rfl rfl rfl ?_
  refine VO.mv (Rn.ptr_eql_nil Tryz.underlying33 rfl) rfl rfl rfl ?_
  refine VO.mv (Rn.pick_false rfl rfl) rfl rfl rfl ?_
  refine VO.nil ?_
  refine VQ.then_code ?_
  refine VC.cond_false rfl ?_
  refine VC.skip ?_
  refine VQ.then_code ?_
  refine VC.seq ?_
  refine VC.seq ?_
  refine VC.region ?_
  refine VO.mv (Rn.field Tryz.underlying32 rfl Tryz.sizeOf3 rfl rfl rfl) rfl rfl rfl ?_
  have b1_2 := b1.keep c2
  refine VO.mv (Rn.load Tryz.isAgg3 rfl (b1_2.cell rfl)) rfl rfl rfl ?_
  refine VO.mv (Rn.rem0 rfl rfl (by omega) (by omega)) rfl rfl rfl ?_
  refine VO.mv (Rn.eql rfl rfl) rfl rfl rfl ?_
  refine VO.nil ?_
  refine VQ.then_code ?_
  refine VC.cond_if rfl (fun hc1 => ?_) (fun hc1 => ?_)
  · skip
    refine VC.seq ?_
    refine VC.region ?_
    refine VO.mv (Rn.move rfl) rfl rfl rfl ?_
    refine VO.mv (Rn.assign rfl) rfl rfl rfl ?_
    refine VO.nil ?_
    refine VQ.then_code ?_
    refine VC.ret ?_
    refine VQ.then_ret ?_
    refine VQ.ret1 rfl rfl ?_
    refine Ret.mk ?_
    have CH_2 := (Ch.refl (No) w).and (c1.trans c2)
    have zz := CH_2.size
    exact ⟨_, _, rfl, hr2, (pl2).weak (by omega) (by omega), CH_2⟩
  · skip
    exact absurd rfl hc1

end Go.Tm
namespace Go.Tm
open Go.RowKit Go.Proofs
section
variable {P : Program} {n : Fr} {k : K} {w : World} {d : Option Tmp} {ty : TypeId} {pos : String} {aft : Array Edge} {g : Option (Nat × Bool)} {t t' : TypeId} {x y : Operand} {q : IntKind} {a b : Int}
theorem Rn.eqlT (hx : ev k x = some (.int q a)) (hy : ev k y = some (.int q b)) (h : a = b) : Rn P n k w { dst := d, op := .binOp .eql t x y t', type := ty, pos := pos, after := aft, guard := g } (.bool true) := by
  have := Rn.eql (P := P) (n := n) (w := w) (d := d) (ty := ty) (pos := pos) (aft := aft) (g := g) (t := t) (t' := t') hx hy
  rwa [decide_eq_true h] at this
theorem Rn.neqF (hx : ev k x = some (.int q a)) (hy : ev k y = some (.int q b)) (h : a = b) : Rn P n k w { dst := d, op := .binOp .neq t x y t', type := ty, pos := pos, after := aft, guard := g } (.bool false) := by
  have := Rn.neq (P := P) (n := n) (w := w) (d := d) (ty := ty) (pos := pos) (aft := aft) (g := g) (t := t) (t' := t') hx hy
  rwa [decide_eq_false (fun h' => h' h)] at this
theorem Rn.str_neqF {s u : ByteArray} (hx : ev k x = some (.string s)) (hy : ev k y = some (.string u)) (h : s = u) : Rn P n k w { dst := d, op := .binOp .neq t x y t', type := ty, pos := pos, after := aft, guard := g } (.bool false) := by
  have := Rn.str_neq (P := P) (n := n) (w := w) (d := d) (ty := ty) (pos := pos) (aft := aft) (g := g) (t := t) (t' := t') hx hy
  subst h
  simpa using this
theorem Rn.nm_eqlT {s u : List UInt8} (hx : ev k x = some (strV s)) (hy : ev k y = some (strV u)) (h : s = u) : Rn P n k w { dst := d, op := .binOp .eql t x y t', type := ty, pos := pos, after := aft, guard := g } (.bool true) := by
  have := Rn.nm_eql (P := P) (n := n) (w := w) (d := d) (ty := ty) (pos := pos) (aft := aft) (g := g) (t := t) (t' := t') hx hy
  rwa [decide_eq_true h] at this
end

theorem bld32_2w29 {v2 : Value} (h : [v2].all Value.oneCell' = true) (w : World) : (Instr.build 32 ([(2, v2)] : List (Nat × Value)).toArray).run Tryz.prog w = .ok (.agg #[.int .i64 0, .string ⟨#[]⟩, v2, .int .i64 0]) w := by
  simp only [List.all_cons, Bool.and_eq_true, List.all_nil, and_true] at h
  have hv2 := oneCell_cells (v := v2) (by simp_all)
  have h1 := fill_set (fun i => ([(0, 1), (1, 1), (2, 1), (3, 1)] : List (Nat × Nat))[i]?) [(2, v2)] [.int .i64 0, .string ⟨#[]⟩, .int .i64 0, .int .i64 0] (by simp [okF, agg_cells, hv2, Nat.beq, Nat.ble])
  simp [setF, agg_cells, hv2] at h1
  simp [Instr.build, Tryz.runUnderlying32, Tryz.zeroValue32, Tryz.sizeOf3, Tryz.sizeOf9, agg_cells, h1]
set_option maxHeartbeats 2000000 in
set_option maxRecDepth 100000 in
theorem law_lives (B : Nat) (E : Nat → Addr) (w : World) (er : ErrT B E w) (hB : B ≤ w.heap.size) (st : StT w) (tab : TabB w.heap.size w) :
    Calls Tryz.prog 5 #[] w (Ret (fun v w' => v = .bool true ∧ Ch No w w')) := by
  have hgn := er.gn
  refine calls_of_VC (args := []) Tryz.func5 rfl Tryz.ntmps5 rfl ?_
  refine VC.seq ?_
  refine VC.region ?_
  refine VO.mv (Rn.assign rfl) rfl rfl rfl ?_
  refine VO.nil ?_
  refine VQ.then_code ?_
  refine VC.seq ?_
  refine VC.region ?_
  refine VO.wk (Wk.call Tryz.call6 rfl (store_New E 2 (by omega) (by omega) _)) rfl rfl rfl ?_
  rintro _ w1 ⟨q1, mb1, rfl, sr1, ymb1, yq1, c1⟩
  have ls1 := sr1.lt
  have z1 := c1.size
  refine VO.mv (Rn.move rfl) rfl rfl rfl ?_
  refine VO.mv (Rn.extract rfl rfl) rfl rfl rfl ?_
  refine VO.mv (Rn.extract rfl rfl) rfl rfl rfl ?_
  refine VO.mv (Rn.assign rfl) rfl rfl rfl ?_
  refine VO.mv (Rn.assign rfl) rfl rfl rfl ?_
  refine VO.nil ?_
  refine VQ.then_code ?_
  refine VC.seq ?_
  refine VC.region ?_
  refine VO.mv (Rn.build rfl (bld32_2w29 rfl)) rfl rfl rfl ?_
  have st_1 := st.keep c1
  have tab_1 := tab.keep c1
  refine VO.wk (Wk.call Tryz.call7 rfl (planOf0 0 3 [] _ st_1 ((tab_1).up (by omega)) (by omega))) rfl rfl rfl ?_
  rintro _ w2 ⟨p2, rp2, rfl, hr2, pl2, c2⟩
  have z2 := c2.size
  refine VO.mv (Rn.assign rfl) rfl rfl rfl ?_
  refine VO.nil ?_
  refine VQ.then_code ?_
  refine VC.seq ?_
  refine VC.seq ?_
  refine VC.region ?_
  refine VO.mv (Rn.move rfl) rfl rfl rfl ?_
  refine VO.mv (Rn.nil_neq_nil Tryz.underlying27 rfl) rfl rfl rfl ?_
  refine VO.mv (Rn.move rfl) rfl rfl rfl ?_
  refine VO.mv (Rn.move rfl) rfl rfl rfl ?_
  refine VO.mv (Rn.ptr_eql_nil Tryz.underlying25 rfl) rfl rfl rfl ?_
  refine VO.mv (Rn.pick_false rfl rfl) rfl rfl rfl ?_
  refine VO.mv (Rn.move rfl) rfl rfl rfl ?_
  refine VO.mv (Rn.move rfl) rfl rfl rfl ?_
  refine VO.mv (Rn.ptr_eql_nil Tryz.underlying33 rfl) rfl rfl rfl ?_
  refine VO.mv (Rn.pick_false rfl rfl) rfl rfl rfl ?_
  refine VO.mv (Rn.move rfl) rfl rfl rfl ?_
  refine VO.mv (Rn.move rfl) rfl rfl rfl ?_
  refine VO.mv (Rn.move rfl) rfl rfl rfl ?_
  have sr_2 := sr1.keep c2
  refine VO.wk (Wk.call Tryz.call8 rfl (st_Keep E p2 2 q1 mb1 0 [] [] [97] _ sr_2 (by decide) (by decide))) rfl rfl rfl ?_
  rintro _ w3 ⟨r3, rfl, sr3, yr3, c3⟩
  have ls3 := sr3.lt
  rw [show keepL 2 [97] [] = [[97]] from by decide, show keepM 2 [97] (.pointer (some ⟨p2, 0, none⟩)) [] [] = [([97], (.pointer (some ⟨p2, 0, none⟩)))] from rfl] at sr3
  have z3 := c3.size
  refine VO.mv (Rn.nil_neq_nil Tryz.underlying27 rfl) rfl rfl rfl ?_
  refine VO.mv (Rn.pick_false rfl rfl) rfl rfl rfl ?_
  refine VO.mv (Rn.move rfl) rfl rfl rfl ?_
  refine VO.mv (Rn.move rfl) rfl rfl rfl ?_
  refine VO.mv (Rn.move rfl) rfl rfl rfl ?_
  refine VO.wk (Wk.call Tryz.call8 rfl (st_Keep E p2 2 q1 mb1 r3 [[97]] [([97], (.pointer (some ⟨p2, 0, none⟩)))] [98] _ sr3 (by decide) (by decide))) rfl rfl rfl ?_
  rintro _ w4 ⟨r4, rfl, sr4, yr4, c4⟩
  have ls4 := sr4.lt
  rw [show keepL 2 [98] [[97]] = [[98], [97]] from by decide, show keepM 2 [98] (.pointer (some ⟨p2, 0, none⟩)) [[97]] [([97], (.pointer (some ⟨p2, 0, none⟩)))] = [([97], (.pointer (some ⟨p2, 0, none⟩))), ([98], (.pointer (some ⟨p2, 0, none⟩)))] from rfl] at sr4
  have z4 := c4.size
  refine VO.mv (Rn.nil_neq_nil Tryz.underlying27 rfl) rfl rfl rfl ?_
  refine VO.mv (Rn.pick_false rfl rfl) rfl rfl rfl ?_
  refine VO.nil ?_
  refine VQ.then_code ?_
  refine VC.cond_false rfl ?_
  refine VC.skip ?_
  refine VQ.then_code ?_
  refine VC.seq ?_
  refine VC.region ?_
  refine VO.mv (Rn.move rfl) rfl rfl rfl ?_
  refine VO.wk (Wk.call Tryz.call9 rfl (st_Get (.pointer (some ⟨p2, 0, none⟩)) 2 q1 mb1 r4 [[98], [97]] [([97], (.pointer (some ⟨p2, 0, none⟩))), ([98], (.pointer (some ⟨p2, 0, none⟩)))] [97] _ sr4 (by decide) rfl)) rfl rfl rfl ?_
  rintro _ w5 ⟨r5, rfl, sr5, yr5, c5⟩
  have ls5 := sr5.lt
  rw [show [97] :: without [97] [[98], [97]] = [[97], [98]] from by decide] at sr5
  have z5 := c5.size
  refine VO.mv (Rn.move rfl) rfl rfl rfl ?_
  refine VO.mv (Rn.extract rfl rfl) rfl rfl rfl ?_
  refine VO.mv (Rn.extract rfl rfl) rfl rfl rfl ?_
  refine VO.mv (Rn.assign rfl) rfl rfl rfl ?_
  refine VO.mv (Rn.assign rfl) rfl rfl rfl ?_
  refine VO.nil ?_
  refine VQ.then_code ?_
  refine VC.seq ?_
  refine VC.seq ?_
  refine VC.region ?_
  refine VO.mv (Rn.move rfl) rfl rfl rfl ?_
  refine VO.mv (Rn.nil_neq_nil Tryz.underlying27 rfl) rfl rfl rfl ?_
  refine VO.mv (Rn.move rfl) rfl rfl rfl ?_
  refine VO.mv (Rn.move rfl) rfl rfl rfl ?_
  refine VO.mv (Rn.ptr_eql_nil Tryz.underlying33 rfl) rfl rfl rfl ?_
  refine VO.mv (Rn.pick_false rfl rfl) rfl rfl rfl ?_
  refine VO.mv (Rn.move rfl) rfl rfl rfl ?_
  refine VO.mv (Rn.move rfl) rfl rfl rfl ?_
  have pl_3 := pl2.to c3 (by first | exact fun _ _ _ _ => id | (intro q h1 h2 hx h3; omega))
  have pl_4 := pl_3.to c4 (by first | exact fun _ _ _ _ => id | (intro q h1 h2 hx h3; omega))
  have pl_5 := pl_4.to c5 (by first | exact fun _ _ _ _ => id | (intro q h1 h2 hx h3; omega))
  refine VO.wk (Wk.call Tryz.call17 rfl (plan_Text _ _ _ _ _ pl_5 (by omega))) rfl rfl rfl ?_
  rintro _ _ ⟨rfl, rfl⟩
  refine VO.mv (Rn.move rfl) rfl rfl rfl ?_
  refine VO.wk (Wk.call Tryz.call17 rfl (plan_Text _ _ _ _ _ pl_5 (by omega))) rfl rfl rfl ?_
  rintro _ _ ⟨rfl, rfl⟩
  refine VO.mv (Rn.str_neqF rfl rfl rfl) rfl rfl rfl ?_
  refine VO.mv (Rn.pick_false rfl rfl) rfl rfl rfl ?_
  refine VO.mv (Rn.move rfl) rfl rfl rfl ?_
  refine VO.mv (Rn.move rfl) rfl rfl rfl ?_
  refine VO.mv (Rn.move rfl) rfl rfl rfl ?_
  refine VO.wk (Wk.call Tryz.call8 rfl (st_Keep E p2 2 q1 mb1 r5 [[97], [98]] [([97], (.pointer (some ⟨p2, 0, none⟩))), ([98], (.pointer (some ⟨p2, 0, none⟩)))] [99] _ sr5 (by decide) (by decide))) rfl rfl rfl ?_
  rintro _ w6 ⟨r6, rfl, sr6, yr6, c6⟩
  have ls6 := sr6.lt
  rw [show keepL 2 [99] [[97], [98]] = [[99], [97]] from by decide, show keepM 2 [99] (.pointer (some ⟨p2, 0, none⟩)) [[97], [98]] [([97], (.pointer (some ⟨p2, 0, none⟩))), ([98], (.pointer (some ⟨p2, 0, none⟩)))] = [([97], (.pointer (some ⟨p2, 0, none⟩))), ([99], (.pointer (some ⟨p2, 0, none⟩)))] from rfl] at sr6
  have z6 := c6.size
  refine VO.mv (Rn.nil_neq_nil Tryz.underlying27 rfl) rfl rfl rfl ?_
  refine VO.mv (Rn.pick_false rfl rfl) rfl rfl rfl ?_
  refine VO.mv (Rn.move rfl) rfl rfl rfl ?_
  refine VO.mv (Rn.move rfl) rfl rfl rfl ?_
  refine VO.wk (Wk.call Tryz.call11 rfl (st_Len 2 q1 mb1 r6 [[99], [97]] [([97], (.pointer (some ⟨p2, 0, none⟩))), ([99], (.pointer (some ⟨p2, 0, none⟩)))] _ sr6 (by decide))) rfl rfl rfl ?_
  rintro _ w7 ⟨rfl, sr7, c7⟩
  have z7 := c7.size
  refine VO.mv (Rn.neqF rfl rfl rfl) rfl rfl rfl ?_
  refine VO.mv (Rn.pick_false rfl rfl) rfl rfl rfl ?_
  refine VO.mv (Rn.move rfl) rfl rfl rfl ?_
  refine VO.mv (Rn.move rfl) rfl rfl rfl ?_
  refine VO.wk (Wk.call Tryz.call13 rfl (st_Names 2 q1 mb1 r6 [[99], [97]] [([97], (.pointer (some ⟨p2, 0, none⟩))), ([99], (.pointer (some ⟨p2, 0, none⟩)))] _ sr7 (by decide))) rfl rfl rfl ?_
  rintro _ w8 ⟨pn, rcn, nA, nC, rfl, _, _, _, _, _, sr8, c8⟩
  have z8 := c8.size
  refine VO.mv (Rn.func_eql_nil Tryz.underlying44 rfl) rfl rfl rfl ?_
  refine VO.mv (Rn.pick_false rfl rfl) rfl rfl rfl ?_
  refine VO.nil ?_
  refine VQ.then_code ?_
  refine VC.cond_false rfl ?_
  refine VC.skip ?_
  refine VQ.then_code ?_
  refine VC.seq ?_
  refine VC.region ?_
  refine VO.mv (Rn.move rfl) rfl rfl rfl ?_
  have er_2 := er.keep (c1.trans c2)
  have er_3 := er_2.to c3 (by first | exact fun _ _ _ _ => id | (intro q h1 h2 hx h3; omega))
  have er_4 := er_3.to c4 (by first | exact fun _ _ _ _ => id | (intro q h1 h2 hx h3; omega))
  have er_5 := er_4.to c5 (by first | exact fun _ _ _ _ => id | (intro q h1 h2 hx h3; omega))
  have er_6 := er_5.to c6 (by first | exact fun _ _ _ _ => id | (intro q h1 h2 hx h3; omega))
  have er_7 := er_6.to c7 (by first | exact fun _ _ _ _ => id | (intro q h1 h2 hx h3; omega))
  have er_8 := er_7.to c8 (by first | exact fun _ _ _ _ => id | (intro q h1 h2 hx h3; omega))
  refine VO.wk (Wk.call Tryz.call9 rfl (st_Get_miss E 2 q1 mb1 r6 [[99], [97]] [([97], (.pointer (some ⟨p2, 0, none⟩))), ([99], (.pointer (some ⟨p2, 0, none⟩)))] [98] _ sr8 (by decide) B er_8 (by omega) rfl)) rfl rfl rfl ?_
  rintro _ w9 ⟨rfl, sr9, c9⟩
  have z9 := c9.size
  refine VO.mv (Rn.move rfl) rfl rfl rfl ?_
  refine VO.mv (Rn.extract rfl rfl) rfl rfl rfl ?_
  refine VO.mv (Rn.extract rfl rfl) rfl rfl rfl ?_
  refine VO.mv (Rn.assign rfl) rfl rfl rfl ?_
  refine VO.nil ?_
  refine VQ.then_code ?_
  refine VC.seq ?_
  refine VC.region ?_
  refine VO.wk (Wk.call Tryz.call6 rfl (store_New E 2 (by omega) (by omega) _)) rfl rfl rfl ?_
  rintro _ w10 ⟨q10, mb10, rfl, sr10, ymb10, yq10, c10⟩
  have ls10 := sr10.lt
  have z10 := c10.size
  refine VO.mv (Rn.move rfl) rfl rfl rfl ?_
  refine VO.mv (Rn.extract rfl rfl) rfl rfl rfl ?_
  refine VO.mv (Rn.extract rfl rfl) rfl rfl rfl ?_
  refine VO.mv (Rn.assign rfl) rfl rfl rfl ?_
  refine VO.mv (Rn.assign rfl) rfl rfl rfl ?_
  refine VO.nil ?_
  refine VQ.then_code ?_
  refine VC.seq ?_
  refine VC.region ?_
  refine VO.mv (Rn.move rfl) rfl rfl rfl ?_
  have er_9 := er_8.to c9 (by first | exact fun _ _ _ _ => id | (intro q h1 h2 hx h3; omega))
  have er_10 := er_9.keep c10
  refine VO.wk (Wk.call Tryz.call18 rfl (num_err B E 2 15 rfl (by decide) _ er_10)) rfl rfl rfl ?_
  rintro _ w11 ⟨rfl, c11⟩
  have z11 := c11.size
  refine VO.mv (Rn.eqlT rfl rfl rfl) rfl rfl rfl ?_
  refine VO.mv (Rn.move rfl) rfl rfl rfl ?_
  refine VO.mv (Rn.move rfl) rfl rfl rfl ?_
  refine VO.mv (Rn.nil_eql_nil Tryz.underlying27 rfl) rfl rfl rfl ?_
  refine VO.mv (Rn.pick_true rfl rfl) rfl rfl rfl ?_
  refine VO.mv (Rn.move rfl) rfl rfl rfl ?_
  refine VO.mv (Rn.move rfl) rfl rfl rfl ?_
  refine VO.mv (Rn.ptr_neq_nil Tryz.underlying25 rfl) rfl rfl rfl ?_
  refine VO.mv (Rn.pick_true rfl rfl) rfl rfl rfl ?_
  refine VO.mv (Rn.move rfl) rfl rfl rfl ?_
  refine VO.mv (Rn.move rfl) rfl rfl rfl ?_
  have se_11 := sr10.keep c11
  refine VO.wk (Wk.call Tryz.call14 rfl (st_Save0 2 (by omega) _ _ _ _ se_11)) rfl rfl rfl ?_
  rintro _ w12 ⟨rs, sA, sC, rfl, sv, ysv, _, c12⟩
  have z12 := c12.size
  refine VO.mv (Rn.bytes_string Tryz.underlying46 Tryz.underlying5 Tryz.underlying9 rfl (by decide) sv.sl) rfl rfl rfl ?_
  refine VO.mv (Rn.nm_eqlT rfl rfl (by decide)) rfl rfl rfl ?_
  refine VO.mv (Rn.pick_true rfl rfl) rfl rfl rfl ?_
  refine VO.mv (Rn.move rfl) rfl rfl rfl ?_
  refine VO.mv (Rn.move rfl) rfl rfl rfl ?_
  have sr_11 := sr9.keep (c10.trans c11)
  have sr_12 := sr_11.to c12 (by first | exact fun _ _ _ _ => id | (intro q h1 h2 hx h3; omega))
  refine VO.wk (Wk.call Tryz.call16 rfl (st_Drop (.pointer (some ⟨p2, 0, none⟩)) 2 q1 mb1 r6 [[99], [97]] [([97], (.pointer (some ⟨p2, 0, none⟩))), ([99], (.pointer (some ⟨p2, 0, none⟩)))] [97] _ sr_12 (by decide) rfl)) rfl rfl rfl ?_
  rintro _ w13 ⟨rfl, sr13, c13⟩
  rw [show without [97] [[99], [97]] = [[99]] from by decide] at sr13
  have sr13 : StR _ q1 mb1 r6 0 2 [[99]] [([99], (.pointer (some ⟨p2, 0, none⟩)))] := sr13
  have z13 := c13.size
  refine VO.mv (Rn.pick_true rfl rfl) rfl rfl rfl ?_
  refine VO.mv (Rn.move rfl) rfl rfl rfl ?_
  refine VO.mv (Rn.move rfl) rfl rfl rfl ?_
  refine VO.wk (Wk.call Tryz.call16 rfl (st_Drop_miss 2 q1 mb1 r6 [[99]] [([99], (.pointer (some ⟨p2, 0, none⟩)))] [97] _ sr13 (by decide) rfl)) rfl rfl rfl ?_
  rintro _ w14 ⟨rfl, sr14, c14⟩
  have z14 := c14.size
  refine VO.mv (Rn.not rfl) rfl rfl rfl ?_
  refine VO.mv (Rn.pick_true rfl rfl) rfl rfl rfl ?_
  refine VO.mv (Rn.assign rfl) rfl rfl rfl ?_
  refine VO.nil ?_
  refine VQ.then_code ?_
  refine VC.ret ?_
  refine VQ.ret1 rfl rfl ?_
  refine Ret.mk ?_
  have CH_2 := (Ch.refl (No) w).and (c1.trans c2)
  have CH_3 : Ch (No) w w3 := CH_2.then c3 (by intro q h1 h2; rcases h2 with h2 | h2 <;> first | exact h2 | (exfalso; omega) | omega)
  have CH_4 : Ch (No) w w4 := CH_3.then c4 (by intro q h1 h2; rcases h2 with h2 | h2 <;> first | exact h2 | (exfalso; omega) | omega)
  have CH_5 : Ch (No) w w5 := CH_4.then c5 (by intro q h1 h2; rcases h2 with h2 | h2 <;> first | exact h2 | (exfalso; omega) | omega)
  have CH_6 : Ch (No) w w6 := CH_5.then c6 (by intro q h1 h2; rcases h2 with h2 | h2 <;> first | exact h2 | (exfalso; omega) | omega)
  have CH_7 : Ch (No) w w7 := CH_6.then c7 (by intro q h1 h2; rcases h2 with h2 | h2 <;> first | exact h2 | (exfalso; omega) | omega)
  have CH_8 : Ch (No) w w8 := CH_7.then c8 (by intro q h1 h2; rcases h2 with h2 | h2 <;> first | exact h2 | (exfalso; omega) | omega)
  have CH_9 : Ch (No) w w9 := CH_8.then c9 (by intro q h1 h2; rcases h2 with h2 | h2 <;> first | exact h2 | (exfalso; omega) | omega)
  have CH_11 := CH_9.and (c10.trans c11)
  have CH_12 : Ch (No) w w12 := CH_11.then c12 (by intro q h1 h2; rcases h2 with h2 | h2 <;> first | exact h2 | (exfalso; omega) | omega)
  have CH_13 : Ch (No) w w13 := CH_12.then c13 (by intro q h1 h2; rcases h2 with h2 | h2 <;> first | exact h2 | (exfalso; omega) | omega)
  have CH_14 : Ch (No) w w14 := CH_13.then c14 (by intro q h1 h2; rcases h2 with h2 | h2 <;> first | exact h2 | (exfalso; omega) | omega)
  exact ⟨rfl, CH_14⟩

end Go.Tm
namespace Go.Tm
open Go.RowKit Go.Proofs
theorem guardU {ops : Array Oper} {n : Fr} {k : K} {o : Oper} {a : Act} {j t : Nat} {wt : Bool} (hg : o.guard = some (j, wt)) (hj : (ops[j]?).bind (·.dst) = some t) (hk : kget k t = some undef) (ha : Fits n k a) : Region.wanted o (yielded ops a.tmps) = false := by
  unfold Region.wanted
  rw [hg]
  have h1 : (ops[j]?).bind (fun x => x.dst) = some t := hj
  have : yielded ops a.tmps j = none := by
    unfold yielded
    rw [h1]
    simp [ha.known t _ hk, undef]
  show (yielded ops a.tmps j == some wt) = false
  rw [this]; rfl
theorem VH.skipU {P : Program} {n : Fr} {ops : Array Oper} {Q : Exit → Act → World → Prop} {S : World → Prop} {Lq : Act → World → Prop} {order : List (Nat × Bool)} {k : K} {w : World} {o : Oper} {i d j t : Nat} {wt : Bool} (ho : ops[i]? = some o) (hd : o.dst = some d) (hg : o.guard = some (j, wt)) (hj : (ops[j]?).bind (·.dst) = some t) (hk : kget k t = some undef) (hn : Nat.blt d n.sz = true)
    (h : VH P n ops Q S Lq order ((d, undef) :: k) w) : VH P n ops Q S Lq ((i, true) :: order) k w := fun a ha =>
  ⟨o, undef, ho, .inr ⟨guardU hg hj hk ha, rfl⟩, by rw [hd]; exact h _ (ha.put hn undef)⟩
structure Opn where
  kd : Int
  nm : Nm
  N : Int
  way : Int
def Opn.cells (o : Opn) : List Value := [.int .i64 o.kd, strV o.nm, .int .i64 o.N, .int .i64 o.way]
def flatO (l : List Opn) : List Value := l.flatMap Opn.cells
theorem flatO_get : ∀ (L : List Opn) (i : Nat) (s : Opn), L[i]? = some s → ∀ j v, s.cells[j]? = some v → (flatO L)[i * 4 + j]? = some v
  | [], _, _, h, _, _, _ => by simp at h
  | t :: L, 0, s, h, j, v, hj => by
    simp at h; subst h
    have hl : j < t.cells.length := (List.getElem?_eq_some_iff.1 hj).1
    show (t.cells ++ flatO L)[0 * 4 + j]? = some v
    rw [Nat.zero_mul, Nat.zero_add, List.getElem?_append_left hl]; exact hj
  | t :: L, i + 1, s, h, j, v, hj => by
    simp only [List.getElem?_cons_succ] at h
    show (t.cells ++ flatO L)[(i + 1) * 4 + j]? = some v
    have h7 : t.cells.length = 4 := rfl
    rw [List.getElem?_append_right (by rw [h7]; omega), h7, show (i + 1) * 4 + j - 4 = i * 4 + j by omega]
    exact flatO_get L i s h j v hj
theorem sl_op {S : Nat → Prop} {w : World} {A : Option Addr} {l : Nat} {L : List Opn} (h : SlR S w A l 4 (flatO L)) (hl : l = L.length) {i : Nat} {s : Opn} (hi : L[i]? = some s) : CaR S w ((sAddr A).add (i * 4)) s.cells := by
  have hlt := (List.getElem?_eq_some_iff.1 hi).1
  obtain ⟨ad, had⟩ := h.ne (by omega)
  refine ⟨h.part (i := i) (by omega) (flatO_get L i s hi), ?_⟩
  rw [add_block]; subst had; exact h.ok ad rfl
def okNm (x : Nm) : Prop := 1 ≤ x.length ∧ x.length ≤ 64
instance (x : Nm) : Decidable (okNm x) := by unfold okNm; infer_instance
def keepE (E : Nat → Addr) (x : Nm) : Value := if okNm x then .nilIface else errV E 1
theorem Rn.if_eql_nil {P : Program} {n : Fr} {k : K} {w : World} {d : Option Nat} {ty : TypeId} {pos : String} {aft : Array Edge} {g : Option (Nat × Bool)} {t t' : TypeId} {x : Operand} {p : Prop} [Decidable p] {u : TypeId} {z : Value} {m : Array (String × TypeId)} (ht : P.underlying t = some (.interface m)) (hx : ev k x = some (if p then .nilIface else .iface u z)) :
    Rn P n k w { dst := d, op := .binOp .eql t x (.const .nilIface) t', type := ty, pos := pos, after := aft, guard := g } (.bool (decide p)) := by
  by_cases h : p
  · rw [if_pos h] at hx; rw [decide_eq_true h]; exact Rn.nil_eql_nil ht hx
  · rw [if_neg h] at hx; rw [decide_eq_false h]; exact Rn.err_eql_nil ht hx
/-- Keep, whatever the name. -/
theorem st_Keep_any (E : Nat → Addr) (B p mo q mb r : Nat) (L : List Nm) (m : List (Nm × Value)) (x : Nm) (w : World) (sr : StR w q mb r 0 mo L m) (hL : L.length ≤ 100000) (er : ErrT B E w) (dm : DomI L m) :
    Calls Tryz.prog 8 #[.pointer (some ⟨q, 0, none⟩), strV x, .pointer (some ⟨p, 0, none⟩)] w (Ret fun v w' => ∃ r' L' m', v = keepE E x ∧ ((okNm x ∧ L' = keepL mo x L ∧ m' = keepM mo x (.pointer (some ⟨p, 0, none⟩)) L m) ∨ (¬ okNm x ∧ L' = L ∧ m' = m)) ∧ DomI L' m' ∧ StR w' q mb r' 0 mo L' m' ∧ (r' = r ∨ w.heap.size < r') ∧ Ch (QS q mb r) w w') := by
  by_cases hx : okNm x
  · refine (st_Keep E p mo q mb r L m x w sr hL hx).mono ?_
    rintro e w' ⟨v, rfl, r', rfl, h1, h2, h3⟩
    exact ⟨_, rfl, r', _, _, by rw [keepE, if_pos hx], .inl ⟨hx, rfl, rfl⟩, dm.keep mo x _, h1, h2, h3⟩
  · refine (st_Keep_bad E (.pointer (some ⟨p, 0, none⟩)) mo q mb r L m x w sr hL B er hx).mono ?_
    rintro e w' ⟨v, rfl, rfl, rfl⟩
    exact ⟨_, rfl, r, L, m, by rw [keepE, if_neg hx], .inr ⟨hx, rfl, rfl⟩, dm, sr, .inl rfl, Ch.refl _ _⟩
def getE (E : Nat → Addr) (x : Nm) (L : List Nm) : Value := if x ∈ L then .nilIface else errV E 2
/-- Get, whatever the name. -/
theorem st_Get_any (E : Nat → Addr) (B mo q mb r : Nat) (L : List Nm) (m : List (Nm × Value)) (x : Nm) (w : World) (sr : StR w q mb r 0 mo L m) (hL : L.length ≤ 100000) (er : ErrT B E w) (hq : B ≤ q) (dm : DomI L m) :
    Calls Tryz.prog 9 #[.pointer (some ⟨q, 0, none⟩), strV x] w (Ret fun v w' => ∃ r' L' pv, v = .tuple #[pv, getE E x L] ∧ ((x ∈ L ∧ L' = x :: without x L) ∨ (x ∉ L ∧ L' = L)) ∧ DomI L' m ∧ StR w' q mb r' 0 mo L' m ∧ (r' = r ∨ w.heap.size < r') ∧ Ch (QS q mb r) w w') := by
  cases hm : mfind m x with
  | some pv =>
    have hx : x ∈ L := (dm.dom x).1 (by rw [hm]; rfl)
    refine (st_Get pv mo q mb r L m x w sr hL hm).mono ?_
    rintro e w' ⟨v, rfl, r', rfl, h1, h2, h3⟩
    exact ⟨_, rfl, r', _, pv, by rw [getE, if_pos hx], .inl ⟨hx, rfl⟩, dm.touch hx, h1, h2, h3⟩
  | none =>
    have hx : x ∉ L := fun h => by have := (dm.dom x).2 h; rw [hm] at this; cases this
    refine (st_Get_miss E mo q mb r L m x w sr hL B er hq hm).mono ?_
    rintro e w' ⟨v, rfl, rfl, h1, h3⟩
    exact ⟨_, rfl, r, L, _, by rw [getE, if_neg hx], .inr ⟨hx, rfl⟩, dm, h1, .inl rfl, h3⟩
theorem lately_true (U L : List Nm) (ro : Nat) (S1 S2 : Nat → Prop) (A B : Option Addr) (c d : Nat) (w : World) (ul : Nat) (hul : U.length = ul) (su : SlR S1 w A ul 1 (U.map strV)) (sl : SlR S2 w B L.length 1 (L.map strV)) (hU : ul ≤ 9223372036854775807) (hL : L.length ≤ 1000000) (hr : ro ≤ 1000) (hS1 : ∀ y, S1 y → y < w.heap.size) (hS2 : ∀ y, S2 y → y < w.heap.size) (h : L = lateGo ro U.reverse []) :
    Calls Tryz.prog 12 #[.slice A ul c, .slice B L.length d, .int .i64 ro] w (Ret fun v w' => v = .bool true ∧ Ch No w w') := by
  subst hul
  refine (law_lately U L ro S1 S2 A B c d w su sl hU hL hr hS1 hS2).mono ?_
  rintro e w' ⟨v, rfl, rfl, h3⟩
  exact ⟨_, rfl, by rw [decide_eq_true h], h3⟩
section
variable {P : Program} {n : Fr} {k : K} {w : World} {d : Option Tmp} {ty : TypeId} {pos : String} {aft : Array Edge} {g : Option (Nat × Bool)} {t t' : TypeId} {x y : Operand} {q : IntKind} {a b : Int}
theorem Rn.eqlF (hx : ev k x = some (.int q a)) (hy : ev k y = some (.int q b)) (h : a ≠ b) : Rn P n k w { dst := d, op := .binOp .eql t x y t', type := ty, pos := pos, after := aft, guard := g } (.bool false) := by
  have := Rn.eql (P := P) (n := n) (w := w) (d := d) (ty := ty) (pos := pos) (aft := aft) (g := g) (t := t) (t' := t') hx hy
  rwa [decide_eq_false h] at this
theorem Rn.addTo {r : Int} (hx : ev k x = some (.int q a)) (hy : ev k y = some (.int q b)) (h : q.wrap (a + b) = r) : Rn P n k w { dst := d, op := .binOp .add t x y t', type := ty, pos := pos, after := aft, guard := g } (.int q r) := by
  subst h; exact Rn.addw hx hy
theorem Rn.gtrF (hx : ev k x = some (.int q a)) (hy : ev k y = some (.int q b)) (h : ¬ b < a) : Rn P n k w { dst := d, op := .binOp .gtr t x y t', type := ty, pos := pos, after := aft, guard := g } (.bool false) := by
  have := Rn.gtr (P := P) (n := n) (w := w) (d := d) (ty := ty) (pos := pos) (aft := aft) (g := g) (t := t) (t' := t') hx hy
  rwa [decide_eq_false h] at this
theorem Rn.nm_neqF {s u : List UInt8} (hx : ev k x = some (strV s)) (hy : ev k y = some (strV u)) (h : s = u) : Rn P n k w { dst := d, op := .binOp .neq t x y t', type := ty, pos := pos, after := aft, guard := g } (.bool false) := by
  have := Rn.nm_neq (P := P) (n := n) (w := w) (d := d) (ty := ty) (pos := pos) (aft := aft) (g := g) (t := t) (t' := t') hx hy
  rwa [decide_eq_false (fun h' => h' h)] at this
end
def roomN (M : Int) : Nat := 1 + ((IntKind.u64.wrap M) % 8).toNat
theorem roomN_bd (M : Int) : 1 ≤ roomN M ∧ roomN M ≤ 8 := by unfold roomN; rw [IntKind.wrap_u64]; omega
theorem names_keep {ro : Nat} (h1 : 1 ≤ ro) {U L L' : List Nm} {x : Nm} (hL : L = (dd U.reverse).take ro) (h : L' = keepL ro x L) : L' = (dd (U ++ [x]).reverse).take ro ∧ L'.head? = some x ∧ L'.length ≤ ro := by
  subst h; subst hL
  have e : keepL ro x ((dd U.reverse).take ro) = (dd (U ++ [x]).reverse).take ro := by
    rw [keepL_take h1 (dd_nodup _)]; simp [dd]
  refine ⟨e, ?_, ?_⟩
  · rw [e]
    obtain ⟨n, rfl⟩ : ∃ n, ro = n + 1 := ⟨ro - 1, by omega⟩
    simp [dd]
  · rw [e]; simp; omega
theorem touch_keep {ro : Nat} (h1 : 1 ≤ ro) {U L : List Nm} {x : Nm} (hL : L = (dd U.reverse).take ro) (hx : x ∈ L) : x :: without x L = keepL ro x L := by
  subst hL
  rw [keepL_take h1 (dd_nodup _), touchL_take (dd_nodup _) hx]

set_option maxRecDepth 100000 in
theorem inf9w30 : Inf Tryz.prog 9 (.string ⟨#[]⟩) 1 16 := ⟨Tryz.t9, Tryz.type9, rfl, rfl, rfl⟩
theorem bld32_2w30 {v2 : Value} (h : [v2].all Value.oneCell' = true) (w : World) : (Instr.build 32 ([(2, v2)] : List (Nat × Value)).toArray).run Tryz.prog w = .ok (.agg #[.int .i64 0, .string ⟨#[]⟩, v2, .int .i64 0]) w := by
  simp only [List.all_cons, Bool.and_eq_true, List.all_nil, and_true] at h
  have hv2 := oneCell_cells (v := v2) (by simp_all)
  have h1 := fill_set (fun i => ([(0, 1), (1, 1), (2, 1), (3, 1)] : List (Nat × Nat))[i]?) [(2, v2)] [.int .i64 0, .string ⟨#[]⟩, .int .i64 0, .int .i64 0] (by simp [okF, agg_cells, hv2, Nat.beq, Nat.ble])
  simp [setF, agg_cells, hv2] at h1
  simp [Instr.build, Tryz.runUnderlying32, Tryz.zeroValue32, Tryz.sizeOf3, Tryz.sizeOf9, agg_cells, h1]
set_option maxHeartbeats 4000000 in
set_option maxRecDepth 100000 in
theorem storeLately (M : Int) (SC : List Opn) (S : Nat → Prop) (A : Option Addr) (c : Nat) (B : Nat) (E : Nat → Addr) (w : World) (sc : SlR S w A SC.length 4 (flatO SC)) (hS : ∀ y, S y → y < w.heap.size) (hlen : SC.length ≤ 9223372036854775807) (er : ErrT B E w) (hB : B ≤ w.heap.size) (st : StT w) (tab : TabB w.heap.size w) :
    Calls Tryz.prog 3 #[.int .i64 M, .slice A SC.length c] w (Ret (fun v w' => v = .bool true ∧ Ch No w w')) := by
  have hgn := er.gn; have hrm := roomN_bd M; have hu0 : 0 ≤ IntKind.u64.wrap M := by rw [IntKind.wrap_u64]; omega
  have hrme : (roomN M : Int) = 1 + IntKind.u64.wrap M % 8 := by unfold roomN; rw [IntKind.wrap_u64]; omega
  refine calls_of_VC (args := [.int .i64 M, .slice A SC.length c]) Tryz.func3 rfl Tryz.ntmps3 rfl ?_
  refine VC.seq ?_
  refine VC.region ?_
  refine VO.mv (Rn.assign rfl) rfl rfl rfl ?_
  refine VO.nil ?_
  refine VQ.then_code ?_
  refine VC.seq ?_
  refine VC.seq ?_
  refine VC.region ?_
  refine VO.wk (Wk.call Tryz.call5 rfl (law_lives B E _ er (by omega) st ((tab).up (by omega)))) rfl rfl rfl ?_
  rintro _ w1 ⟨rfl, c1⟩
  have z1 := c1.size
  refine VO.mv (Rn.not rfl) rfl rfl rfl ?_
  refine VO.nil ?_
  refine VQ.then_code ?_
  refine VC.cond_false rfl ?_
  refine VC.skip ?_
  refine VQ.then_code ?_
  refine VC.seq ?_
  refine VC.region ?_
  refine VO.mv (Rn.move rfl) rfl rfl rfl ?_
  refine VO.mv (Rn.conv Tryz.underlying3 Tryz.underlying24 rfl) rfl rfl rfl ?_
  refine VO.mv (Rn.rem0 rfl rfl hu0 (by omega)) rfl rfl rfl ?_
  refine VO.mv (Rn.conv_in Tryz.underlying75 Tryz.underlying3 rfl (by rw [IntKind.wrap_i64]; omega)) rfl rfl rfl ?_
  refine VO.mv (Rn.addTo rfl rfl (r := ((roomN M : Nat) : Int)) (by rw [hrme, IntKind.wrap_i64]; omega)) rfl rfl rfl ?_
  refine VO.mv (Rn.assign rfl) rfl rfl rfl ?_
  refine VO.nil ?_
  refine VQ.then_code ?_
  refine VC.seq ?_
  refine VC.region ?_
  refine VO.mv (Rn.move rfl) rfl rfl rfl ?_
  refine VO.wk (Wk.call Tryz.call6 rfl (store_New E (roomN M) (by omega) (by omega) _)) rfl rfl rfl ?_
  rintro _ w2 ⟨q2, mb2, rfl, sr2, ymb2, yq2, c2⟩
  have ls2 := sr2.lt
  have z2 := c2.size
  refine VO.mv (Rn.move rfl) rfl rfl rfl ?_
  refine VO.mv (Rn.extract rfl rfl) rfl rfl rfl ?_
  refine VO.mv (Rn.extract rfl rfl) rfl rfl rfl ?_
  refine VO.mv (Rn.assign rfl) rfl rfl rfl ?_
  refine VO.mv (Rn.assign rfl) rfl rfl rfl ?_
  refine VO.nil ?_
  refine VQ.then_code ?_
  refine VC.seq ?_
  refine VC.seq ?_
  refine VC.region ?_
  refine VO.mv (Rn.move rfl) rfl rfl rfl ?_
  refine VO.mv (Rn.nil_neq_nil Tryz.underlying27 rfl) rfl rfl rfl ?_
  refine VO.mv (Rn.move rfl) rfl rfl rfl ?_
  refine VO.mv (Rn.move rfl) rfl rfl rfl ?_
  refine VO.mv (Rn.ptr_eql_nil Tryz.underlying25 rfl) rfl rfl rfl ?_
  refine VO.mv (Rn.pick_false rfl rfl) rfl rfl rfl ?_
  refine VO.mv (Rn.move rfl) rfl rfl rfl ?_
  refine VO.mv (Rn.move rfl) rfl rfl rfl ?_
  refine VO.mv (Rn.len Tryz.underlying22 rfl) rfl rfl rfl ?_
  refine VO.mv (Rn.gtr rfl rfl) rfl rfl rfl ?_
  refine VO.mv (Rn.pick_false rfl rfl) rfl rfl rfl ?_
  refine VO.nil ?_
  refine VQ.then_code ?_
  refine VC.cond_if rfl (fun hc1 => ?_) (fun hc1 => ?_)
  · skip
    refine VC.seq ?_
    refine VC.region ?_
    refine VO.mv (Rn.move rfl) rfl rfl rfl ?_
    refine VO.mv (Rn.nil_eql_nil Tryz.underlying27 rfl) rfl rfl rfl ?_
    refine VO.mv (Rn.move rfl) rfl rfl rfl ?_
    refine VO.mv (Rn.move rfl) rfl rfl rfl ?_
    refine VO.mv (Rn.ptr_neq_nil Tryz.underlying25 rfl) rfl rfl rfl ?_
    refine VO.mv (Rn.pick_true rfl rfl) rfl rfl rfl ?_
    refine VO.mv (Rn.assign rfl) rfl rfl rfl ?_
    refine VO.nil ?_
    refine VQ.then_code ?_
    refine VC.ret ?_
    refine VQ.then_ret ?_
    refine VQ.ret1 rfl rfl ?_
    refine Ret.mk ?_
    have CH_2 := (Ch.refl (No) w).and (c1.trans c2)
    exact ⟨rfl, CH_2⟩
  · skip
    refine VC.skip ?_
    refine VQ.then_code ?_
    refine VC.seq ?_
    refine VC.region ?_
    refine VO.wk (Wk.lit0 Tryz.underlying30 inf9w30) rfl rfl rfl ?_
    rintro _ w3 ⟨p3, rfl, N3⟩
    have c3 := N3.ch
    have e3 := N3.p; have z3 := N3.size
    have l46o := Ow.of_new (cs := []) (sz := 1) (l := 0) N3 rfl (by decide)
    refine VO.mv (Rn.assign rfl) rfl rfl rfl ?_
    refine VO.nil ?_
    refine VQ.then_code ?_
    refine VC.seq ?_
    refine VC.seq ?_
    refine VC.region ?_
    refine VO.mv (Rn.move rfl) rfl rfl rfl ?_
    refine VO.mv (Rn.len Tryz.underlying22 rfl) rfl rfl rfl ?_
    refine VO.mv (Rn.move rfl) rfl rfl rfl ?_
    refine VO.nil ?_
    refine VQ.then_code ?_
    refine VC.block ?_
    have sr_3 := sr2.keep c3
    have sc_3 := sc.keep (c1.trans (c2.trans c3))
    have er_3 := er.keep (c1.trans (c2.trans c3))
    have st_3 := st.keep (c1.trans (c2.trans c3))
    have tab_3 := tab.keep (c1.trans (c2.trans c3))
    have CH_3 := (Ch.refl (No) w).and (c1.trans (c2.trans c3))
    refine VC.loopS (σ := Nat × List Nm × Nat × Nat × Option Addr × Nat) (fun (i, U, ul, ru, UA, uc) => [(5, .int .i64 (roomN M)), (6, .pointer (some ⟨q2, 0, none⟩)), (8, .slice UA ul uc), (47, .slice A SC.length c), (48, .int .i64 SC.length), (49, .int .i64 i)]) (fun (i, U, ul, ru, UA, uc) w' => ∃ rs L m, i ≤ SC.length ∧ U.length = ul ∧ ul ≤ i ∧ DomI L m ∧ L = (dd U.reverse).take (roomN M) ∧ (rs = 0 ∨ w2.heap.size < rs) ∧ w2.heap.size < ru ∧ ru ≠ rs ∧ StR w' q2 mb2 rs 0 (roomN M) L m ∧ Ow w' ru 9 1 UA ul uc (U.map strV) ∧ SlR S w' A SC.length 4 (flatO SC) ∧ ErrT B E w' ∧ StT w' ∧ TabB w.heap.size w' ∧ Ch No w w') (fun (i, U, ul, ru, UA, uc) => SC.length - i) (0, [], 0, (p3 + 1), (some ⟨p3, 0, none⟩), 0) ?_ ⟨rfl, rfl, rfl, rfl, rfl, rfl, trivial⟩ ?_
    · exact ⟨0, [], [], Nat.zero_le _, rfl, Nat.le_refl _, DomI.nil, by simp [dd], .inl rfl, by omega, by omega, sr_3, l46o, sc_3, er_3, st_3, tab_3, CH_3⟩
    rintro ⟨i, U, ul, ru, UA, uc⟩ w4 ⟨rs, L, m, hi, hul, hui, dm, hLd, hrs, hru, hrur, sr_4, us_4, sc_4, er_4, st_4, tab_4, CH_4⟩
    show VC _ _ _ _ [(5, .int .i64 (roomN M)), (6, .pointer (some ⟨q2, 0, none⟩)), (8, .slice UA ul uc), (47, .slice A SC.length c), (48, .int .i64 SC.length), (49, .int .i64 i)] _
    have zc := CH_4.size; have ls := sr_4.lt; have lus := us_4.lt; have hLl : L.length ≤ 8 := by rw [hLd]; simp; omega
    refine VC.seq ?_
    refine VC.region ?_
    refine VO.mv (Rn.lss rfl rfl) rfl rfl rfl ?_
    refine VO.nil ?_
    refine VQ.then_code ?_
    refine VC.seq ?_
    refine VC.cond_if rfl (fun hc2 => ?_) (fun hc2 => ?_)
    · skip
      refine VC.skip ?_
      refine VQ.then_code ?_
      refine VC.seq ?_
      refine VC.block ?_
      refine VC.seq ?_
      obtain ⟨o, ho⟩ : ∃ o, SC[i]? = some o := ⟨_, List.getElem?_eq_getElem (by omega)⟩
      have ko := sl_op sc_4 rfl ho
      refine VC.region ?_
      refine VO.mv (Rn.indexS Tryz.underlying22 Tryz.sizeOf32 rfl rfl (sc_4.ne (by omega)) (by omega) (by omega)) rfl rfl rfl ?_
      refine VO.mv (Rn.loads Tryz.isAgg32 Tryz.sizeOf32 rfl rfl ko.1) rfl rfl rfl ?_
      refine VO.wk (Wk.alloc Tryz.zeroValue32) rfl rfl rfl ?_
      rintro _ w5 ⟨p5, rfl, N5⟩
      have c5 := N5.ch
      have e5 := N5.p; have z5 := N5.size
      have b10 := Bk.new N5
      refine VO.wk0 (Wk.puts Tryz.sizeOf32 rfl rfl rfl rfl b10 (Nat.le_of_ble_eq_true rfl)) rfl rfl ?_
      intro _ w6 Z6
      have c6 := Z6.ch; have z6 := Z6.size
      have b10_6 := Bk.put Z6
      refine VO.nil ?_
      refine VQ.then_code ?_
      refine VC.seq ?_
      refine VC.region ?_
      refine VO.mv (Rn.assign rfl) rfl rfl rfl ?_
      refine VO.nil ?_
      refine VQ.then_code ?_
      refine VC.cut (σ := Bool × List Nm) (fun (us, L1) => [(5, .int .i64 (roomN M)), (6, .pointer (some ⟨q2, 0, none⟩)), (8, .slice UA ul uc), (10, .pointer (some ⟨p5, 0, none⟩)), (11, .bool us), (47, .slice A SC.length c), (48, .int .i64 SC.length), (49, .int .i64 i)]) (fun (us, L1) w' => ∃ r1 m1, ((us = true ∧ L1 = keepL (roomN M) o.nm L) ∨ (us = false ∧ L1 = L)) ∧ DomI L1 m1 ∧ (r1 = 0 ∨ w2.heap.size < r1) ∧ ru ≠ r1 ∧ r1 ≠ p5 + 1 ∧ ru ≠ p5 + 1 ∧ StR w' q2 mb2 r1 0 (roomN M) L1 m1 ∧ Ow w' ru 9 1 UA ul uc (U.map strV) ∧ Bk w' p5 #[.int .i64 o.kd, strV o.nm, .int .i64 o.N, .int .i64 o.way] 32 ∧ SlR S w' A SC.length 4 (flatO SC) ∧ ErrT B E w' ∧ StT w' ∧ TabB w.heap.size w' ∧ w6.heap.size ≤ w'.heap.size ∧ Ch No w w') ?_ ?_
      · skip
        refine VC.seq ?_
        refine VC.region ?_
        refine VO.mv (Rn.field Tryz.underlying32 rfl Tryz.sizeOf3 rfl rfl rfl) rfl rfl rfl ?_
        refine VO.mv (Rn.load Tryz.isAgg3 rfl (b10_6.cell rfl)) rfl rfl rfl ?_
        refine VO.nil ?_
        refine VQ.then_code ?_
        refine VC.block ?_
        refine VC.seq ?_
        refine VC.region ?_
        refine VO.mv (Rn.eql rfl rfl) rfl rfl rfl ?_
        refine VO.mv (Rn.assign rfl) rfl rfl rfl ?_
        refine VO.nil ?_
        refine VQ.then_code ?_
        refine VC.cond_if rfl (fun hc3 => ?_) (fun hc3 => ?_)
        · skip
          refine VC.seq ?_
          refine VC.region ?_
          refine VO.mv (Rn.field Tryz.underlying32 rfl Tryz.sizeOf3 rfl rfl rfl) rfl rfl rfl ?_
          refine VO.mv (Rn.load Tryz.isAgg3 rfl (b10_6.cell rfl)) rfl rfl rfl ?_
          refine VO.mv (Rn.rem rfl rfl (by decide)) rfl rfl rfl ?_
          refine VO.mv (Rn.build rfl (bld32_2w30 rfl)) rfl rfl rfl ?_
          have cc_4_6 : Ch No w4 w6 := (Ch.then (E := No) c5 c6 (by intro q h1 h2; rcases h2 with h2 | h2 <;> first | exact h2 | (exfalso; omega)))
          have st_6 := st_4.keep cc_4_6
          have tab_6 := tab_4.keep cc_4_6
          refine VO.wk (Wk.call Tryz.call7 rfl (planOf0 0 (o.N.tmod 4) [] _ st_6 ((tab_6).up (by omega)) (by omega))) rfl rfl rfl ?_
          rintro _ w7 ⟨pp, rpp, rfl, _, _, c7⟩
          have z7 := c7.size
          refine VO.mv (Rn.assign rfl) rfl rfl rfl ?_
          refine VO.nil ?_
          refine VQ.then_code ?_
          refine VC.seq ?_
          refine VC.seq ?_
          refine VC.region ?_
          refine VO.mv (Rn.move rfl) rfl rfl rfl ?_
          refine VO.mv (Rn.ptr_eql_nil Tryz.underlying33 rfl) rfl rfl rfl ?_
          refine VO.nil ?_
          refine VQ.then_code ?_
          refine VC.cond_false rfl ?_
          refine VC.skip ?_
          refine VQ.then_code ?_
          refine VC.region ?_
          refine VO.mv (Rn.move rfl) rfl rfl rfl ?_
          refine VO.mv (Rn.field Tryz.underlying32 rfl Tryz.sizeOf9 rfl rfl rfl) rfl rfl rfl ?_
          have b10_7 := b10_6.keep c7
          refine VO.mv (Rn.load Tryz.isAgg9 rfl (b10_7.cell rfl)) rfl rfl rfl ?_
          refine VO.mv (Rn.move rfl) rfl rfl rfl ?_
          have cc_4_7 : Ch No w4 w7 := ((Ch.then (E := No) c5 c6 (by intro q h1 h2; rcases h2 with h2 | h2 <;> first | exact h2 | (exfalso; omega))).and c7)
          have sr_7 := sr_4.keep cc_4_7
          have er_7 := er_4.keep cc_4_7
          refine VO.wk (Wk.call Tryz.call8 rfl (st_Keep_any E B pp (roomN M) q2 mb2 rs L m o.nm _ sr_7 (by omega) er_7 dm)) rfl rfl rfl ?_
          rintro _ w8 ⟨rk, Lk, mk, rfl, hkp, dmk, sr8, yr8, c8⟩
          have ls8 := sr8.lt
          have z8 := c8.size
          refine VO.mv (Rn.if_eql_nil Tryz.underlying27 rfl) rfl rfl rfl ?_
          refine VO.mv (Rn.assign rfl) rfl rfl rfl ?_
          refine VO.nil ?_
          refine VQ.block_normal ?_
          refine VQ.cut (decide (okNm o.nm), Lk) ?_ ⟨rfl, rfl, rfl, rfl, rfl, rfl, rfl, rfl, trivial⟩
          have us_7 := us_4.keep cc_4_7
          have us_8 := us_7.to c8 (by first | exact fun _ _ _ _ => id | (intro q h1 h2 hx h3; omega))
          have b10_8 := b10_7.to c8 (by first | exact id | omega)
          have sc_7 := sc_4.keep cc_4_7
          have sc_8 := sc_7.to c8 (by first | exact fun _ _ _ _ => id | (intro q h1 h2 hx h3; have := hS q h2; omega))
          have er_8 := er_7.to c8 (by first | exact fun _ _ _ _ => id | (intro q h1 h2 hx h3; omega))
          have st_7 := st_6.keep c7
          have st_8 := st_7.to c8 (by first | exact fun _ _ _ _ => id | (intro q h1 h2 hx h3; omega))
          have tab_7 := tab_6.keep c7
          have tab_8 := tab_7.to c8 (by first | exact fun _ _ _ _ => id | (intro q h1 h2 hx h3; omega))
          have CH_7 := CH_4.and cc_4_7
          have CH_8 : Ch (No) w w8 := CH_7.then c8 (by intro q h1 h2; rcases h2 with h2 | h2 <;> first | exact h2 | (exfalso; omega) | omega)
          exact ⟨rk, _, by rcases hkp with ⟨h1, h2, _⟩ | ⟨h1, h2, _⟩; (left; exact ⟨decide_eq_true h1, h2⟩); (right; exact ⟨decide_eq_false h1, h2⟩), dmk, by omega, by omega, by omega, by omega, sr8, us_8, b10_8, sc_8, er_8, st_8, tab_8, by omega, CH_8⟩
        · skip
          refine VC.seq ?_
          refine VC.region ?_
          refine VO.mv (Rn.eql rfl rfl) rfl rfl rfl ?_
          refine VO.mv (Rn.assign rfl) rfl rfl rfl ?_
          refine VO.nil ?_
          refine VQ.then_code ?_
          refine VC.cond_if rfl (fun hc4 => ?_) (fun hc4 => ?_)
          · skip
            refine VC.seq ?_
            refine VC.region ?_
            refine VO.mv (Rn.move rfl) rfl rfl rfl ?_
            refine VO.mv (Rn.field Tryz.underlying32 rfl Tryz.sizeOf9 rfl rfl rfl) rfl rfl rfl ?_
            refine VO.mv (Rn.load Tryz.isAgg9 rfl (b10_6.cell rfl)) rfl rfl rfl ?_
            have cc_4_6 : Ch No w4 w6 := (Ch.then (E := No) c5 c6 (by intro q h1 h2; rcases h2 with h2 | h2 <;> first | exact h2 | (exfalso; omega)))
            have sr_6 := sr_4.keep cc_4_6
            have er_6 := er_4.keep cc_4_6
            refine VO.wk (Wk.call Tryz.call9 rfl (st_Get_any E B (roomN M) q2 mb2 rs L m o.nm _ sr_6 (by omega) er_6 (by omega) dm)) rfl rfl rfl ?_
            rintro _ w9 ⟨rg, Lg, pv, rfl, hgt, dmg, sr9, yr9, c9⟩
            have ls9 := sr9.lt
            have z9 := c9.size
            refine VO.mv (Rn.move rfl) rfl rfl rfl ?_
            refine VO.mv (Rn.extract rfl rfl) rfl rfl rfl ?_
            refine VO.mv (Rn.extract rfl rfl) rfl rfl rfl ?_
            refine VO.mv (Rn.assign rfl) rfl rfl rfl ?_
            refine VO.mv (Rn.assign rfl) rfl rfl rfl ?_
            refine VO.nil ?_
            refine VQ.then_code ?_
            refine VC.region ?_
            refine VO.mv (Rn.move rfl) rfl rfl rfl ?_
            refine VO.mv (Rn.if_eql_nil Tryz.underlying27 rfl) rfl rfl rfl ?_
            refine VO.mv (Rn.assign rfl) rfl rfl rfl ?_
            refine VO.nil ?_
            refine VQ.block_normal ?_
            refine VQ.cut (decide (o.nm ∈ L), Lg) ?_ ⟨rfl, rfl, rfl, rfl, rfl, rfl, rfl, rfl, trivial⟩
            have us_6 := us_4.keep cc_4_6
            have us_9 := us_6.to c9 (by first | exact fun _ _ _ _ => id | (intro q h1 h2 hx h3; omega))
            have b10_9 := b10_6.to c9 (by first | exact id | omega)
            have sc_6 := sc_4.keep cc_4_6
            have sc_9 := sc_6.to c9 (by first | exact fun _ _ _ _ => id | (intro q h1 h2 hx h3; have := hS q h2; omega))
            have er_9 := er_6.to c9 (by first | exact fun _ _ _ _ => id | (intro q h1 h2 hx h3; omega))
            have st_6 := st_4.keep cc_4_6
            have st_9 := st_6.to c9 (by first | exact fun _ _ _ _ => id | (intro q h1 h2 hx h3; omega))
            have tab_6 := tab_4.keep cc_4_6
            have tab_9 := tab_6.to c9 (by first | exact fun _ _ _ _ => id | (intro q h1 h2 hx h3; omega))
            have CH_6 := CH_4.and cc_4_6
            have CH_9 : Ch (No) w w9 := CH_6.then c9 (by intro q h1 h2; rcases h2 with h2 | h2 <;> first | exact h2 | (exfalso; omega) | omega)
            exact ⟨rg, _, by rcases hgt with ⟨h1, h2⟩ | ⟨h1, h2⟩; (left; exact ⟨decide_eq_true h1, h2.trans (touch_keep (roomN_bd M).1 hLd h1)⟩); (right; exact ⟨decide_eq_false h1, h2⟩), dmg, by omega, by omega, by omega, by omega, sr9, us_9, b10_9, sc_9, er_9, st_9, tab_9, by omega, CH_9⟩
          · skip
            refine VC.skip ?_
            refine VQ.block_normal ?_
            refine VQ.cut (false, L) ?_ ⟨rfl, rfl, rfl, rfl, rfl, rfl, rfl, rfl, trivial⟩
            have cc_4_6 : Ch No w4 w6 := (Ch.then (E := No) c5 c6 (by intro q h1 h2; rcases h2 with h2 | h2 <;> first | exact h2 | (exfalso; omega)))
            have sr_6 := sr_4.keep cc_4_6
            have us_6 := us_4.keep cc_4_6
            have sc_6 := sc_4.keep cc_4_6
            have er_6 := er_4.keep cc_4_6
            have st_6 := st_4.keep cc_4_6
            have tab_6 := tab_4.keep cc_4_6
            have CH_6 := CH_4.and cc_4_6
            exact ⟨rs, m, .inr ⟨rfl, rfl⟩, dm, by omega, by omega, by omega, by omega, sr_6, us_6, b10_6, sc_6, er_6, st_6, tab_6, by omega, CH_6⟩
      rintro ⟨us, L1⟩ w10 ⟨r1, m1, hus, dm1, hr1, hru1, hr1b, hrub, sr_10, us_10, b10_10, sc_10, er_10, st_10, tab_10, hszc, CH_10⟩
      show VC _ _ _ _ [(5, .int .i64 (roomN M)), (6, .pointer (some ⟨q2, 0, none⟩)), (8, .slice UA ul uc), (10, .pointer (some ⟨p5, 0, none⟩)), (11, .bool us), (47, .slice A SC.length c), (48, .int .i64 SC.length), (49, .int .i64 i)] _
      have ls1 := sr_10.lt; have lus1 := us_10.lt; have lb10 := b10_10.lt
      refine VC.seq ?_
      refine VC.seq ?_
      refine VC.region ?_
      refine VO.mv (Rn.move rfl) rfl rfl rfl ?_
      refine VO.nil ?_
      refine VQ.then_code ?_
      refine VC.cond rfl (fun hc5 => ?_) (fun hc5 => ?_)
      · skip
        try simp only [Bool.and_eq_true, Bool.or_eq_true, Bool.not_eq_true', Bool.not_eq_false', Bool.and_eq_false_iff, Bool.or_eq_false_iff, decide_eq_true_eq, decide_eq_false_iff_not] at hc5
        subst hc5
        have hk4 : L1 = keepL (roomN M) o.nm L := by rcases hus with h | h; exact h.2; cases h.1
        have hnk := names_keep hrm.1 hLd hk4
        obtain ⟨U2, hUe⟩ : ∃ U2, U2 = U ++ [o.nm] := ⟨_, rfl⟩
        have hU2 : U2.length = ul + 1 := by rw [hUe]; simp; omega
        have hU3 : U.map strV ++ flat [strV o.nm] = U2.map strV := by rw [hUe]; simp [flat, Value.cells]
        have hfin : L1 = (dd U2.reverse).take (roomN M) := by rw [hUe]; exact hnk.1
        obtain ⟨y0, hy0, hhd⟩ : ∃ y0, y0 = o.nm ∧ L1[0]? = some y0 := ⟨o.nm, rfl, by rw [← List.head?_eq_getElem?]; exact hnk.2.1⟩
        have hll1 := hnk.2.2
        have hlp : 0 < L1.length := (List.getElem?_eq_some_iff.1 hhd).1
        refine VC.region ?_
        refine VO.mv (Rn.move rfl) rfl rfl rfl ?_
        refine VO.mv (Rn.field Tryz.underlying32 rfl Tryz.sizeOf9 rfl rfl rfl) rfl rfl rfl ?_
        refine VO.mv (Rn.load Tryz.isAgg9 rfl (b10_10.cell rfl)) rfl rfl rfl ?_
        refine VO.wk (Wk.lit Tryz.underlying30 inf9w30 (by decide) rfl rfl (by rfl) (by decide) (by decide) (by rfl)) rfl rfl rfl ?_
        rintro _ w11 ⟨p11, rfl, N11⟩
        have c11 := N11.ch
        have e11 := N11.p; have z11 := N11.size
        have l85 := SlR.of_new (sz := 1) (l := 1) N11 rfl
        have l85o := Ow.of_new (sz := 1) (l := 1) N11 rfl (by decide)
        have us_11 := us_10.keep c11
        refine VO.wk (Wk.append (S := _) Tryz.underlying30 inf9w30 rfl (by decide) rfl rfl us_11 l85 (by rfl) (fun h => by simp at h) (by omega) (by simp only [maxLen]; omega)) rfl rfl rfl ?_
        rintro _ w12 ⟨r12, A12, k12, rfl, o12, c12, q12⟩
        have z12 := c12.size
        have y12 := o12.lt
        refine VO.mv (Rn.assign rfl) rfl rfl rfl ?_
        refine VO.nil ?_
        refine VQ.then_code ?_
        refine VC.seq ?_
        refine VC.region ?_
        refine VO.mv (Rn.move rfl) rfl rfl rfl ?_
        have sr_11 := sr_10.keep c11
        have sr_12 := sr_11.to c12 (by first | exact fun _ _ _ _ => id | (intro q h1 h2 hx h3; omega))
        refine VO.wk (Wk.call Tryz.call10 rfl (law_names (roomN M) q2 mb2 r1 L1 m1 _ sr_12 (by omega) (by omega))) rfl rfl rfl ?_
        rintro _ w13 ⟨rn, nA, nc, rfl, nl13, yrn, sr13, c13⟩
        have lnl13 := nl13.lt
        have z13 := c13.size
        refine VO.mv (Rn.move rfl) rfl rfl rfl ?_
        refine VO.mv (Rn.extract rfl rfl) rfl rfl rfl ?_
        refine VO.mv (Rn.extract rfl rfl) rfl rfl rfl ?_
        refine VO.mv (Rn.assign rfl) rfl rfl rfl ?_
        refine VO.mv (Rn.assign rfl) rfl rfl rfl ?_
        refine VO.nil ?_
        refine VQ.then_code ?_
        refine VC.seq ?_
        refine VC.draws 38 [(0, true), (1, true), (2, true), (3, true), (4, true), (5, true), (6, true), (7, true), (8, true), (9, true), (11, true), (12, true), (10, false), (13, true), (14, true), (15, true), (16, true), (17, true), (18, true), (19, true), (20, true), (21, true), (22, true), (23, true), (24, true), (25, true), (26, true), (27, true), (28, true), (29, true), (30, true), (31, true), (32, true), (33, true), (34, true), (35, false), (36, true), (37, true)] (fun w1 w' => Ch (QS q2 mb2 r1) w1 w') mixed (by kernel_rfl) (fun _ _ => Ch.refl _ _) ?_
        intro w14 D14
        have c14 := Ch.of_drew D14; have z14 := c14.size
        have sc_11 := sc_10.keep c11
        have sc_12 := sc_11.to c12 (by first | exact fun _ _ _ _ => id | (intro q h1 h2 hx h3; have := hS q h2; omega))
        have sc_13 := sc_12.to c13 (by first | exact fun _ _ _ _ => id | (intro q h1 h2 hx h3; have := hS q h2; omega))
        have sc_14 := sc_13.keep c14
        have er_11 := er_10.keep c11
        have er_12 := er_11.to c12 (by first | exact fun _ _ _ _ => id | (intro q h1 h2 hx h3; omega))
        have er_13 := er_12.to c13 (by first | exact fun _ _ _ _ => id | (intro q h1 h2 hx h3; omega))
        have er_14 := er_13.keep c14
        have us_13 := o12.to c13 (by first | exact fun _ _ _ _ => id | (intro q h1 h2 hx h3; omega))
        have us_14 := us_13.keep c14
        have b10_11 := b10_10.keep c11
        have b10_12 := b10_11.to c12 (by first | exact id | omega)
        have b10_13 := b10_12.to c13 (by first | exact id | omega)
        have b10_14 := b10_13.keep c14
        have l85o_12 := l85o.to c12 (by first | exact fun _ _ _ _ => id | (intro q h1 h2 hx h3; omega))
        have l85o_13 := l85o_12.to c13 (by first | exact fun _ _ _ _ => id | (intro q h1 h2 hx h3; omega))
        have l85o_14 := l85o_13.keep c14
        have nl_14 := nl13.keep c14
        refine VH.mv (fun w' hS => Rn.move rfl) rfl rfl rfl rfl ?_
        refine VH.mv (fun w' hS => Rn.not rfl) rfl rfl rfl rfl ?_
        refine VH.mv (fun w' hS => Rn.move rfl) rfl rfl rfl rfl ?_
        refine VH.mv (fun w' hS => Rn.move rfl) rfl rfl rfl rfl ?_
        refine VH.mv (fun w' hS => Rn.len Tryz.underlying30 rfl) rfl rfl rfl rfl ?_
        refine VH.mv (fun w' hS => Rn.move rfl) rfl rfl rfl rfl ?_
        refine VH.mv (fun w' hS => Rn.gtrF rfl rfl (by omega)) rfl rfl rfl rfl ?_
        refine VH.mv (fun w' hS => Rn.pick_false rfl rfl) rfl rfl rfl rfl ?_
        refine VH.mv (fun w' hS => Rn.move rfl) rfl rfl rfl rfl ?_
        refine VH.mv (fun w' hS => Rn.move rfl) rfl rfl rfl rfl ?_
        refine VH.mv (fun w' hS => Rn.move rfl) rfl rfl rfl rfl ?_
        refine VH.mv (fun w' hS => Rn.len Tryz.underlying30 rfl) rfl rfl rfl rfl ?_
        have sr_14 := sr13.keep c14
        refine VH.wk (Wk.call Tryz.call11 rfl (st_Len (roomN M) q2 mb2 r1 L1 m1 _ sr_14 (by omega))) rfl rfl rfl rfl ?_
        rintro _ w15 ⟨rfl, sr15, c15⟩
        have z15 := c15.size
        have RD_15 : Ch (QS q2 mb2 r1) w14 w15 := (Ch.refl (QS q2 mb2 r1) w14).then c15 (by intro q h1 h2; rcases h2 with h2 | h2 <;> first | exact h2 | (exfalso; omega) | omega)
        refine ⟨RD_15, ?_⟩
        refine VH.mv (fun w' hS => Rn.neqF rfl rfl rfl) rfl rfl rfl rfl ?_
        refine VH.mv (fun w' hS => Rn.pick_false rfl rfl) rfl rfl rfl rfl ?_
        refine VH.mv (fun w' hS => Rn.move rfl) rfl rfl rfl rfl ?_
        refine VH.mv (fun w' hS => Rn.move rfl) rfl rfl rfl rfl ?_
        refine VH.mv (fun w' hS => Rn.move rfl) rfl rfl rfl rfl ?_
        refine VH.mv (fun w' hS => Rn.move rfl) rfl rfl rfl rfl ?_
        refine VH.mv (fun w' hS => Rn.len Tryz.underlying30 rfl) rfl rfl rfl rfl ?_
        refine VH.mv (fun w' hS => Rn.eqlF rfl rfl (by omega)) rfl rfl rfl rfl ?_
        refine VH.mv (fun w' hS => Rn.move rfl) rfl rfl rfl rfl ?_
        refine VH.mv (fun w' hS => Rn.move rfl) rfl rfl rfl rfl ?_
        refine VH.mv (fun w' hS => Rn.indexS Tryz.underlying30 Tryz.sizeOf9 rfl rfl (nl_14.sl.ne (by omega)) (by omega) (by omega)) rfl rfl rfl rfl ?_
        refine VH.mv (fun w' hS => Rn.load Tryz.isAgg9 rfl (nm_get (((nl_14).to hS (by intro q h1 h2 hx h3; omega)).sl) hhd)) rfl rfl rfl rfl ?_
        refine VH.mv (fun w' hS => Rn.field Tryz.underlying32 rfl Tryz.sizeOf9 rfl rfl rfl) rfl rfl rfl rfl ?_
        refine VH.mv (fun w' hS => Rn.load Tryz.isAgg9 rfl ((b10_14.to hS (by first | exact id | omega)).cell rfl)) rfl rfl rfl rfl ?_
        refine VH.mv (fun w' hS => Rn.nm_neqF rfl rfl hy0) rfl rfl rfl rfl ?_
        refine VH.mv (fun w' hS => Rn.pick_false rfl rfl) rfl rfl rfl rfl ?_
        refine VH.mv (fun w' hS => Rn.pick_true rfl rfl) rfl rfl rfl rfl ?_
        refine VH.mv (fun w' hS => Rn.pick_false rfl rfl) rfl rfl rfl rfl ?_
        refine VH.mv (fun w' hS => Rn.move rfl) rfl rfl rfl rfl ?_
        refine VH.mv (fun w' hS => Rn.move rfl) rfl rfl rfl rfl ?_
        refine VH.mv (fun w' hS => Rn.move rfl) rfl rfl rfl rfl ?_
        refine VH.mv (fun w' hS => Rn.move rfl) rfl rfl rfl rfl ?_
        have us_15 := us_14.to c15 (by first | exact fun _ _ _ _ => id | (intro q h1 h2 hx h3; omega))
        have hrow := (us_15).to' rfl hU3
        have nl_15 := nl_14.to c15 (by first | exact fun _ _ _ _ => id | (intro q h1 h2 hx h3; omega))
        refine VH.wk (Wk.call Tryz.call12 rfl (lately_true U2 L1 (roomN M) _ _ _ _ _ _ _ _ hU2 hrow.sl nl_15.sl (by omega) (by omega) (by omega) (fun y hy => by have := us_15.lt; omega) (fun y hy => by have := nl_15.lt; omega) (by rw [lateGo_nil]; exact hfin))) rfl rfl rfl rfl ?_
        rintro _ w16 ⟨rfl, c16⟩
        have z16 := c16.size
        have RD_16 := RD_15.and c16
        refine ⟨RD_16, ?_⟩
        refine VH.mv (fun w' hS => Rn.not rfl) rfl rfl rfl rfl ?_
        refine VH.mv (fun w' hS => Rn.pick_false rfl rfl) rfl rfl rfl rfl ?_
        refine VH.done ?_
        refine VO.nil ?_
        refine VQ.noPanic ?_
        refine VQ.then_code ?_
        refine VC.cond_false rfl ?_
        refine VC.skip ?_
        refine VQ.block_normal ?_
        refine VQ.then_code ?_
        refine VC.region ?_
        refine VO.mv (Rn.add rfl rfl (by rw [IntKind.wrap_i64]; omega)) rfl rfl rfl ?_
        refine VO.mv (Rn.move rfl) rfl rfl rfl ?_
        refine VO.nil ?_
        refine VQ.round (i + 1, U2, ul + 1, r12, A12, k12) (by (dsimp only; omega)) ?_ ⟨rfl, rfl, rfl, rfl, rfl, rfl, trivial⟩
        have sr_16 := sr15.keep c16
        have us_16 := us_15.keep c16
        have sc_15 := sc_14.to c15 (by first | exact fun _ _ _ _ => id | (intro q h1 h2 hx h3; have := hS q h2; omega))
        have sc_16 := sc_15.keep c16
        have er_15 := er_14.to c15 (by first | exact fun _ _ _ _ => id | (intro q h1 h2 hx h3; omega))
        have er_16 := er_15.keep c16
        have st_11 := st_10.keep c11
        have st_12 := st_11.to c12 (by first | exact fun _ _ _ _ => id | (intro q h1 h2 hx h3; omega))
        have st_13 := st_12.to c13 (by first | exact fun _ _ _ _ => id | (intro q h1 h2 hx h3; omega))
        have st_14 := st_13.keep c14
        have st_15 := st_14.to c15 (by first | exact fun _ _ _ _ => id | (intro q h1 h2 hx h3; omega))
        have st_16 := st_15.keep c16
        have tab_11 := tab_10.keep c11
        have tab_12 := tab_11.to c12 (by first | exact fun _ _ _ _ => id | (intro q h1 h2 hx h3; omega))
        have tab_13 := tab_12.to c13 (by first | exact fun _ _ _ _ => id | (intro q h1 h2 hx h3; omega))
        have tab_14 := tab_13.keep c14
        have tab_15 := tab_14.to c15 (by first | exact fun _ _ _ _ => id | (intro q h1 h2 hx h3; omega))
        have tab_16 := tab_15.keep c16
        have CH_11 := CH_10.and c11
        have CH_12 : Ch (No) w w12 := CH_11.then c12 (by intro q h1 h2; rcases h2 with h2 | h2 <;> first | exact h2 | (exfalso; omega) | omega)
        have CH_13 : Ch (No) w w13 := CH_12.then c13 (by intro q h1 h2; rcases h2 with h2 | h2 <;> first | exact h2 | (exfalso; omega) | omega)
        have CH_14 := CH_13.and c14
        have CH_15 : Ch (No) w w15 := CH_14.then c15 (by intro q h1 h2; rcases h2 with h2 | h2 <;> first | exact h2 | (exfalso; omega) | omega)
        have CH_16 := CH_15.and c16
        exact ⟨r1, L1, m1, by omega, hU2, by omega, dm1, hfin, by omega, by omega, by omega, sr_16, (us_16).to' rfl hU3, sc_16, er_16, st_16, tab_16, CH_16⟩
      · skip
        try simp only [Bool.and_eq_true, Bool.or_eq_true, Bool.not_eq_true', Bool.not_eq_false', Bool.and_eq_false_iff, Bool.or_eq_false_iff, decide_eq_true_eq, decide_eq_false_iff_not] at hc5
        subst hc5
        have hk4 : L1 = L := by rcases hus with h | h; cases h.1; exact h.2
        obtain ⟨U2, hUe⟩ : ∃ U2, U2 = U := ⟨_, rfl⟩
        have hU2 : U2.length = ul := by rw [hUe]; exact hul
        have hU3 : U.map strV = U2.map strV := by rw [hUe]
        have hfin : L1 = (dd U2.reverse).take (roomN M) := by rw [hUe]; exact hk4.trans hLd
        have hll1 : L1.length ≤ roomN M := by rw [hfin]; simp; omega
        refine VC.skip ?_
        refine VQ.then_code ?_
        refine VC.seq ?_
        refine VC.region ?_
        refine VO.mv (Rn.move rfl) rfl rfl rfl ?_
        refine VO.wk (Wk.call Tryz.call10 rfl (law_names (roomN M) q2 mb2 r1 L1 m1 _ sr_10 (by omega) (by omega))) rfl rfl rfl ?_
        rintro _ w17 ⟨rn, nA, nc, rfl, nl17, yrn, sr17, c17⟩
        have lnl17 := nl17.lt
        have z17 := c17.size
        refine VO.mv (Rn.move rfl) rfl rfl rfl ?_
        refine VO.mv (Rn.extract rfl rfl) rfl rfl rfl ?_
        refine VO.mv (Rn.extract rfl rfl) rfl rfl rfl ?_
        refine VO.mv (Rn.assign rfl) rfl rfl rfl ?_
        refine VO.mv (Rn.assign rfl) rfl rfl rfl ?_
        refine VO.nil ?_
        refine VQ.then_code ?_
        refine VC.seq ?_
        refine VC.draws 38 [(0, true), (1, true), (2, true), (3, true), (4, true), (5, true), (6, true), (7, true), (8, true), (9, true), (11, true), (12, true), (10, false), (13, true), (14, true), (15, true), (16, true), (17, true), (18, true), (19, true), (20, true), (21, true), (22, true), (23, true), (24, true), (25, true), (26, true), (27, true), (28, true), (29, true), (30, true), (31, true), (32, true), (33, true), (34, true), (35, false), (36, true), (37, true)] (fun w1 w' => Ch (QS q2 mb2 r1) w1 w') mixed (by kernel_rfl) (fun _ _ => Ch.refl _ _) ?_
        intro w18 D18
        have c18 := Ch.of_drew D18; have z18 := c18.size
        have sc_17 := sc_10.to c17 (by first | exact fun _ _ _ _ => id | (intro q h1 h2 hx h3; have := hS q h2; omega))
        have sc_18 := sc_17.keep c18
        have er_17 := er_10.to c17 (by first | exact fun _ _ _ _ => id | (intro q h1 h2 hx h3; omega))
        have er_18 := er_17.keep c18
        have us_17 := us_10.to c17 (by first | exact fun _ _ _ _ => id | (intro q h1 h2 hx h3; omega))
        have us_18 := us_17.keep c18
        have b10_17 := b10_10.to c17 (by first | exact id | omega)
        have b10_18 := b10_17.keep c18
        have nl_18 := nl17.keep c18
        refine VH.mv (fun w' hS => Rn.move rfl) rfl rfl rfl rfl ?_
        refine VH.mv (fun w' hS => Rn.not rfl) rfl rfl rfl rfl ?_
        refine VH.mv (fun w' hS => Rn.move rfl) rfl rfl rfl rfl ?_
        refine VH.mv (fun w' hS => Rn.move rfl) rfl rfl rfl rfl ?_
        refine VH.mv (fun w' hS => Rn.len Tryz.underlying30 rfl) rfl rfl rfl rfl ?_
        refine VH.mv (fun w' hS => Rn.move rfl) rfl rfl rfl rfl ?_
        refine VH.mv (fun w' hS => Rn.gtrF rfl rfl (by omega)) rfl rfl rfl rfl ?_
        refine VH.mv (fun w' hS => Rn.pick_false rfl rfl) rfl rfl rfl rfl ?_
        refine VH.mv (fun w' hS => Rn.move rfl) rfl rfl rfl rfl ?_
        refine VH.mv (fun w' hS => Rn.move rfl) rfl rfl rfl rfl ?_
        refine VH.mv (fun w' hS => Rn.move rfl) rfl rfl rfl rfl ?_
        refine VH.mv (fun w' hS => Rn.len Tryz.underlying30 rfl) rfl rfl rfl rfl ?_
        have sr_18 := sr17.keep c18
        refine VH.wk (Wk.call Tryz.call11 rfl (st_Len (roomN M) q2 mb2 r1 L1 m1 _ sr_18 (by omega))) rfl rfl rfl rfl ?_
        rintro _ w19 ⟨rfl, sr19, c19⟩
        have z19 := c19.size
        have RD_19 : Ch (QS q2 mb2 r1) w18 w19 := (Ch.refl (QS q2 mb2 r1) w18).then c19 (by intro q h1 h2; rcases h2 with h2 | h2 <;> first | exact h2 | (exfalso; omega) | omega)
        refine ⟨RD_19, ?_⟩
        refine VH.mv (fun w' hS => Rn.neqF rfl rfl rfl) rfl rfl rfl rfl ?_
        refine VH.mv (fun w' hS => Rn.pick_false rfl rfl) rfl rfl rfl rfl ?_
        refine VH.mv (fun w' hS => Rn.move rfl) rfl rfl rfl rfl ?_
        refine VH.mv (fun w' hS => Rn.move rfl) rfl rfl rfl rfl ?_
        refine VH.mv (fun w' hS => Rn.move rfl) rfl rfl rfl rfl ?_
        refine VH.skip rfl rfl rfl rfl ?_
        refine VH.skip rfl rfl rfl rfl ?_
        refine VH.skip rfl rfl rfl rfl ?_
        refine VH.skip rfl rfl rfl rfl ?_
        refine VH.skipU rfl rfl rfl rfl rfl rfl ?_
        refine VH.skipU rfl rfl rfl rfl rfl rfl ?_
        refine VH.skipU rfl rfl rfl rfl rfl rfl ?_
        refine VH.skipU rfl rfl rfl rfl rfl rfl ?_
        refine VH.skipU rfl rfl rfl rfl rfl rfl ?_
        refine VH.skipU rfl rfl rfl rfl rfl rfl ?_
        refine VH.skip rfl rfl rfl rfl ?_
        refine VH.mv (fun w' hS => Rn.pick_false rfl rfl) rfl rfl rfl rfl ?_
        refine VH.mv (fun w' hS => Rn.pick_false rfl rfl) rfl rfl rfl rfl ?_
        refine VH.mv (fun w' hS => Rn.move rfl) rfl rfl rfl rfl ?_
        refine VH.mv (fun w' hS => Rn.move rfl) rfl rfl rfl rfl ?_
        refine VH.mv (fun w' hS => Rn.move rfl) rfl rfl rfl rfl ?_
        refine VH.mv (fun w' hS => Rn.move rfl) rfl rfl rfl rfl ?_
        have us_19 := us_18.to c19 (by first | exact fun _ _ _ _ => id | (intro q h1 h2 hx h3; omega))
        have hrow := (us_19).to' rfl hU3
        have nl_19 := nl_18.to c19 (by first | exact fun _ _ _ _ => id | (intro q h1 h2 hx h3; omega))
        refine VH.wk (Wk.call Tryz.call12 rfl (lately_true U2 L1 (roomN M) _ _ _ _ _ _ _ _ hU2 hrow.sl nl_19.sl (by omega) (by omega) (by omega) (fun y hy => by have := us_19.lt; omega) (fun y hy => by have := nl_19.lt; omega) (by rw [lateGo_nil]; exact hfin))) rfl rfl rfl rfl ?_
        rintro _ w20 ⟨rfl, c20⟩
        have z20 := c20.size
        have RD_20 := RD_19.and c20
        refine ⟨RD_20, ?_⟩
        refine VH.mv (fun w' hS => Rn.not rfl) rfl rfl rfl rfl ?_
        refine VH.mv (fun w' hS => Rn.pick_false rfl rfl) rfl rfl rfl rfl ?_
        refine VH.done ?_
        refine VO.nil ?_
        refine VQ.noPanic ?_
        refine VQ.then_code ?_
        refine VC.cond_false rfl ?_
        refine VC.skip ?_
        refine VQ.block_normal ?_
        refine VQ.then_code ?_
        refine VC.region ?_
        refine VO.mv (Rn.add rfl rfl (by rw [IntKind.wrap_i64]; omega)) rfl rfl rfl ?_
        refine VO.mv (Rn.move rfl) rfl rfl rfl ?_
        refine VO.nil ?_
        refine VQ.round (i + 1, U2, ul, ru, UA, uc) (by (dsimp only; omega)) ?_ ⟨rfl, rfl, rfl, rfl, rfl, rfl, trivial⟩
        have sr_20 := sr19.keep c20
        have us_20 := us_19.keep c20
        have sc_19 := sc_18.to c19 (by first | exact fun _ _ _ _ => id | (intro q h1 h2 hx h3; have := hS q h2; omega))
        have sc_20 := sc_19.keep c20
        have er_19 := er_18.to c19 (by first | exact fun _ _ _ _ => id | (intro q h1 h2 hx h3; omega))
        have er_20 := er_19.keep c20
        have st_17 := st_10.to c17 (by first | exact fun _ _ _ _ => id | (intro q h1 h2 hx h3; omega))
        have st_18 := st_17.keep c18
        have st_19 := st_18.to c19 (by first | exact fun _ _ _ _ => id | (intro q h1 h2 hx h3; omega))
        have st_20 := st_19.keep c20
        have tab_17 := tab_10.to c17 (by first | exact fun _ _ _ _ => id | (intro q h1 h2 hx h3; omega))
        have tab_18 := tab_17.keep c18
        have tab_19 := tab_18.to c19 (by first | exact fun _ _ _ _ => id | (intro q h1 h2 hx h3; omega))
        have tab_20 := tab_19.keep c20
        have CH_17 : Ch (No) w w17 := CH_10.then c17 (by intro q h1 h2; rcases h2 with h2 | h2 <;> first | exact h2 | (exfalso; omega) | omega)
        have CH_18 := CH_17.and c18
        have CH_19 : Ch (No) w w19 := CH_18.then c19 (by intro q h1 h2; rcases h2 with h2 | h2 <;> first | exact h2 | (exfalso; omega) | omega)
        have CH_20 := CH_19.and c20
        exact ⟨r1, L1, m1, by omega, hU2, by omega, dm1, hfin, by omega, by omega, by omega, sr_20, (us_20).to' rfl hU3, sc_20, er_20, st_20, tab_20, CH_20⟩
    · skip
      refine VC.exit ?_
      refine VQ.then_exit ?_
      refine VQ.then_exit ?_
      refine VQ.block_exit ?_
      refine VQ.then_code ?_
      refine VC.seq ?_
      refine VC.region ?_
      refine VO.mv (Rn.assign rfl) rfl rfl rfl ?_
      refine VO.nil ?_
      refine VQ.then_code ?_
      refine VC.ret ?_
      refine VQ.ret1 rfl rfl ?_
      refine Ret.mk ?_
      exact ⟨rfl, CH_4⟩

end Go.Tm
