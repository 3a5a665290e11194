/- Lemmas of this claim, joined by program. A store's names and map, in plain Lean. Walks of functions: the law's own (sameTexts, lately). Lengths from 1 to 24 have plans: the kernel reckons them. Walks of functions: pack (small), plans of the law. Walks of functions: what the law holds fixed. Conditions: each lemma names its own. -/
import Derived.Test.YtgnkdfkkplbjiaaGreatDoorB12
import Derived.Test.YtgnkdfkkplbjiaaGreatDoorB11
import Derived.KernelRfl
set_option linter.all false
namespace Go.Tm
open Go.RowKit
abbrev Nm := List UInt8
theorem mem_without {x y : Nm} {L : List Nm} : y ∈ without x L ↔ y ∈ L ∧ y ≠ x := by simp [without]
theorem without_nodup {x : Nm} {L : List Nm} (h : L.Nodup) : (without x L).Nodup := h.filter _
theorem without_cons {x y : Nm} {L : List Nm} : without x (y :: L) = if y = x then without x L else y :: without x L := by
  unfold without
  by_cases e : y = x <;> simp [e]
theorem without_append {x : Nm} {L M : List Nm} : without x (L ++ M) = without x L ++ without x M := by simp [without]
theorem mfind_mset1 (m : List (Nm × Value)) (k y : Nm) (v : Value) : mfind (mset1 m k v) y = if y = k then some v else mfind m y := by
  induction m with
  | nil => by_cases e : y = k <;> simp [mset1, mfind, e]
  | cons x t ih =>
    simp only [mset1]
    by_cases hk : k = x.1
    · rw [if_pos (by simpa using hk)]
      by_cases e : y = k
      · subst e; simp [mfind]
      · have : ¬ y = x.1 := fun h => e (h.trans hk.symm)
        simp [mfind, e, this]
    · rw [if_neg (by simpa using hk)]
      by_cases e2 : y = x.1
      · have : ¬ y = k := fun h => hk (h.symm.trans e2)
        (have h9 : ¬ x.1 = k := fun h => hk h.symm); simp [mfind, e2, h9]
      · have h1 : mfind (x :: mset1 t k v) y = mfind (mset1 t k v) y := by simp [mfind, e2]
        have h2 : mfind (x :: t) y = mfind t y := by simp [mfind, e2]
        rw [h1, h2, ih]
theorem mset1_keys (m : List (Nm × Value)) (k : Nm) (v : Value) : (mset1 m k v).map (·.1) = if k ∈ m.map (·.1) then m.map (·.1) else m.map (·.1) ++ [k] := by
  induction m with
  | nil => rfl
  | cons x t ih =>
    simp only [mset1]
    by_cases hk : k = x.1
    · rw [if_pos (by simpa using hk)]; simp [hk]
    · rw [if_neg (by simpa using hk)]
      simp only [List.map_cons, ih, List.mem_cons, hk, false_or]
      split <;> simp
theorem mdel_keys (m : List (Nm × Value)) (k : Nm) : ((mdel m k).map (·.1)).Sublist (m.map (·.1)) := by
  induction m with
  | nil => exact List.Sublist.refl _
  | cons x t ih =>
    simp only [mdel]
    split
    · exact List.sublist_cons_self _ _
    · exact ih.cons₂ _
theorem mfind_isSome {m : List (Nm × Value)} {y : Nm} : (mfind m y).isSome = true ↔ y ∈ m.map (·.1) := by
  induction m with
  | nil => simp [mfind]
  | cons x t ih =>
    by_cases e : y = x.1
    · simp [mfind, e]
    · have h2 : mfind (x :: t) y = mfind t y := by simp [mfind, e]
      rw [h2, ih]; simp [e]
theorem mfind_mdel {m : List (Nm × Value)} (hn : (m.map (·.1)).Nodup) (k y : Nm) : mfind (mdel m k) y = if y = k then none else mfind m y := by
  induction m with
  | nil => by_cases e : y = k <;> simp [mdel, mfind, e]
  | cons x t ih =>
    simp only [List.map_cons, List.nodup_cons] at hn
    simp only [mdel]
    by_cases hk : k = x.1
    · rw [if_pos (by simpa using hk)]
      by_cases e : y = k
      · rw [if_pos e]
        have : ¬ (mfind t y).isSome = true := fun h => hn.1 (by rw [← hk, ← e]; exact mfind_isSome.1 h)
        simpa using this
      · have : ¬ y = x.1 := fun h => e (h.trans hk.symm)
        rw [if_neg e]
        simp [mfind, this]
    · rw [if_neg (by simpa using hk)]
      by_cases e2 : y = x.1
      · (have h9 : ¬ x.1 = k := fun h => hk h.symm); simp [mfind, e2, h9]
      · have h1 : mfind (x :: mdel t k) y = mfind (mdel t k) y := by simp [mfind, e2]
        have h2 : mfind (x :: t) y = mfind t y := by simp [mfind, e2]
        rw [h1, h2, ih hn.2]
/-- What the names and the map have to do with each other. -/
structure DomI (L : List Nm) (m : List (Nm × Value)) : Prop where
  km : (m.map (·.1)).Nodup
  kl : L.Nodup
  dom : ∀ x, (mfind m x).isSome = true ↔ x ∈ L
theorem DomI.nil : DomI [] [] := ⟨by simp, by simp, fun x => by simp [mfind]⟩
theorem DomI.touch {L : List Nm} {m : List (Nm × Value)} (h : DomI L m) {x : Nm} (hx : x ∈ L) : DomI (x :: without x L) m := by
  refine ⟨h.km, List.nodup_cons.2 ⟨fun hm => (mem_without.1 hm).2 rfl, without_nodup h.kl⟩, fun y => ?_⟩
  rw [h.dom y, List.mem_cons, mem_without]
  by_cases e : y = x
  · subst e; simp [hx]
  · simp [e]
theorem mset1_nodup {m : List (Nm × Value)} (h : (m.map (·.1)).Nodup) (k : Nm) (v : Value) : ((mset1 m k v).map (·.1)).Nodup := by
  rw [mset1_keys]
  split
  · exact h
  · rename_i hk
    rw [List.nodup_append]
    exact ⟨h, by simp, fun a ha b hb e => by simp at hb; subst hb; subst e; exact hk ha⟩
theorem DomI.put {L : List Nm} {m : List (Nm × Value)} (h : DomI L m) (x : Nm) (v : Value) : DomI (x :: without x L) (mset1 m x v) := by
  refine ⟨mset1_nodup h.km x v, List.nodup_cons.2 ⟨fun hm => (mem_without.1 hm).2 rfl, without_nodup h.kl⟩, fun y => ?_⟩
  rw [mfind_mset1, List.mem_cons, mem_without]
  by_cases e : y = x
  · simp [e]
  · rw [if_neg e, h.dom y]; simp [e]
theorem DomI.drop {L : List Nm} {m : List (Nm × Value)} (h : DomI L m) (x : Nm) : DomI (without x L) (mdel m x) := by
  refine ⟨h.km.sublist (mdel_keys m x), without_nodup h.kl, fun y => ?_⟩
  rw [mfind_mdel h.km, mem_without]
  by_cases e : y = x
  · simp [e]
  · rw [if_neg e, h.dom y]; simp [e]
theorem DomI.keep {L : List Nm} {m : List (Nm × Value)} (h : DomI L m) (mo : Nat) (x : Nm) (v : Value) : DomI (keepL mo x L) (keepM mo x v L m) := by
  have h1 := h.put x v
  unfold keepL keepM
  cases hy : (x :: without x L)[mo]? with
  | none => exact h1
  | some y => exact h1.drop y
/-- Each once, at its first place. -/
def dd : List Nm → List Nm
  | [] => []
  | x :: t => x :: without x (dd t)
theorem dd_nodup : ∀ l, (dd l).Nodup
  | [] => by simp [dd]
  | x :: t => List.nodup_cons.2 ⟨fun hm => (mem_without.1 hm).2 rfl, without_nodup (dd_nodup t)⟩
/-- Removing one of the first, or one behind them. -/
theorem take_without_in : ∀ (n : Nat) (D : List Nm) (x : Nm), D.Nodup → x ∈ D.take (n + 1) → (without x D).take n = without x (D.take (n + 1))
  | n, [], x, _, h => by simp at h
  | n, y :: D, x, hn, h => by
    rw [List.take_succ_cons] at h ⊢
    have hn' := List.nodup_cons.1 hn
    rw [without_cons, without_cons]
    by_cases e : y = x
    · subst e
      rw [if_pos rfl, if_pos rfl, without_self hn'.1, without_self (fun h => hn'.1 (List.mem_of_mem_take h))]
    · rw [if_neg e, if_neg e]
      have hx : x ∈ D.take n := by
        rcases List.mem_cons.1 h with h | h
        · exact absurd h.symm e
        · exact h
      cases n with
      | zero => simp at hx
      | succ n =>
        rw [List.take_succ_cons, take_without_in n D x hn'.2 hx]
theorem take_without_out : ∀ (n : Nat) (D : List Nm) (x : Nm), x ∉ D.take n → (without x D).take n = D.take n
  | 0, D, x, _ => by simp
  | n + 1, [], x, _ => by simp [without]
  | n + 1, y :: D, x, h => by
    rw [List.take_succ_cons, List.mem_cons, not_or] at h
    rw [without_cons, if_neg (fun e => h.1 e.symm), List.take_succ_cons, List.take_succ_cons, take_without_out n D x h.2]
/-- A store's names, when one is used. -/
theorem keepL_take {mo : Nat} (hm : 1 ≤ mo) {D : List Nm} (hD : D.Nodup) (x : Nm) : keepL mo x (D.take mo) = (x :: without x D).take mo := by
  obtain ⟨n, rfl⟩ : ∃ n, mo = n + 1 := ⟨mo - 1, by omega⟩
  rw [List.take_succ_cons]
  by_cases hx : x ∈ D.take (n + 1)
  · have hl : (x :: without x (D.take (n + 1)))[n + 1]? = none := by
      apply List.getElem?_eq_none
      rw [← take_without_in n D x hD hx]
      simp; omega
    unfold keepL
    rw [hl, take_without_in n D x hD hx]
  · have hw := without_self hx
    have ho : (without x D).take n = D.take n := take_without_out n D x (fun h => hx (by
      rw [List.take_add_one]; exact List.mem_append_left _ h))
    unfold keepL
    rw [hw, ho, List.getElem?_cons_succ, List.getElem?_take, if_pos (by omega)]
    cases hy : D[n]? with
    | none => rw [List.take_add_one, hy]; simp
    | some y =>
      rw [List.take_add_one, hy]
      have hyx : y ≠ x := fun e => hx (by rw [List.take_add_one, hy, e]; simp)
      have hny : y ∉ D.take n := fun h => by
        obtain ⟨i, hi, he⟩ := List.mem_take_iff_getElem.1 h
        obtain ⟨hn, hv⟩ := List.getElem?_eq_some_iff.1 hy
        have h9 : i = n := (List.getElem_inj hD).1 (he.trans hv.symm)
        omega
      simp only [Option.toList_some]
      rw [without_cons, if_neg (fun e => hyx e.symm), without_append, without_self hny]
      simp [without]
theorem touchL_take {mo : Nat} {D : List Nm} (hD : D.Nodup) {x : Nm} (hx : x ∈ D.take mo) : x :: without x (D.take mo) = (x :: without x D).take mo := by
  obtain ⟨n, rfl⟩ : ∃ n, mo = n + 1 := ⟨mo - 1, by cases mo with | zero => simp at hx | succ n => rfl⟩
  rw [List.take_succ_cons, take_without_in n D x hD hx]
/-- The names used last, by the law's own way. -/
def lateGo (room : Nat) : List Nm → List Nm → List Nm
  | [], want => want
  | x :: t, want => if want.length < room then lateGo room t (if want.contains x then want else want ++ [x]) else want
theorem filter_dd_cons (x : Nm) (t want : List Nm) (hx : want.contains x = false) : (dd (x :: t)).filter (fun y => !want.contains y) = x :: (dd t).filter (fun y => !(want ++ [x]).contains y) := by
  have hx' : x ∉ want := by simpa using hx
  simp only [dd, List.filter_cons]
  rw [if_pos (by simp [hx'])]
  congr 1
  unfold without
  rw [List.filter_filter]
  apply List.filter_congr
  intro y _
  by_cases e : y = x <;> simp [e]
theorem filter_dd_skip (x : Nm) (t want : List Nm) (hx : want.contains x = true) : (dd (x :: t)).filter (fun y => !want.contains y) = (dd t).filter (fun y => !want.contains y) := by
  have hx' : x ∈ want := by simpa using hx
  simp only [dd, List.filter_cons]
  rw [if_neg (by simp [hx'])]
  unfold without
  rw [List.filter_filter]
  apply List.filter_congr
  intro y _
  by_cases e : y = x <;> simp [e, hx']
theorem lateGo_eq (room : Nat) : ∀ (l want : List Nm), want.length ≤ room → lateGo room l want = want ++ ((dd l).filter (fun y => !want.contains y)).take (room - want.length)
  | [], want, _ => by simp [lateGo, dd]
  | x :: t, want, h => by
    simp only [lateGo]
    by_cases hl : want.length < room
    · rw [if_pos hl]
      cases hx : want.contains x with
      | true =>
        rw [if_pos rfl, lateGo_eq room t want h, filter_dd_skip x t want hx]
      | false =>
        rw [if_neg (by simp), lateGo_eq room t (want ++ [x]) (by simp; omega), filter_dd_cons x t want hx]
        obtain ⟨k, hk⟩ : ∃ k, room - want.length = k + 1 := ⟨room - want.length - 1, by omega⟩
        rw [hk, List.take_succ_cons]
        simp only [List.length_append, List.length_cons, List.length_nil]
        rw [show room - (want.length + (0 + 1)) = k by omega]
        simp
    · rw [if_neg hl, show room - want.length = 0 by omega]
      simp
theorem lateGo_nil (room : Nat) (l : List Nm) : lateGo room l [] = (dd l).take room := by
  rw [lateGo_eq room l [] (by simp)]
  have : (dd l).filter (fun y => !([] : List Nm).contains y) = dd l := List.filter_eq_self.2 (fun a _ => by simp)
  rw [this]; simp
end Go.Tm
namespace Go.Tm
open Go.RowKit Go.Proofs
theorem nm_get {S : Nat → Prop} {w : World} {A : Option Addr} {l : Nat} {L : List Nm} {i : Nat} {y : Nm} (h : SlR S w A l 1 (L.map strV)) (hy : L[i]? = some y) : w.cell? ((sAddr A).add (i * 1)) = some (strV y) := by
  have hl := h.len
  have hi := (List.getElem?_eq_some_iff.1 hy).1
  refine h.one (by simp at hl; omega) ?_
  rw [List.getElem?_map, hy]; rfl
theorem ext_take {L M : List Nm} (hl : L.length = M.length) (h : L.take L.length = M.take L.length) : L = M := by
  rwa [List.take_length, hl, List.take_length] at h
theorem rev_take {U : List Nm} {i : Nat} {x : Nm} (h : U[i]? = some x) : (U.take (i + 1)).reverse = x :: (U.take i).reverse := by
  rw [List.take_add_one, h]; simp
theorem late_end {ro : Nat} {U want : List Nm} {i : Int} (h : ¬ 0 ≤ i ∨ ¬ (want.length : Int) < ro) : lateGo ro (U.take (i + 1).toNat).reverse want = want := by
  cases hrev : (U.take (i + 1).toNat).reverse with
  | nil => rfl
  | cons a t =>
    rw [lateGo, if_neg]
    intro hlt
    rcases h with h | h
    · rw [show (i + 1).toNat = 0 by omega] at hrev
      simp at hrev
    · omega

set_option maxRecDepth 100000 in
theorem inf9w27 : Inf Tryz.prog 9 (.string ⟨#[]⟩) 1 16 := ⟨Tryz.t9, Tryz.type9, rfl, rfl, rfl⟩
set_option maxRecDepth 100000 in
theorem sameTexts (L M : List Nm) (S1 S2 : Nat → Prop) (A B : Option Addr) (c d : Nat) (w : World) (s1 : SlR S1 w A L.length 1 (L.map strV)) (s2 : SlR S2 w B M.length 1 (M.map strV)) (hL : L.length ≤ 1000000000) (hM : M.length ≤ 1000000000) :
    Calls Tryz.prog 15 #[.slice A L.length c, .slice B M.length d] w (Ret (fun v w' => v = .bool (decide (L = M)) ∧ Ch No w w')) := by
  refine calls_of_VC (args := [.slice A L.length c, .slice B M.length d]) Tryz.func15 rfl Tryz.ntmps15 rfl ?_
  refine VC.seq ?_
  refine VC.region ?_
  refine VO.mv (Rn.assign rfl) rfl rfl rfl ?_
  refine VO.nil ?_
  refine VQ.then_code ?_
  refine VC.seq ?_
  refine VC.seq ?_
  refine VC.region ?_
  refine VO.mv (Rn.move rfl) rfl rfl rfl ?_
  refine VO.mv (Rn.len Tryz.underlying30 rfl) rfl rfl rfl ?_
  refine VO.mv (Rn.move rfl) rfl rfl rfl ?_
  refine VO.mv (Rn.len Tryz.underlying30 rfl) rfl rfl rfl ?_
  refine VO.mv (Rn.neq rfl rfl) rfl rfl rfl ?_
  refine VO.nil ?_
  refine VQ.then_code ?_
  refine VC.cond_if rfl (fun hc1 => ?_) (fun hc1 => ?_)
  · skip
    refine VC.seq ?_
    refine VC.region ?_
    refine VO.mv (Rn.assign rfl) rfl rfl rfl ?_
    refine VO.nil ?_
    refine VQ.then_code ?_
    refine VC.ret ?_
    refine VQ.then_ret ?_
    refine VQ.ret1 rfl rfl ?_
    refine Ret.mk ?_
    exact ⟨by rw [decide_eq_false (fun e => hc1 (by rw [e]))], (Ch.refl (No) w)⟩
  · skip
    refine VC.skip ?_
    refine VQ.then_code ?_
    refine VC.seq ?_
    refine VC.seq ?_
    refine VC.region ?_
    refine VO.mv (Rn.move rfl) rfl rfl rfl ?_
    refine VO.mv (Rn.len Tryz.underlying30 rfl) rfl rfl rfl ?_
    refine VO.mv (Rn.move rfl) rfl rfl rfl ?_
    refine VO.nil ?_
    refine VQ.then_code ?_
    refine VC.block ?_
    refine VC.loopS (σ := Nat) (fun i => [(0, .slice A L.length c), (1, .slice B M.length d), (12, .int .i64 L.length), (13, .int .i64 i)]) (fun i w' => i ≤ L.length ∧ L.take i = M.take i ∧ w.heap.size ≤ w'.heap.size ∧ SlR S1 w' A L.length 1 (L.map strV) ∧ SlR S2 w' B M.length 1 (M.map strV) ∧ Ch (No) w w') (fun i => L.length - i) 0 ?_ ⟨rfl, rfl, rfl, rfl, trivial⟩ ?_
    · exact ⟨(by omega), rfl, (Nat.le_refl _), s1, s2, (Ch.refl (No) w)⟩
    rintro i w1 ⟨hi, ht, hsz1, s1_1, s2_1, CH_1⟩
    show VC _ _ _ _ [(0, .slice A L.length c), (1, .slice B M.length d), (12, .int .i64 L.length), (13, .int .i64 i)] _
    refine VC.seq ?_
    refine VC.region ?_
    refine VO.mv (Rn.lss rfl rfl) rfl rfl rfl ?_
    refine VO.nil ?_
    refine VQ.then_code ?_
    refine VC.seq ?_
    refine VC.cond_if rfl (fun hc2 => ?_) (fun hc2 => ?_)
    · skip
      refine VC.skip ?_
      refine VQ.then_code ?_
      refine VC.seq ?_
      refine VC.block ?_
      refine VC.seq ?_
      refine VC.region ?_
      refine VO.mv (Rn.move rfl) rfl rfl rfl ?_
      refine VO.mv (Rn.assign rfl) rfl rfl rfl ?_
      refine VO.nil ?_
      refine VQ.then_code ?_
      refine VC.seq ?_
      obtain ⟨x, hx⟩ : ∃ x, L[i]? = some x := ⟨_, List.getElem?_eq_getElem (by omega)⟩
      obtain ⟨y, hy⟩ : ∃ y, M[i]? = some y := ⟨_, List.getElem?_eq_getElem (by omega)⟩
      refine VC.draws 9 [(0, true), (1, true), (2, true), (3, true), (4, true), (5, true), (6, true), (7, true), (8, true)] (fun w1 w' => Ch (No) w1 w') mixed (by kernel_rfl) (fun _ _ => Ch.refl _ _) ?_
      intro w2 D2
      have c2 := Ch.of_drew D2; have z2 := c2.size
      have s1_2 := s1_1.keep c2
      have s2_2 := s2_1.keep c2
      refine VH.mv (fun w' hS => Rn.move rfl) rfl rfl rfl rfl ?_
      refine VH.mv (fun w' hS => Rn.move rfl) rfl rfl rfl rfl ?_
      refine VH.mv (fun w' hS => Rn.indexS Tryz.underlying30 Tryz.sizeOf9 rfl rfl (s1_2.ne (by omega)) (by omega) (by omega)) rfl rfl rfl rfl ?_
      refine VH.mv (fun w' hS => Rn.load Tryz.isAgg9 rfl (nm_get ((s1_2).keep hS) hx)) rfl rfl rfl rfl ?_
      refine VH.mv (fun w' hS => Rn.move rfl) rfl rfl rfl rfl ?_
      refine VH.mv (fun w' hS => Rn.move rfl) rfl rfl rfl rfl ?_
      refine VH.mv (fun w' hS => Rn.indexS Tryz.underlying30 Tryz.sizeOf9 rfl rfl (s2_2.ne (by omega)) (by omega) (by omega)) rfl rfl rfl rfl ?_
      refine VH.mv (fun w' hS => Rn.load Tryz.isAgg9 rfl (nm_get ((s2_2).keep hS) hy)) rfl rfl rfl rfl ?_
      refine VH.mv (fun w' hS => Rn.nm_neq rfl rfl) rfl rfl rfl rfl ?_
      refine VH.done ?_
      refine VO.nil ?_
      refine VQ.noPanic ?_
      refine VQ.then_code ?_
      refine VC.cond_if rfl (fun hc3 => ?_) (fun hc3 => ?_)
      · skip
        refine VC.seq ?_
        refine VC.region ?_
        refine VO.mv (Rn.assign rfl) rfl rfl rfl ?_
        refine VO.nil ?_
        refine VQ.then_code ?_
        refine VC.ret ?_
        refine VQ.block_ret ?_
        refine VQ.then_ret ?_
        refine VQ.then_ret ?_
        refine VQ.block_ret ?_
        refine VQ.then_ret ?_
        refine VQ.ret1 rfl rfl ?_
        refine Ret.mk ?_
        have CH_2 := CH_1.and c2
        exact ⟨by rw [decide_eq_false (fun e => hc3 (by subst e; rw [hx] at hy; injection hy))], CH_2⟩
      · skip
        refine VC.skip ?_
        refine VQ.block_normal ?_
        refine VQ.then_code ?_
        refine VC.region ?_
        refine VO.mv (Rn.add rfl rfl (by rw [IntKind.wrap_i64]; omega)) rfl rfl rfl ?_
        refine VO.mv (Rn.move rfl) rfl rfl rfl ?_
        refine VO.nil ?_
        refine VQ.round (i + 1) (by first | omega | (dsimp only; omega)) ?_ ⟨rfl, rfl, rfl, rfl, trivial⟩
        have CH_2 := CH_1.and c2
        exact ⟨(by omega), (by rw [List.take_add_one, List.take_add_one, hx, hy, ht, Classical.not_not.1 hc3]), (by omega), s1_2, s2_2, CH_2⟩
    · skip
      refine VC.exit ?_
      refine VQ.then_exit ?_
      refine VQ.then_exit ?_
      refine VQ.block_exit ?_
      refine VQ.then_code ?_
      refine VC.seq ?_
      refine VC.region ?_
      refine VO.mv (Rn.assign rfl) rfl rfl rfl ?_
      refine VO.nil ?_
      refine VQ.then_code ?_
      refine VC.ret ?_
      refine VQ.ret1 rfl rfl ?_
      refine Ret.mk ?_
      have hil : i = L.length := by omega
      subst hil
      exact ⟨by rw [decide_eq_true (ext_take (by omega) ht)], CH_1⟩

set_option maxHeartbeats 1000000 in
set_option maxRecDepth 100000 in
theorem law_lately (U L : List Nm) (ro : Nat) (S1 S2 : Nat → Prop) (A B : Option Addr) (c d : Nat) (w : World) (su : SlR S1 w A U.length 1 (U.map strV)) (sl : SlR S2 w B L.length 1 (L.map strV)) (hU : U.length ≤ 9223372036854775807) (hL : L.length ≤ 1000000) (hr : ro ≤ 1000) (hS1 : ∀ y, S1 y → y < w.heap.size) (hS2 : ∀ y, S2 y → y < w.heap.size) :
    Calls Tryz.prog 12 #[.slice A U.length c, .slice B L.length d, .int .i64 ro] w (Ret (fun v w' => v = .bool (decide (L = lateGo ro U.reverse [])) ∧ Ch No w w')) := by
  refine calls_of_VC (args := [.slice A U.length c, .slice B L.length d, .int .i64 ro]) Tryz.func12 rfl Tryz.ntmps12 rfl ?_
  refine VC.seq ?_
  refine VC.region ?_
  refine VO.mv (Rn.assign rfl) rfl rfl rfl ?_
  refine VO.nil ?_
  refine VQ.then_code ?_
  refine VC.seq ?_
  refine VC.region ?_
  refine VO.wk (Wk.lit0 Tryz.underlying30 inf9w27) rfl rfl rfl ?_
  rintro _ w1 ⟨p1, rfl, N1⟩
  have c1 := N1.ch
  have e1 := N1.p; have z1 := N1.size
  have l12o := Ow.of_new (cs := []) (sz := 1) (l := 0) N1 rfl (by decide)
  refine VO.mv (Rn.assign rfl) rfl rfl rfl ?_
  refine VO.nil ?_
  refine VQ.then_code ?_
  refine VC.seq ?_
  refine VC.seq ?_
  refine VC.region ?_
  refine VO.mv (Rn.move rfl) rfl rfl rfl ?_
  refine VO.mv (Rn.len Tryz.underlying30 rfl) rfl rfl rfl ?_
  refine VO.mv (Rn.sub rfl rfl (by rw [IntKind.wrap_i64]; omega)) rfl rfl rfl ?_
  refine VO.mv (Rn.assign rfl) rfl rfl rfl ?_
  refine VO.nil ?_
  refine VQ.then_code ?_
  refine VC.block ?_
  have su_1 := su.keep c1
  have sl_1 := sl.keep c1
  have CH_1 := (Ch.refl (No) w).and c1
  refine VC.loopS (σ := Int × List Nm × Nat × Nat × Option Addr × Nat) (fun (i, want, wl, r, WA, wc) => [(0, .slice A U.length c), (1, .slice B L.length d), (2, .int .i64 ro), (7, .slice WA wl wc), (8, .int .i64 i)]) (fun (i, want, wl, r, WA, wc) w' => -1 ≤ i ∧ i < U.length ∧ want.length = wl ∧ wl ≤ ro ∧ lateGo ro U.reverse [] = lateGo ro (U.take (i + 1).toNat).reverse want ∧ SlR S1 w' A U.length 1 (U.map strV) ∧ SlR S2 w' B L.length 1 (L.map strV) ∧ Ow w' r 9 1 WA wl wc (want.map strV) ∧ w.heap.size < r ∧ Ch No w w') (fun (i, want, wl, r, WA, wc) => (i + 1).toNat) ((U.length : Int) - 1, [], 0, p1 + 1, some ⟨p1, 0, none⟩, 0) ?_ ⟨rfl, rfl, rfl, rfl, rfl, trivial⟩ ?_
  · exact ⟨by omega, by omega, rfl, by omega, by rw [show ((U.length : Int) - 1 + 1).toNat = U.length by omega, List.take_length], su_1, sl_1, l12o, by omega, CH_1⟩
  rintro ⟨i, want, wl, r, WA, wc⟩ w2 ⟨hi0, hi1, hwl, hwr, hgo, su_2, sl_2, row_2, hrr, CH_2⟩
  show VC _ _ _ _ [(0, .slice A U.length c), (1, .slice B L.length d), (2, .int .i64 ro), (7, .slice WA wl wc), (8, .int .i64 i)] _
  have zc := CH_2.size; have lrow := row_2.lt
  refine VC.seq ?_
  refine VC.seq ?_
  refine VC.region ?_
  refine VO.mv (Rn.move rfl) rfl rfl rfl ?_
  refine VO.mv (Rn.geq rfl rfl) rfl rfl rfl ?_
  refine VO.mv (Rn.move rfl) rfl rfl rfl ?_
  refine VO.andJoin (b := _) 5 18 23 rfl (fun hc1 Jhc1 => by
      try simp only [Bool.and_eq_true, Bool.or_eq_true, Bool.not_eq_true', Bool.not_eq_false', Bool.and_eq_false_iff, Bool.or_eq_false_iff, decide_eq_true_eq, decide_eq_false_iff_not] at hc1
      refine VO.mv (Rn.move rfl) rfl rfl rfl ?_
      refine VO.mv (Rn.len Tryz.underlying30 rfl) rfl rfl rfl ?_
      refine VO.mv (Rn.move rfl) rfl rfl rfl ?_
      refine VO.mv (Rn.lss rfl rfl) rfl rfl rfl ?_
      refine VO.mv (Rn.pick_true rfl rfl) rfl rfl rfl ?_
      exact (VO.fg rfl (VO.fg rfl (VO.fg rfl (VO.fg rfl Jhc1))))) (fun hc1 Jhc1 => by
      refine VO.skip rfl rfl rfl ?_
      refine VO.skip rfl rfl rfl ?_
      refine VO.skip rfl rfl rfl ?_
      refine VO.skip rfl rfl rfl ?_
      refine VO.mv (Rn.pick_false rfl rfl) rfl rfl rfl ?_
      exact (VO.fg rfl (VO.fg rfl (VO.fg rfl (VO.fg rfl Jhc1))))) ?_
  refine VO.nil ?_
  refine VQ.then_code ?_
  refine VC.cond rfl (fun hc2 => ?_) (fun hc2 => ?_)
  · skip
    try simp only [Bool.and_eq_true, Bool.or_eq_true, Bool.not_eq_true', Bool.not_eq_false', Bool.and_eq_false_iff, Bool.or_eq_false_iff, decide_eq_true_eq, decide_eq_false_iff_not] at hc2
    refine VC.skip ?_
    refine VQ.then_code ?_
    refine VC.seq ?_
    refine VC.block ?_
    refine VC.seq ?_
    refine VC.region ?_
    refine VO.mv (Rn.assign rfl) rfl rfl rfl ?_
    refine VO.nil ?_
    refine VQ.then_code ?_
    refine VC.seq ?_
    refine VC.seq ?_
    obtain ⟨x, hx⟩ : ∃ x, U[i.toNat]? = some x := ⟨_, List.getElem?_eq_getElem (by omega)⟩
    have hxr : (U.take (i + 1).toNat).reverse = x :: (U.take i.toNat).reverse := by rw [show (i + 1).toNat = i.toNat + 1 by omega]; exact rev_take hx
    refine VC.region ?_
    refine VO.mv (Rn.move rfl) rfl rfl rfl ?_
    refine VO.mv (Rn.len Tryz.underlying30 rfl) rfl rfl rfl ?_
    refine VO.mv (Rn.move rfl) rfl rfl rfl ?_
    refine VO.nil ?_
    refine VQ.then_code ?_
    refine VC.block ?_
    refine VC.loopS (σ := Nat × Bool) (fun (j, seen) => [(0, .slice A U.length c), (1, .slice B L.length d), (2, .int .i64 ro), (7, .slice WA wl wc), (8, .int .i64 i), (9, .bool seen), (26, .slice WA wl wc), (27, .int .i64 wl), (28, .int .i64 j)]) (fun (j, seen) w' => j ≤ wl ∧ seen = (want.take j).contains x ∧ w2.heap.size ≤ w'.heap.size ∧ SlR S1 w' A U.length 1 (U.map strV) ∧ SlR S2 w' B L.length 1 (L.map strV) ∧ Ow w' r 9 1 WA wl wc (want.map strV) ∧ Ch (No) w w') (fun (j, seen) => wl - j) (0, false) ?_ ⟨rfl, rfl, rfl, rfl, rfl, rfl, rfl, rfl, rfl, trivial⟩ ?_
    · exact ⟨(by omega), (by simp), (Nat.le_refl _), su_2, sl_2, row_2, CH_2⟩
    rintro ⟨j, seen⟩ w3 ⟨hj, hsn, hsz3, su_3, sl_3, row_3, CH_3⟩
    show VC _ _ _ _ [(0, .slice A U.length c), (1, .slice B L.length d), (2, .int .i64 ro), (7, .slice WA wl wc), (8, .int .i64 i), (9, .bool seen), (26, .slice WA wl wc), (27, .int .i64 wl), (28, .int .i64 j)] _
    refine VC.seq ?_
    refine VC.region ?_
    refine VO.mv (Rn.lss rfl rfl) rfl rfl rfl ?_
    refine VO.nil ?_
    refine VQ.then_code ?_
    refine VC.seq ?_
    refine VC.cond_if rfl (fun hc3 => ?_) (fun hc3 => ?_)
    · skip
      refine VC.skip ?_
      refine VQ.then_code ?_
      refine VC.seq ?_
      refine VC.block ?_
      refine VC.seq ?_
      obtain ⟨y, hy⟩ : ∃ y, want[j]? = some y := ⟨_, List.getElem?_eq_getElem (by omega)⟩
      refine VC.region ?_
      refine VO.mv (Rn.indexS Tryz.underlying30 Tryz.sizeOf9 rfl rfl (row_3.sl.ne (by omega)) (by omega) (by omega)) rfl rfl rfl ?_
      refine VO.mv (Rn.load Tryz.isAgg9 rfl (nm_get row_3.sl hy)) rfl rfl rfl ?_
      refine VO.mv (Rn.assign rfl) rfl rfl rfl ?_
      refine VO.nil ?_
      refine VQ.then_code ?_
      refine VC.region ?_
      refine VO.mv (Rn.move rfl) rfl rfl rfl ?_
      refine VO.mv (Rn.move rfl) rfl rfl rfl ?_
      refine VO.orJoin (b := _) 7 33 40 rfl (fun hc4 Jhc4 => by
          refine VO.skip rfl rfl rfl ?_
          refine VO.skip rfl rfl rfl ?_
          refine VO.skip rfl rfl rfl ?_
          refine VO.skip rfl rfl rfl ?_
          refine VO.skip rfl rfl rfl ?_
          refine VO.skip rfl rfl rfl ?_
          refine VO.mv (Rn.pick_true rfl rfl) rfl rfl rfl ?_
          exact (VO.fg rfl (VO.fg rfl (VO.fg rfl (VO.fg rfl (VO.fg rfl (VO.fg rfl Jhc4))))))) (fun hc4 Jhc4 => by
          try simp only [Bool.and_eq_true, Bool.or_eq_true, Bool.not_eq_true', Bool.not_eq_false', Bool.and_eq_false_iff, Bool.or_eq_false_iff, decide_eq_true_eq, decide_eq_false_iff_not] at hc4
          refine VO.mv (Rn.move rfl) rfl rfl rfl ?_
          refine VO.mv (Rn.move rfl) rfl rfl rfl ?_
          refine VO.mv (Rn.move rfl) rfl rfl rfl ?_
          refine VO.mv (Rn.indexS Tryz.underlying30 Tryz.sizeOf9 rfl rfl (su_3.ne (by omega)) (by omega) (by omega)) rfl rfl rfl ?_
          refine VO.mv (Rn.load Tryz.isAgg9 rfl (nm_get su_3 hx)) rfl rfl rfl ?_
          refine VO.mv (Rn.nm_eql rfl rfl) rfl rfl rfl ?_
          refine VO.mv (Rn.pick_false rfl rfl) rfl rfl rfl ?_
          exact (VO.fg rfl (VO.fg rfl (VO.fg rfl (VO.fg rfl (VO.fg rfl (VO.fg rfl Jhc4))))))) ?_
      refine VO.mv (Rn.assign rfl) rfl rfl rfl ?_
      refine VO.nil ?_
      refine VQ.block_normal ?_
      refine VQ.then_code ?_
      refine VC.region ?_
      refine VO.mv (Rn.add rfl rfl (by rw [IntKind.wrap_i64]; omega)) rfl rfl rfl ?_
      refine VO.mv (Rn.move rfl) rfl rfl rfl ?_
      refine VO.nil ?_
      refine VQ.round (j + 1, seen || decide (y = x)) (by (dsimp only; omega)) ?_ ⟨rfl, rfl, rfl, rfl, rfl, rfl, rfl, rfl, rfl, trivial⟩
      exact ⟨(by omega), (by rw [List.take_add_one, hy, hsn]; simp [Bool.or_comm, eq_comm]), (by omega), su_3, sl_3, row_3, CH_3⟩
    · skip
      refine VC.exit ?_
      refine VQ.then_exit ?_
      refine VQ.then_exit ?_
      refine VQ.block_exit ?_
      refine VQ.then_code ?_
      refine VC.seq ?_
      have hsn' : seen = want.contains x := by rw [hsn, List.take_of_length_le (by omega)]
      refine VC.region ?_
      refine VO.mv (Rn.move rfl) rfl rfl rfl ?_
      refine VO.mv (Rn.not rfl) rfl rfl rfl ?_
      refine VO.nil ?_
      refine VQ.then_code ?_
      refine VC.cond rfl (fun hc5 => ?_) (fun hc5 => ?_)
      · skip
        try simp only [Bool.and_eq_true, Bool.or_eq_true, Bool.not_eq_true', Bool.not_eq_false', Bool.and_eq_false_iff, Bool.or_eq_false_iff, decide_eq_true_eq, decide_eq_false_iff_not] at hc5
        refine VC.region ?_
        refine VO.mv (Rn.move rfl) rfl rfl rfl ?_
        refine VO.mv (Rn.move rfl) rfl rfl rfl ?_
        refine VO.mv (Rn.move rfl) rfl rfl rfl ?_
        refine VO.mv (Rn.indexS Tryz.underlying30 Tryz.sizeOf9 rfl rfl (su_3.ne (by omega)) (by omega) (by omega)) rfl rfl rfl ?_
        refine VO.mv (Rn.load Tryz.isAgg9 rfl (nm_get su_3 hx)) rfl rfl rfl ?_
        refine VO.wk (Wk.lit Tryz.underlying30 inf9w27 (by decide) rfl rfl (by rfl) (by decide) (by decide) (by rfl)) rfl rfl rfl ?_
        rintro _ w4 ⟨p4, rfl, N4⟩
        have c4 := N4.ch
        have e4 := N4.p; have z4 := N4.size
        have l49 := SlR.of_new (sz := 1) (l := 1) N4 rfl
        have l49o := Ow.of_new (sz := 1) (l := 1) N4 rfl (by decide)
        have row_4 := row_3.keep c4
        refine VO.wk (Wk.append (S := _) Tryz.underlying30 inf9w27 rfl (by decide) rfl rfl row_4 l49 (by rfl) (fun h => by simp at h) (by omega) (by simp only [maxLen]; omega)) rfl rfl rfl ?_
        rintro _ w5 ⟨r5, A5, k5, rfl, o5, c5, q5⟩
        have z5 := c5.size
        have y5 := o5.lt
        refine VO.mv (Rn.assign rfl) rfl rfl rfl ?_
        refine VO.nil ?_
        refine VQ.block_normal ?_
        refine VQ.then_code ?_
        refine VC.region ?_
        refine VO.mv (Rn.move rfl) rfl rfl rfl ?_
        refine VO.mv (Rn.sub rfl rfl (by rw [IntKind.wrap_i64]; omega)) rfl rfl rfl ?_
        refine VO.mv (Rn.assign rfl) rfl rfl rfl ?_
        refine VO.nil ?_
        refine VQ.round (i - 1, want ++ [x], wl + 1, r5, A5, k5) (by (dsimp only; omega)) ?_ ⟨rfl, rfl, rfl, rfl, rfl, trivial⟩
        have hcx : want.contains x = false := by rw [← hsn']; simpa using hc5
        rw [hxr, lateGo, if_pos (by omega), if_neg (by rw [hcx]; decide)] at hgo
        have su_4 := su_3.keep c4
        have su_5 := su_4.to c5 (by first | exact fun _ _ _ _ => id | (intro q h1 h2 hx h3; have := hS1 q h2; omega))
        have sl_4 := sl_3.keep c4
        have sl_5 := sl_4.to c5 (by first | exact fun _ _ _ _ => id | (intro q h1 h2 hx h3; have := hS2 q h2; omega))
        have CH_4 := CH_3.and c4
        have CH_5 : Ch (No) w w5 := CH_4.then c5 (by intro q h1 h2; rcases h2 with h2 | h2 <;> first | exact h2 | (exfalso; omega) | omega)
        refine ⟨by omega, by omega, by simp; omega, by omega, by rw [hgo]; congr 3; omega, su_5, sl_5, (o5).to' (by simp) (by simp [flat, Value.cells]), by omega, CH_5⟩
      · skip
        try simp only [Bool.and_eq_true, Bool.or_eq_true, Bool.not_eq_true', Bool.not_eq_false', Bool.and_eq_false_iff, Bool.or_eq_false_iff, decide_eq_true_eq, decide_eq_false_iff_not] at hc5
        refine VC.skip ?_
        refine VQ.block_normal ?_
        refine VQ.then_code ?_
        refine VC.region ?_
        refine VO.mv (Rn.move rfl) rfl rfl rfl ?_
        refine VO.mv (Rn.sub rfl rfl (by rw [IntKind.wrap_i64]; omega)) rfl rfl rfl ?_
        refine VO.mv (Rn.assign rfl) rfl rfl rfl ?_
        refine VO.nil ?_
        refine VQ.round (i - 1, want, wl, r, WA, wc) (by (dsimp only; omega)) ?_ ⟨rfl, rfl, rfl, rfl, rfl, trivial⟩
        have hcx : want.contains x = true := by rw [← hsn']; simpa using hc5
        rw [hxr, lateGo, if_pos (by omega), if_pos hcx] at hgo
        exact ⟨by omega, by omega, hwl, hwr, by rw [hgo]; congr 3; omega, su_3, sl_3, row_3, hrr, CH_3⟩
  · skip
    try simp only [Bool.and_eq_true, Bool.or_eq_true, Bool.not_eq_true', Bool.not_eq_false', Bool.and_eq_false_iff, Bool.or_eq_false_iff, decide_eq_true_eq, decide_eq_false_iff_not] at hc2
    refine VC.exit ?_
    refine VQ.then_exit ?_
    refine VQ.then_exit ?_
    refine VQ.block_exit ?_
    refine VQ.then_code ?_
    refine VC.seq ?_
    subst hwl
    refine VC.region ?_
    refine VO.mv (Rn.move rfl) rfl rfl rfl ?_
    refine VO.mv (Rn.move rfl) rfl rfl rfl ?_
    refine VO.wk (Wk.call Tryz.call15 rfl (sameTexts L want _ _ _ _ _ _ _ sl_2 row_2.sl (by omega) (by omega))) rfl rfl rfl ?_
    rintro _ w6 ⟨rfl, c6⟩
    have z6 := c6.size
    refine VO.mv (Rn.assign rfl) rfl rfl rfl ?_
    refine VO.nil ?_
    refine VQ.then_code ?_
    refine VC.ret ?_
    refine VQ.ret1 rfl rfl ?_
    refine Ret.mk ?_
    have CH_6 := CH_2.and c6
    exact ⟨by rw [hgo, late_end hc2], CH_6⟩

end Go.Tm
namespace Go.Tm
def chkB (n : Int) : Bool := match bestF PU 30 n with
  | some r => decide (r.1.len = n) && !(buildM r.1).full
  | none => false
theorem HasP.of_chk {n : Int} (h : chkB n = true) : HasP PU n := by
  intro r hr
  unfold chkB at h
  cases hb : bestF PU 30 n with
  | none => rw [hb] at h; cases h
  | some r' =>
    rw [hb] at h
    have : r = r' := hr.unique ⟨30, hb⟩
    subst this
    simpa using h
set_option maxRecDepth 100000 in
theorem chk24 : ((List.range 24).all fun k : Nat => chkB ((k : Int) + 1)) = true := by kernel_rfl
theorem hasP24 (n : Int) (h1 : 1 ≤ n) (h2 : n ≤ 24) : HasP PU n := by
  refine HasP.of_chk ?_
  have h := List.all_eq_true.1 chk24 (n - 1).toNat (by simp; omega)
  rwa [show (((n - 1).toNat : Nat) : Int) + 1 = n by omega] at h
end Go.Tm
namespace Go.Tm
open Go.RowKit Go.Proofs
/-- A writer in memory. -/
structure WrR (w : World) (q r : Nat) (bs : List UInt8) : Prop where
  ex : ∃ A c, Bk w q #[.slice A bs.length c] 98 ∧ Ow w r 5 1 A bs.length c (Lib.byteCells bs)
theorem WrR.to {D : Nat → Prop} {w w' : World} {q r : Nat} {bs : List UInt8} (h : WrR w q r bs) (c : Ch D w w') (hd : ∀ x, x < w.heap.size → QR q r x → x = x → ¬ D x) : WrR w' q r bs := by
  obtain ⟨A, k, h1, h2⟩ := h
  exact ⟨A, k, h1.to c (hd q h1.lt (.inl rfl) rfl), h2.to c (fun x h3 h4 h5 => hd x h3 (.inr h4) rfl)⟩
theorem WrR.keep {w w' : World} {q r : Nat} {bs : List UInt8} (h : WrR w q r bs) (c : Ch No w w') : WrR w' q r bs := h.to c fun _ _ _ _ => id
theorem WrR.lt {w : World} {q r : Nat} {bs : List UInt8} (h : WrR w q r bs) : q < w.heap.size ∧ r ≤ w.heap.size ∧ r ≠ q + 1 := by
  obtain ⟨A, k, h1, h2⟩ := h
  refine ⟨h1.lt, h2.lt, fun e => ?_⟩
  rcases h2.2 with ⟨_, _, _, h⟩ | ⟨g, cur, _, h3, h4, _⟩
  · omega
  · have : g = q := by omega
    subst this
    rw [h1.blk] at h4
    injection h4 with h4
    injection h4 with _ h5
    exact absurd h5 (by decide)
theorem byte_one (bs : List UInt8) : (Lib.byteCells bs).all Value.oneCell' = true := by
  simp [Lib.byteCells, Value.oneCell']
theorem byteCells_len (bs : List UInt8) : (Lib.byteCells bs).length = bs.length := by simp [Lib.byteCells]
def planN (N : Int) : Int := 1 + (IntKind.u64.wrap N) % 24
theorem planN_bd (N : Int) : 1 ≤ planN N ∧ planN N ≤ 24 := by unfold planN; rw [IntKind.wrap_u64]; omega
theorem Ow.nilc {w : World} {r : Nat} {e : TypeId} {sz : Nat} {A : Option Addr} {l c : Nat} {cs : List Value} (h : Ow w r e sz A l c cs) (hA : A = none) : c = 0 := by
  rcases h.2 with ⟨_, _, h, _⟩ | ⟨g, cur, h, _⟩
  · exact h
  · rw [hA] at h; cases h

set_option maxRecDepth 100000 in
theorem inf5w28 : Inf Tryz.prog 5 (.int .u8 0) 1 1 := ⟨Tryz.t5, Tryz.type5, rfl, rfl, rfl⟩
theorem build98w28 {ps : List (Nat × Value)} {cs : Array Value} (h : Instr.fill (fun i => ([(0, 1)] : List (Nat × Nat))[i]?) #[.slice none 0 0] ps = some cs) (w : World) : (Instr.build 98 ps.toArray).run Tryz.prog w = .ok (.agg cs) w := by
  simp [Instr.build, Tryz.runUnderlying98, Tryz.zeroValue98, Tryz.sizeOf46, Value.cells, h]
set_option maxRecDepth 100000 in
theorem pack_New (w : World) :
    Calls Tryz.prog 29 #[] w (Ret (fun v w' => ∃ q, v = .pointer (some ⟨q, 0, none⟩) ∧ WrR w' q 0 [] ∧ w.heap.size ≤ q ∧ Ch No w w')) := by
  refine calls_of_VC (args := []) Tryz.func29 rfl Tryz.ntmps29 rfl ?_
  refine VC.seq ?_
  refine VC.region ?_
  refine VO.mv (Rn.assign rfl) rfl rfl rfl ?_
  refine VO.nil ?_
  refine VQ.then_code ?_
  refine VC.seq ?_
  refine VC.region ?_
  refine VO.mv (Rn.build rfl (build98w28 rfl)) rfl rfl rfl ?_
  refine VO.wk (Wk.box rfl) rfl rfl rfl ?_
  rintro _ w1 ⟨p1, rfl, N1⟩
  have c1 := N1.ch
  have e1 := N1.p; have z1 := N1.size
  have b2 := Bk.new N1
  refine VO.mv (Rn.assign rfl) rfl rfl rfl ?_
  refine VO.nil ?_
  refine VQ.then_code ?_
  refine VC.ret ?_
  refine VQ.ret1 rfl rfl ?_
  refine Ret.mk ?_
  have CH_1 := (Ch.refl (No) w).and c1
  exact ⟨_, rfl, ⟨none, 0, b2, Ow.nil _ _ _⟩, by omega, CH_1⟩

set_option maxRecDepth 100000 in
theorem pack_Uint1 (q r : Nat) (bs : List UInt8) (x : Nat) (hx : x ≤ 127) (w : World) (wr : WrR w q r bs) (hl : bs.length ≤ 1000000) :
    Calls Tryz.prog 30 #[.pointer (some ⟨q, 0, none⟩), .int .u64 x] w (Ret (fun v w' => ∃ r', v = .tuple #[] ∧ WrR w' q r' (bs ++ [UInt8.ofNat x]) ∧ (r' = r ∨ w.heap.size < r') ∧ Ch (QR q r) w w')) := by
  obtain ⟨A, c, bk, row⟩ := id wr
  have lw := wr.lt; have lrow := row.lt
  refine calls_of_VC (args := [.pointer (some ⟨q, 0, none⟩), .int .u64 x]) Tryz.func30 rfl Tryz.ntmps30 rfl ?_
  refine VC.seq ?_
  refine VC.block ?_
  refine VC.loopS (σ := Unit) (fun u => [(0, .pointer (some ⟨q, 0, none⟩)), (1, .int .u64 x)]) (fun u w' => w = w') (fun u => 0) () ?_ ⟨rfl, rfl, trivial⟩ ?_
  · exact rfl
  rintro u _ rfl
  show VC _ _ _ _ [(0, .pointer (some ⟨q, 0, none⟩)), (1, .int .u64 x)] _
  refine VC.seq ?_
  refine VC.seq ?_
  refine VC.region ?_
  refine VO.mv (Rn.move rfl) rfl rfl rfl ?_
  refine VO.mv (Rn.gtr rfl rfl) rfl rfl rfl ?_
  refine VO.nil ?_
  refine VQ.then_code ?_
  refine VC.cond_if rfl (fun hc1 => ?_) (fun hc1 => ?_)
  · skip
    omega
  · skip
    refine VC.exit ?_
    refine VQ.then_exit ?_
    refine VQ.then_exit ?_
    refine VQ.block_exit ?_
    refine VQ.then_code ?_
    refine VC.region ?_
    refine VO.mv (Rn.move rfl) rfl rfl rfl ?_
    refine VO.mv (Rn.move rfl) rfl rfl rfl ?_
    refine VO.mv (Rn.nilCheck rfl) rfl rfl rfl ?_
    refine VO.mv (Rn.field Tryz.underlying98 rfl Tryz.sizeOf46 rfl rfl rfl) rfl rfl rfl ?_
    refine VO.mv (Rn.load Tryz.isAgg46 rfl (bk.cell rfl)) rfl rfl rfl ?_
    refine VO.mv (Rn.move rfl) rfl rfl rfl ?_
    refine VO.mv (Rn.conv Tryz.underlying75 Tryz.underlying5 rfl) rfl rfl rfl ?_
    refine VO.wk (Wk.lit Tryz.underlying46 inf5w28 (by decide) rfl rfl (by rfl) (by decide) (by decide) (by rfl)) rfl rfl rfl ?_
    rintro _ w1 ⟨p1, rfl, N1⟩
    have c1 := N1.ch
    have e1 := N1.p; have z1 := N1.size
    have l27 := SlR.of_new (sz := 1) (l := 1) N1 rfl
    have l27o := Ow.of_new (sz := 1) (l := 1) N1 rfl (by decide)
    have row_1 := row.keep c1
    refine VO.wk (Wk.append (S := _) Tryz.underlying46 inf5w28 rfl (by decide) rfl rfl row_1 l27 (by rfl) (fun h => by simp at h) (by omega) (by simp only [maxLen]; omega)) rfl rfl rfl ?_
    rintro _ w2 ⟨r2, A2, k2, rfl, o2, c2, q2⟩
    have z2 := c2.size
    have y2 := o2.lt
    refine VO.mv (Rn.nilCheck rfl) rfl rfl rfl ?_
    refine VO.mv (Rn.field Tryz.underlying98 rfl Tryz.sizeOf46 rfl rfl rfl) rfl rfl rfl ?_
    have bk_1 := bk.keep c1
    have bk_2 := bk_1.to c2 (by first | exact id | omega)
    refine VO.wk0 (Wk.put Tryz.sizeOf46 rfl rfl rfl rfl bk_2 rfl) rfl rfl ?_
    intro _ w3 Z3
    have c3 := Z3.ch; have z3 := Z3.size
    have bk_3 := Bk.put Z3
    refine VO.nil ?_
    refine VQ.end0 rfl ?_
    refine Ret.mk ?_
    have row_3 := o2.to c3 (by first | exact fun _ _ _ _ => id | (intro q h1 h2 hx h3; omega))
    have yr := row_3.lt
    have CH_1 := (Ch.refl (QR q r) w).and c1
    have CH_2 : Ch (QR q r) w w2 := CH_1.then c2 (by intro q h1 h2; rcases h2 with h2 | h2 <;> first | exact h2 | (exfalso; omega) | omega)
    have CH_3 : Ch (QR q r) w w3 := CH_2.then c3 (by intro q h1 h2; rcases h2 with h2 | h2 <;> first | exact h2 | (exfalso; omega) | omega)
    exact ⟨_, rfl, ⟨A2, k2, (by show Bk _ _ #[.slice _ (bs ++ [UInt8.ofNat x]).length _] _; rw [List.length_append]; exact bk_3), (row_3).to' (by simp) (by simp [flat, Value.cells, Lib.byteCells, IntKind.wrap_u8])⟩, by omega, CH_3⟩

set_option maxRecDepth 100000 in
theorem pack_Out (q r : Nat) (bs : List UInt8) (w : World) (wr : WrR w q r bs) (hl : bs.length ≤ 1000000000000) :
    Calls Tryz.prog 33 #[.pointer (some ⟨q, 0, none⟩)] w (Ret (fun v w' => ∃ r' A' c', v = .slice A' bs.length c' ∧ Ow w' r' 5 1 A' bs.length c' (Lib.byteCells bs) ∧ (r' = 0 ∨ w.heap.size < r') ∧ Ch No w w')) := by
  obtain ⟨A, c, bk, row⟩ := id wr
  have lw := wr.lt; have lrow := row.lt
  refine calls_of_VC (args := [.pointer (some ⟨q, 0, none⟩)]) Tryz.func33 rfl Tryz.ntmps33 rfl ?_
  refine VC.seq ?_
  refine VC.region ?_
  refine VO.mv (Rn.assign rfl) rfl rfl rfl ?_
  refine VO.nil ?_
  refine VQ.then_code ?_
  refine VC.seq ?_
  refine VC.region ?_
  refine VO.mv (Rn.move rfl) rfl rfl rfl ?_
  refine VO.mv (Rn.nilCheck rfl) rfl rfl rfl ?_
  refine VO.mv (Rn.field Tryz.underlying98 rfl Tryz.sizeOf46 rfl rfl rfl) rfl rfl rfl ?_
  refine VO.mv (Rn.load Tryz.isAgg46 rfl (bk.cell rfl)) rfl rfl rfl ?_
  refine VO.wk (Wk.append (S := _) Tryz.underlying46 inf5w28 rfl (by decide) rfl rfl (Ow.nil _ _ _) row.sl (byte_one _) (fun _ h => row.nilc h) (by omega) (by simp only [maxLen]; omega)) rfl rfl rfl ?_
  rintro _ w1 ⟨r1, A1, k1, rfl, o1, c1, q1⟩
  have z1 := c1.size
  have y1 := o1.lt
  refine VO.mv (Rn.assign rfl) rfl rfl rfl ?_
  refine VO.nil ?_
  refine VQ.then_code ?_
  refine VC.ret ?_
  refine VQ.ret1 rfl rfl ?_
  refine Ret.mk ?_
  have yo := o1.lt
  have CH_1 : Ch (No) w w1 := (Ch.refl (No) w).then c1 (by intro q h1 h2; rcases h2 with h2 | h2 <;> first | exact h2 | (exfalso; omega) | omega)
  exact ⟨r1, A1, k1, by rw [Nat.zero_add], (o1).to' (by omega) (by simp), by omega, CH_1⟩

set_option maxRecDepth 100000 in
theorem st_Save0 (mo : Nat) (hmo : mo ≤ 64) (q mb r : Nat) (w : World) (sr : StR w q mb r 0 mo [] []) :
    Calls Tryz.prog 14 #[.pointer (some ⟨q, 0, none⟩)] w (Ret (fun v w' => ∃ r' A' c', v = .slice A' 2 c' ∧ Ow w' r' 5 1 A' 2 c' (Lib.byteCells [UInt8.ofNat mo, 0]) ∧ (r' = 0 ∨ w.heap.size < r') ∧ StR w' q mb r 0 mo [] [] ∧ Ch (QS q mb r) w w')) := by
  obtain ⟨A, c, bq, row, mp⟩ := id sr
  have ls := sr.lt; have lrow := row.lt
  refine calls_of_VCD (args := [.pointer (some ⟨q, 0, none⟩)]) Tryz.func14 rfl Tryz.ntmps14 rfl ?_
  refine VC.seq ?_
  refine VC.region ?_
  refine VO.mv (Rn.assign rfl) rfl rfl rfl ?_
  refine VO.nil ?_
  refine VQ.then_code ?_
  refine VC.seq ?_
  refine VC.region ?_
  refine VO.mv (Rn.move rfl) rfl rfl rfl ?_
  refine VO.mv (Rn.nilCheck rfl) rfl rfl rfl ?_
  refine VO.mv (Rn.field Tryz.underlying62 rfl Tryz.sizeOf60 rfl rfl rfl) rfl rfl rfl ?_
  refine VO.wk (Wk.call Tryz.call23 rfl (mutex_lock muLib bq rfl)) rfl rfl rfl ?_
  rintro _ w1 ⟨rfl, Z1⟩
  have c1 := Z1.ch
  have bq_1 := Bk.put Z1
  have z1 := c1.size
  refine VO.nil ?_
  refine VQ.then_code ?_
  refine VC.seq ?_
  refine VC.region ?_
  refine VO.mv (Rn.move rfl) rfl rfl rfl ?_
  refine VO.mv (Rn.nilCheck rfl) rfl rfl rfl ?_
  refine VO.mv (Rn.field Tryz.underlying62 rfl Tryz.sizeOf60 rfl rfl rfl) rfl rfl rfl ?_
  refine VO.defer rfl ?_
  refine VO.nil ?_
  refine VQ.then_code ?_
  refine VC.seq ?_
  refine VC.region ?_
  refine VO.wk (Wk.call Tryz.call29 rfl (pack_New _)) rfl rfl rfl ?_
  rintro _ w2 ⟨qw, rfl, wr2, yqw, c2⟩
  have lw2 := wr2.lt
  have z2 := c2.size
  refine VO.mv (Rn.assign rfl) rfl rfl rfl ?_
  refine VO.nil ?_
  refine VQ.then_code ?_
  refine VC.seq ?_
  refine VC.region ?_
  refine VO.mv (Rn.move rfl) rfl rfl rfl ?_
  refine VO.mv (Rn.move rfl) rfl rfl rfl ?_
  refine VO.mv (Rn.nilCheck rfl) rfl rfl rfl ?_
  refine VO.mv (Rn.field Tryz.underlying62 rfl Tryz.sizeOf3 rfl rfl rfl) rfl rfl rfl ?_
  have bq_2 := bq_1.keep c2
  refine VO.mv (Rn.load Tryz.isAgg3 rfl (bq_2.cell rfl)) rfl rfl rfl ?_
  refine VO.mv (Rn.conv_in Tryz.underlying3 Tryz.underlying75 rfl (by rw [IntKind.wrap_u64]; omega)) rfl rfl rfl ?_
  refine VO.wk (Wk.call Tryz.call30 rfl (pack_Uint1 _ _ [] mo (by omega) _ wr2 (by simp))) rfl rfl rfl ?_
  rintro _ w3 ⟨rw3, rfl, wr3, yw3, c3⟩
  have lw3 := wr3.lt
  have z3 := c3.size
  refine VO.nil ?_
  refine VQ.then_code ?_
  refine VC.seq ?_
  refine VC.region ?_
  refine VO.mv (Rn.move rfl) rfl rfl rfl ?_
  refine VO.mv (Rn.move rfl) rfl rfl rfl ?_
  refine VO.mv (Rn.nilCheck rfl) rfl rfl rfl ?_
  refine VO.mv (Rn.field Tryz.underlying62 rfl Tryz.sizeOf30 rfl rfl rfl) rfl rfl rfl ?_
  have bq_3 := bq_2.to c3 (by first | exact id | omega)
  refine VO.mv (Rn.load Tryz.isAgg30 rfl (bq_3.cell rfl)) rfl rfl rfl ?_
  refine VO.mv (Rn.len Tryz.underlying30 rfl) rfl rfl rfl ?_
  refine VO.mv (Rn.conv_in Tryz.underlying3 Tryz.underlying75 rfl (by rw [IntKind.wrap_u64]; simp)) rfl rfl rfl ?_
  refine VO.wk (Wk.call Tryz.call30 rfl (pack_Uint1 _ _ [UInt8.ofNat mo] 0 (by omega) _ wr3 (by simp))) rfl rfl rfl ?_
  rintro _ w4 ⟨rw4, rfl, wr4, yw4, c4⟩
  have lw4 := wr4.lt
  have z4 := c4.size
  refine VO.nil ?_
  refine VQ.then_code ?_
  refine VC.seq ?_
  refine VC.seq ?_
  refine VC.region ?_
  refine VO.mv (Rn.move rfl) rfl rfl rfl ?_
  refine VO.mv (Rn.nilCheck rfl) rfl rfl rfl ?_
  refine VO.mv (Rn.field Tryz.underlying62 rfl Tryz.sizeOf30 rfl rfl rfl) rfl rfl rfl ?_
  have bq_4 := bq_3.to c4 (by first | exact id | omega)
  refine VO.mv (Rn.load Tryz.isAgg30 rfl (bq_4.cell rfl)) rfl rfl rfl ?_
  refine VO.mv (Rn.len Tryz.underlying30 rfl) rfl rfl rfl ?_
  refine VO.mv (Rn.move rfl) rfl rfl rfl ?_
  refine VO.nil ?_
  refine VQ.then_code ?_
  refine VC.block ?_
  refine VC.loopS (σ := Unit) (fun u => [(0, .pointer (some ⟨q, 0, none⟩)), (3, .pointer (some ⟨qw, 0, none⟩)), (33, .int .i64 0), (34, .int .i64 0)]) (fun u w' => w4 = w') (fun u => 0) () ?_ ⟨rfl, rfl, rfl, rfl, trivial⟩ ?_
  · exact rfl
  rintro u _ rfl
  show VC _ _ _ _ [(0, .pointer (some ⟨q, 0, none⟩)), (3, .pointer (some ⟨qw, 0, none⟩)), (33, .int .i64 0), (34, .int .i64 0)] _
  refine VC.seq ?_
  refine VC.region ?_
  refine VO.mv (Rn.lss rfl rfl) rfl rfl rfl ?_
  refine VO.nil ?_
  refine VQ.then_code ?_
  refine VC.seq ?_
  refine VC.cond_if rfl (fun hc1 => ?_) (fun hc1 => ?_)
  · skip
    omega
  · skip
    refine VC.exit ?_
    refine VQ.then_exit ?_
    refine VQ.then_exit ?_
    refine VQ.block_exit ?_
    refine VQ.then_code ?_
    refine VC.seq ?_
    refine VC.region ?_
    refine VO.mv (Rn.move rfl) rfl rfl rfl ?_
    refine VO.wk (Wk.call Tryz.call33 rfl (pack_Out _ _ ([UInt8.ofNat mo] ++ [UInt8.ofNat 0]) _ wr4 (by simp))) rfl rfl rfl ?_
    rintro _ w5 ⟨ro5, oA5, oc5, rfl, out5, yo5, c5⟩
    have lo5 := out5.lt
    have z5 := c5.size
    refine VO.mv (Rn.assign rfl) rfl rfl rfl ?_
    refine VO.nil ?_
    refine VQ.then_code ?_
    refine VC.ret ?_
    have bq_5 := bq_4.keep c5
    refine VQ.unlockD muLib bq_5 rfl ?_
    intro w6 Z6
    have c6 := Z6.ch; have z6 := Z6.size
    have bq_6 := Bk.put Z6
    refine VQ.toD ?_
    refine VQ.ret1 rfl rfl ?_
    refine Ret.mk ?_
    have out_6 := out5.to c6 (by first | exact fun _ _ _ _ => id | (intro q h1 h2 hx h3; omega))
    have row_1 := row.to c1 (by first | exact fun _ _ _ _ => id | (intro q h1 h2 hx h3; omega))
    have row_2 := row_1.keep c2
    have row_3 := row_2.to c3 (by first | exact fun _ _ _ _ => id | (intro q h1 h2 hx h3; omega))
    have row_4 := row_3.to c4 (by first | exact fun _ _ _ _ => id | (intro q h1 h2 hx h3; omega))
    have row_5 := row_4.keep c5
    have row_6 := row_5.to c6 (by first | exact fun _ _ _ _ => id | (intro q h1 h2 hx h3; omega))
    have mp_1 := mp.to c1 (by first | exact id | omega)
    have mp_2 := mp_1.keep c2
    have mp_3 := mp_2.to c3 (by first | exact id | omega)
    have mp_4 := mp_3.to c4 (by first | exact id | omega)
    have mp_5 := mp_4.keep c5
    have mp_6 := mp_5.to c6 (by first | exact id | omega)
    have CH_1 : Ch (QS q mb r) w w1 := (Ch.refl (QS q mb r) w).then c1 (by intro q h1 h2; rcases h2 with h2 | h2 <;> first | exact h2 | (exfalso; omega) | omega)
    have CH_2 := CH_1.and c2
    have CH_3 : Ch (QS q mb r) w w3 := CH_2.then c3 (by intro q h1 h2; rcases h2 with h2 | h2 <;> first | exact h2 | (exfalso; omega) | omega)
    have CH_4 : Ch (QS q mb r) w w4 := CH_3.then c4 (by intro q h1 h2; rcases h2 with h2 | h2 <;> first | exact h2 | (exfalso; omega) | omega)
    have CH_5 := CH_4.and c5
    have CH_6 : Ch (QS q mb r) w w6 := CH_5.then c6 (by intro q h1 h2; rcases h2 with h2 | h2 <;> first | exact h2 | (exfalso; omega) | omega)
    exact ⟨_, _, _, rfl, out_6, by omega, ⟨_, _, bq_6, row_6, mp_6⟩, CH_6⟩

set_option maxRecDepth 100000 in
theorem planOf0 (kd N : Int) (nm : Nm) (w : World) (st : StT w) (tab : TabB w.heap.size w) (hG : 23 ≤ w.heap.size) :
    Calls Tryz.prog 7 #[.agg #[.int .i64 kd, strV nm, .int .i64 N, .int .i64 0]] w (Ret (fun v w' => ∃ p r, v = .pointer (some ⟨p, 0, none⟩) ∧ Best PU (planN N) r ∧ PlnR w.heap.size w'.heap.size w' p (plnM r.1) ∧ Ch No w w')) := by
  have hpn := planN_bd N
  have hu0 : 0 ≤ IntKind.u64.wrap N := by rw [IntKind.wrap_u64]; omega
  refine calls_of_VC (args := [.agg #[.int .i64 kd, strV nm, .int .i64 N, .int .i64 0]]) Tryz.func7 rfl Tryz.ntmps7 rfl ?_
  refine VC.seq ?_
  refine VC.region ?_
  refine VO.wk (Wk.box rfl) rfl rfl rfl ?_
  rintro _ w1 ⟨p1, rfl, N1⟩
  have c1 := N1.ch
  have e1 := N1.p; have z1 := N1.size
  have b1 := Bk.new N1
  refine VO.mv (Rn.assign rfl) rfl rfl rfl ?_
  refine VO.nil ?_
  refine VQ.then_code ?_
  refine VC.seq ?_
  refine VC.region ?_
  refine VO.mv (Rn.field Tryz.underlying32 rfl Tryz.sizeOf3 rfl rfl rfl) rfl rfl rfl ?_
  refine VO.mv (Rn.load Tryz.isAgg3 rfl (b1.cell rfl)) rfl rfl rfl ?_
  refine VO.mv (Rn.conv Tryz.underlying3 Tryz.underlying24 rfl) rfl rfl rfl ?_
  refine VO.mv (Rn.rem0 rfl rfl hu0 (by omega)) rfl rfl rfl ?_
  refine VO.mv (Rn.conv_in Tryz.underlying75 Tryz.underlying3 rfl (by rw [IntKind.wrap_i64]; omega)) rfl rfl rfl ?_
  refine VO.mv (Rn.add rfl rfl (by rw [IntKind.wrap_i64]; omega)) rfl rfl rfl ?_
  have st_1 := st.keep c1
  have tab_1 := tab.keep c1
  refine VO.wk (Wk.call Tryz.call19 rfl (plan_New (planN N) (by omega) (by omega) (hasP24 _ (by omega) (by omega)) _ st_1 ((tab_1).up (by omega)) (by omega))) rfl rfl rfl ?_
  rintro _ w2 ⟨p2, rr2, rfl, hr2, pl2, c2⟩
  have z2 := c2.size
  refine VO.mv (Rn.move rfl) rfl rfl rfl ?_
  refine VO.mv (Rn.extract rfl rfl) rfl rfl rfl ?_
  refine VO.mv (Rn.extract rfl rfl) rfl rfl rfl ?_
  refine VO.mv (Rn.assign rfl) rfl rfl rfl ?_
  refine VO.mv (Rn.assign rfl) rfl rfl rfl ?_
  refine VO.nil ?_
  refine VQ.then_code ?_
  refine VC.seq ?_
  refine VC.seq ?_
  refine VC.region ?_
  refine VO.mv (Rn.move rfl) rfl rfl rfl ?_
  refine VO.mv (Rn.nil_neq_nil Tryz.underlying27 rfl) rfl rfl rfl ?_
  refine VO.mv (Rn.move rfl) rfl rfl rfl ?_
  refine VO.mv (Rn.move rfl) rfl rfl rfl ?_
  refine VO.mv (Rn.ptr_eql_nil Tryz.underlying33 rfl) rfl rfl rfl ?_
  refine VO.mv (Rn.pick_false rfl rfl) rfl rfl rfl ?_
  refine VO.nil ?_
  refine VQ.then_code ?_
  refine VC.cond_false rfl ?_
  refine VC.skip ?_
  refine VQ.then_code ?_
  refine VC.seq ?_
  refine VC.seq ?_
  refine VC.region ?_
  refine VO.mv (Rn.field Tryz.underlying32 rfl Tryz.sizeOf3 rfl rfl rfl) rfl rfl rfl ?_
  have b1_2 := b1.keep c2
  refine VO.mv (Rn.load Tryz.isAgg3 rfl (b1_2.cell rfl)) rfl rfl rfl ?_
  refine VO.mv (Rn.rem0 rfl rfl (by omega) (by omega)) rfl rfl rfl ?_
  refine VO.mv (Rn.eql rfl rfl) rfl rfl rfl ?_
  refine VO.nil ?_
  refine VQ.then_code ?_
  refine VC.cond_if rfl (fun hc1 => ?_) (fun hc1 => ?_)
  · skip
    refine VC.seq ?_
    refine VC.region ?_
    refine VO.mv (Rn.move rfl) rfl rfl rfl ?_
    refine VO.mv (Rn.assign rfl) rfl rfl rfl ?_
    refine VO.nil ?_
    refine VQ.then_code ?_
    refine VC.ret ?_
    refine VQ.then_ret ?_
    refine VQ.ret1 rfl rfl ?_
    refine Ret.mk ?_
    have CH_2 := (Ch.refl (No) w).and (c1.trans c2)
    have zz := CH_2.size
    exact ⟨_, _, rfl, hr2, (pl2).weak (by omega) (by omega), CH_2⟩
  · skip
    exact absurd rfl hc1

end Go.Tm
namespace Go.Tm
open Go.RowKit Go.Proofs
section
variable {P : Program} {n : Fr} {k : K} {w : World} {d : Option Tmp} {ty : TypeId} {pos : String} {aft : Array Edge} {g : Option (Nat × Bool)} {t t' : TypeId} {x y : Operand} {q : IntKind} {a b : Int}
theorem Rn.eqlT (hx : ev k x = some (.int q a)) (hy : ev k y = some (.int q b)) (h : a = b) : Rn P n k w { dst := d, op := .binOp .eql t x y t', type := ty, pos := pos, after := aft, guard := g } (.bool true) := by
  have := Rn.eql (P := P) (n := n) (w := w) (d := d) (ty := ty) (pos := pos) (aft := aft) (g := g) (t := t) (t' := t') hx hy
  rwa [decide_eq_true h] at this
theorem Rn.neqF (hx : ev k x = some (.int q a)) (hy : ev k y = some (.int q b)) (h : a = b) : Rn P n k w { dst := d, op := .binOp .neq t x y t', type := ty, pos := pos, after := aft, guard := g } (.bool false) := by
  have := Rn.neq (P := P) (n := n) (w := w) (d := d) (ty := ty) (pos := pos) (aft := aft) (g := g) (t := t) (t' := t') hx hy
  rwa [decide_eq_false (fun h' => h' h)] at this
theorem Rn.str_neqF {s u : ByteArray} (hx : ev k x = some (.string s)) (hy : ev k y = some (.string u)) (h : s = u) : Rn P n k w { dst := d, op := .binOp .neq t x y t', type := ty, pos := pos, after := aft, guard := g } (.bool false) := by
  have := Rn.str_neq (P := P) (n := n) (w := w) (d := d) (ty := ty) (pos := pos) (aft := aft) (g := g) (t := t) (t' := t') hx hy
  subst h
  simpa using this
theorem Rn.nm_eqlT {s u : List UInt8} (hx : ev k x = some (strV s)) (hy : ev k y = some (strV u)) (h : s = u) : Rn P n k w { dst := d, op := .binOp .eql t x y t', type := ty, pos := pos, after := aft, guard := g } (.bool true) := by
  have := Rn.nm_eql (P := P) (n := n) (w := w) (d := d) (ty := ty) (pos := pos) (aft := aft) (g := g) (t := t) (t' := t') hx hy
  rwa [decide_eq_true h] at this
end

theorem bld32_2w29 {v2 : Value} (h : [v2].all Value.oneCell' = true) (w : World) : (Instr.build 32 ([(2, v2)] : List (Nat × Value)).toArray).run Tryz.prog w = .ok (.agg #[.int .i64 0, .string ⟨#[]⟩, v2, .int .i64 0]) w := by
  simp only [List.all_cons, Bool.and_eq_true, List.all_nil, and_true] at h
  have hv2 := oneCell_cells (v := v2) (by simp_all)
  have h1 := fill_set (fun i => ([(0, 1), (1, 1), (2, 1), (3, 1)] : List (Nat × Nat))[i]?) [(2, v2)] [.int .i64 0, .string ⟨#[]⟩, .int .i64 0, .int .i64 0] (by simp [okF, agg_cells, hv2, Nat.beq, Nat.ble])
  simp [setF, agg_cells, hv2] at h1
  simp [Instr.build, Tryz.runUnderlying32, Tryz.zeroValue32, Tryz.sizeOf3, Tryz.sizeOf9, agg_cells, h1]
set_option maxHeartbeats 2000000 in
set_option maxRecDepth 100000 in
theorem law_lives (B : Nat) (E : Nat → Addr) (w : World) (er : ErrT B E w) (hB : B ≤ w.heap.size) (st : StT w) (tab : TabB w.heap.size w) :
    Calls Tryz.prog 5 #[] w (Ret (fun v w' => v = .bool true ∧ Ch No w w')) := by
  have hgn := er.gn
  refine calls_of_VC (args := []) Tryz.func5 rfl Tryz.ntmps5 rfl ?_
  refine VC.seq ?_
  refine VC.region ?_
  refine VO.mv (Rn.assign rfl) rfl rfl rfl ?_
  refine VO.nil ?_
  refine VQ.then_code ?_
  refine VC.seq ?_
  refine VC.region ?_
  refine VO.wk (Wk.call Tryz.call6 rfl (store_New E 2 (by omega) (by omega) _)) rfl rfl rfl ?_
  rintro _ w1 ⟨q1, mb1, rfl, sr1, ymb1, yq1, c1⟩
  have ls1 := sr1.lt
  have z1 := c1.size
  refine VO.mv (Rn.move rfl) rfl rfl rfl ?_
  refine VO.mv (Rn.extract rfl rfl) rfl rfl rfl ?_
  refine VO.mv (Rn.extract rfl rfl) rfl rfl rfl ?_
  refine VO.mv (Rn.assign rfl) rfl rfl rfl ?_
  refine VO.mv (Rn.assign rfl) rfl rfl rfl ?_
  refine VO.nil ?_
  refine VQ.then_code ?_
  refine VC.seq ?_
  refine VC.region ?_
  refine VO.mv (Rn.build rfl (bld32_2w29 rfl)) rfl rfl rfl ?_
  have st_1 := st.keep c1
  have tab_1 := tab.keep c1
  refine VO.wk (Wk.call Tryz.call7 rfl (planOf0 0 3 [] _ st_1 ((tab_1).up (by omega)) (by omega))) rfl rfl rfl ?_
  rintro _ w2 ⟨p2, rp2, rfl, hr2, pl2, c2⟩
  have z2 := c2.size
  refine VO.mv (Rn.assign rfl) rfl rfl rfl ?_
  refine VO.nil ?_
  refine VQ.then_code ?_
  refine VC.seq ?_
  refine VC.seq ?_
  refine VC.region ?_
  refine VO.mv (Rn.move rfl) rfl rfl rfl ?_
  refine VO.mv (Rn.nil_neq_nil Tryz.underlying27 rfl) rfl rfl rfl ?_
  refine VO.mv (Rn.move rfl) rfl rfl rfl ?_
  refine VO.mv (Rn.move rfl) rfl rfl rfl ?_
  refine VO.mv (Rn.ptr_eql_nil Tryz.underlying25 rfl) rfl rfl rfl ?_
  refine VO.mv (Rn.pick_false rfl rfl) rfl rfl rfl ?_
  refine VO.mv (Rn.move rfl) rfl rfl rfl ?_
  refine VO.mv (Rn.move rfl) rfl rfl rfl ?_
  refine VO.mv (Rn.ptr_eql_nil Tryz.underlying33 rfl) rfl rfl rfl ?_
  refine VO.mv (Rn.pick_false rfl rfl) rfl rfl rfl ?_
  refine VO.mv (Rn.move rfl) rfl rfl rfl ?_
  refine VO.mv (Rn.move rfl) rfl rfl rfl ?_
  refine VO.mv (Rn.move rfl) rfl rfl rfl ?_
  have sr_2 := sr1.keep c2
  refine VO.wk (Wk.call Tryz.call8 rfl (st_Keep E p2 2 q1 mb1 0 [] [] [97] _ sr_2 (by decide) (by decide))) rfl rfl rfl ?_
  rintro _ w3 ⟨r3, rfl, sr3, yr3, c3⟩
  have ls3 := sr3.lt
  rw [show keepL 2 [97] [] = [[97]] from by decide, show keepM 2 [97] (.pointer (some ⟨p2, 0, none⟩)) [] [] = [([97], (.pointer (some ⟨p2, 0, none⟩)))] from rfl] at sr3
  have z3 := c3.size
  refine VO.mv (Rn.nil_neq_nil Tryz.underlying27 rfl) rfl rfl rfl ?_
  refine VO.mv (Rn.pick_false rfl rfl) rfl rfl rfl ?_
  refine VO.mv (Rn.move rfl) rfl rfl rfl ?_
  refine VO.mv (Rn.move rfl) rfl rfl rfl ?_
  refine VO.mv (Rn.move rfl) rfl rfl rfl ?_
  refine VO.wk (Wk.call Tryz.call8 rfl (st_Keep E p2 2 q1 mb1 r3 [[97]] [([97], (.pointer (some ⟨p2, 0, none⟩)))] [98] _ sr3 (by decide) (by decide))) rfl rfl rfl ?_
  rintro _ w4 ⟨r4, rfl, sr4, yr4, c4⟩
  have ls4 := sr4.lt
  rw [show keepL 2 [98] [[97]] = [[98], [97]] from by decide, show keepM 2 [98] (.pointer (some ⟨p2, 0, none⟩)) [[97]] [([97], (.pointer (some ⟨p2, 0, none⟩)))] = [([97], (.pointer (some ⟨p2, 0, none⟩))), ([98], (.pointer (some ⟨p2, 0, none⟩)))] from rfl] at sr4
  have z4 := c4.size
  refine VO.mv (Rn.nil_neq_nil Tryz.underlying27 rfl) rfl rfl rfl ?_
  refine VO.mv (Rn.pick_false rfl rfl) rfl rfl rfl ?_
  refine VO.nil ?_
  refine VQ.then_code ?_
  refine VC.cond_false rfl ?_
  refine VC.skip ?_
  refine VQ.then_code ?_
  refine VC.seq ?_
  refine VC.region ?_
  refine VO.mv (Rn.move rfl) rfl rfl rfl ?_
  refine VO.wk (Wk.call Tryz.call9 rfl (st_Get (.pointer (some ⟨p2, 0, none⟩)) 2 q1 mb1 r4 [[98], [97]] [([97], (.pointer (some ⟨p2, 0, none⟩))), ([98], (.pointer (some ⟨p2, 0, none⟩)))] [97] _ sr4 (by decide) rfl)) rfl rfl rfl ?_
  rintro _ w5 ⟨r5, rfl, sr5, yr5, c5⟩
  have ls5 := sr5.lt
  rw [show [97] :: without [97] [[98], [97]] = [[97], [98]] from by decide] at sr5
  have z5 := c5.size
  refine VO.mv (Rn.move rfl) rfl rfl rfl ?_
  refine VO.mv (Rn.extract rfl rfl) rfl rfl rfl ?_
  refine VO.mv (Rn.extract rfl rfl) rfl rfl rfl ?_
  refine VO.mv (Rn.assign rfl) rfl rfl rfl ?_
  refine VO.mv (Rn.assign rfl) rfl rfl rfl ?_
  refine VO.nil ?_
  refine VQ.then_code ?_
  refine VC.seq ?_
  refine VC.seq ?_
  refine VC.region ?_
  refine VO.mv (Rn.move rfl) rfl rfl rfl ?_
  refine VO.mv (Rn.nil_neq_nil Tryz.underlying27 rfl) rfl rfl rfl ?_
  refine VO.mv (Rn.move rfl) rfl rfl rfl ?_
  refine VO.mv (Rn.move rfl) rfl rfl rfl ?_
  refine VO.mv (Rn.ptr_eql_nil Tryz.underlying33 rfl) rfl rfl rfl ?_
  refine VO.mv (Rn.pick_false rfl rfl) rfl rfl rfl ?_
  refine VO.mv (Rn.move rfl) rfl rfl rfl ?_
  refine VO.mv (Rn.move rfl) rfl rfl rfl ?_
  have pl_3 := pl2.to c3 (by first | exact fun _ _ _ _ => id | (intro q h1 h2 hx h3; omega))
  have pl_4 := pl_3.to c4 (by first | exact fun _ _ _ _ => id | (intro q h1 h2 hx h3; omega))
  have pl_5 := pl_4.to c5 (by first | exact fun _ _ _ _ => id | (intro q h1 h2 hx h3; omega))
  refine VO.wk (Wk.call Tryz.call17 rfl (plan_Text _ _ _ _ _ pl_5 (by omega))) rfl rfl rfl ?_
  rintro _ _ ⟨rfl, rfl⟩
  refine VO.mv (Rn.move rfl) rfl rfl rfl ?_
  refine VO.wk (Wk.call Tryz.call17 rfl (plan_Text _ _ _ _ _ pl_5 (by omega))) rfl rfl rfl ?_
  rintro _ _ ⟨rfl, rfl⟩
  refine VO.mv (Rn.str_neqF rfl rfl rfl) rfl rfl rfl ?_
  refine VO.mv (Rn.pick_false rfl rfl) rfl rfl rfl ?_
  refine VO.mv (Rn.move rfl) rfl rfl rfl ?_
  refine VO.mv (Rn.move rfl) rfl rfl rfl ?_
  refine VO.mv (Rn.move rfl) rfl rfl rfl ?_
  refine VO.wk (Wk.call Tryz.call8 rfl (st_Keep E p2 2 q1 mb1 r5 [[97], [98]] [([97], (.pointer (some ⟨p2, 0, none⟩))), ([98], (.pointer (some ⟨p2, 0, none⟩)))] [99] _ sr5 (by decide) (by decide))) rfl rfl rfl ?_
  rintro _ w6 ⟨r6, rfl, sr6, yr6, c6⟩
  have ls6 := sr6.lt
  rw [show keepL 2 [99] [[97], [98]] = [[99], [97]] from by decide, show keepM 2 [99] (.pointer (some ⟨p2, 0, none⟩)) [[97], [98]] [([97], (.pointer (some ⟨p2, 0, none⟩))), ([98], (.pointer (some ⟨p2, 0, none⟩)))] = [([97], (.pointer (some ⟨p2, 0, none⟩))), ([99], (.pointer (some ⟨p2, 0, none⟩)))] from rfl] at sr6
  have z6 := c6.size
  refine VO.mv (Rn.nil_neq_nil Tryz.underlying27 rfl) rfl rfl rfl ?_
  refine VO.mv (Rn.pick_false rfl rfl) rfl rfl rfl ?_
  refine VO.mv (Rn.move rfl) rfl rfl rfl ?_
  refine VO.mv (Rn.move rfl) rfl rfl rfl ?_
  refine VO.wk (Wk.call Tryz.call11 rfl (st_Len 2 q1 mb1 r6 [[99], [97]] [([97], (.pointer (some ⟨p2, 0, none⟩))), ([99], (.pointer (some ⟨p2, 0, none⟩)))] _ sr6 (by decide))) rfl rfl rfl ?_
  rintro _ w7 ⟨rfl, sr7, c7⟩
  have z7 := c7.size
  refine VO.mv (Rn.neqF rfl rfl rfl) rfl rfl rfl ?_
  refine VO.mv (Rn.pick_false rfl rfl) rfl rfl rfl ?_
  refine VO.mv (Rn.move rfl) rfl rfl rfl ?_
  refine VO.mv (Rn.move rfl) rfl rfl rfl ?_
  refine VO.wk (Wk.call Tryz.call13 rfl (st_Names 2 q1 mb1 r6 [[99], [97]] [([97], (.pointer (some ⟨p2, 0, none⟩))), ([99], (.pointer (some ⟨p2, 0, none⟩)))] _ sr7 (by decide))) rfl rfl rfl ?_
  rintro _ w8 ⟨pn, rcn, nA, nC, rfl, _, _, _, _, _, sr8, c8⟩
  have z8 := c8.size
  refine VO.mv (Rn.func_eql_nil Tryz.underlying44 rfl) rfl rfl rfl ?_
  refine VO.mv (Rn.pick_false rfl rfl) rfl rfl rfl ?_
  refine VO.nil ?_
  refine VQ.then_code ?_
  refine VC.cond_false rfl ?_
  refine VC.skip ?_
  refine VQ.then_code ?_
  refine VC.seq ?_
  refine VC.region ?_
  refine VO.mv (Rn.move rfl) rfl rfl rfl ?_
  have er_2 := er.keep (c1.trans c2)
  have er_3 := er_2.to c3 (by first | exact fun _ _ _ _ => id | (intro q h1 h2 hx h3; omega))
  have er_4 := er_3.to c4 (by first | exact fun _ _ _ _ => id | (intro q h1 h2 hx h3; omega))
  have er_5 := er_4.to c5 (by first | exact fun _ _ _ _ => id | (intro q h1 h2 hx h3; omega))
  have er_6 := er_5.to c6 (by first | exact fun _ _ _ _ => id | (intro q h1 h2 hx h3; omega))
  have er_7 := er_6.to c7 (by first | exact fun _ _ _ _ => id | (intro q h1 h2 hx h3; omega))
  have er_8 := er_7.to c8 (by first | exact fun _ _ _ _ => id | (intro q h1 h2 hx h3; omega))
  refine VO.wk (Wk.call Tryz.call9 rfl (st_Get_miss E 2 q1 mb1 r6 [[99], [97]] [([97], (.pointer (some ⟨p2, 0, none⟩))), ([99], (.pointer (some ⟨p2, 0, none⟩)))] [98] _ sr8 (by decide) B er_8 (by omega) rfl)) rfl rfl rfl ?_
  rintro _ w9 ⟨rfl, sr9, c9⟩
  have z9 := c9.size
  refine VO.mv (Rn.move rfl) rfl rfl rfl ?_
  refine VO.mv (Rn.extract rfl rfl) rfl rfl rfl ?_
  refine VO.mv (Rn.extract rfl rfl) rfl rfl rfl ?_
  refine VO.mv (Rn.assign rfl) rfl rfl rfl ?_
  refine VO.nil ?_
  refine VQ.then_code ?_
  refine VC.seq ?_
  refine VC.region ?_
  refine VO.wk (Wk.call Tryz.call6 rfl (store_New E 2 (by omega) (by omega) _)) rfl rfl rfl ?_
  rintro _ w10 ⟨q10, mb10, rfl, sr10, ymb10, yq10, c10⟩
  have ls10 := sr10.lt
  have z10 := c10.size
  refine VO.mv (Rn.move rfl) rfl rfl rfl ?_
  refine VO.mv (Rn.extract rfl rfl) rfl rfl rfl ?_
  refine VO.mv (Rn.extract rfl rfl) rfl rfl rfl ?_
  refine VO.mv (Rn.assign rfl) rfl rfl rfl ?_
  refine VO.mv (Rn.assign rfl) rfl rfl rfl ?_
  refine VO.nil ?_
  refine VQ.then_code ?_
  refine VC.seq ?_
  refine VC.region ?_
  refine VO.mv (Rn.move rfl) rfl rfl rfl ?_
  have er_9 := er_8.to c9 (by first | exact fun _ _ _ _ => id | (intro q h1 h2 hx h3; omega))
  have er_10 := er_9.keep c10
  refine VO.wk (Wk.call Tryz.call18 rfl (num_err B E 2 15 rfl (by decide) _ er_10)) rfl rfl rfl ?_
  rintro _ w11 ⟨rfl, c11⟩
  have z11 := c11.size
  refine VO.mv (Rn.eqlT rfl rfl rfl) rfl rfl rfl ?_
  refine VO.mv (Rn.move rfl) rfl rfl rfl ?_
  refine VO.mv (Rn.move rfl) rfl rfl rfl ?_
  refine VO.mv (Rn.nil_eql_nil Tryz.underlying27 rfl) rfl rfl rfl ?_
  refine VO.mv (Rn.pick_true rfl rfl) rfl rfl rfl ?_
  refine VO.mv (Rn.move rfl) rfl rfl rfl ?_
  refine VO.mv (Rn.move rfl) rfl rfl rfl ?_
  refine VO.mv (Rn.ptr_neq_nil Tryz.underlying25 rfl) rfl rfl rfl ?_
  refine VO.mv (Rn.pick_true rfl rfl) rfl rfl rfl ?_
  refine VO.mv (Rn.move rfl) rfl rfl rfl ?_
  refine VO.mv (Rn.move rfl) rfl rfl rfl ?_
  have se_11 := sr10.keep c11
  refine VO.wk (Wk.call Tryz.call14 rfl (st_Save0 2 (by omega) _ _ _ _ se_11)) rfl rfl rfl ?_
  rintro _ w12 ⟨rs, sA, sC, rfl, sv, ysv, _, c12⟩
  have z12 := c12.size
  refine VO.mv (Rn.bytes_string Tryz.underlying46 Tryz.underlying5 Tryz.underlying9 rfl (by decide) sv.sl) rfl rfl rfl ?_
  refine VO.mv (Rn.nm_eqlT rfl rfl (by decide)) rfl rfl rfl ?_
  refine VO.mv (Rn.pick_true rfl rfl) rfl rfl rfl ?_
  refine VO.mv (Rn.move rfl) rfl rfl rfl ?_
  refine VO.mv (Rn.move rfl) rfl rfl rfl ?_
  have sr_11 := sr9.keep (c10.trans c11)
  have sr_12 := sr_11.to c12 (by first | exact fun _ _ _ _ => id | (intro q h1 h2 hx h3; omega))
  refine VO.wk (Wk.call Tryz.call16 rfl (st_Drop (.pointer (some ⟨p2, 0, none⟩)) 2 q1 mb1 r6 [[99], [97]] [([97], (.pointer (some ⟨p2, 0, none⟩))), ([99], (.pointer (some ⟨p2, 0, none⟩)))] [97] _ sr_12 (by decide) rfl)) rfl rfl rfl ?_
  rintro _ w13 ⟨rfl, sr13, c13⟩
  rw [show without [97] [[99], [97]] = [[99]] from by decide] at sr13
  have sr13 : StR _ q1 mb1 r6 0 2 [[99]] [([99], (.pointer (some ⟨p2, 0, none⟩)))] := sr13
  have z13 := c13.size
  refine VO.mv (Rn.pick_true rfl rfl) rfl rfl rfl ?_
  refine VO.mv (Rn.move rfl) rfl rfl rfl ?_
  refine VO.mv (Rn.move rfl) rfl rfl rfl ?_
  refine VO.wk (Wk.call Tryz.call16 rfl (st_Drop_miss 2 q1 mb1 r6 [[99]] [([99], (.pointer (some ⟨p2, 0, none⟩)))] [97] _ sr13 (by decide) rfl)) rfl rfl rfl ?_
  rintro _ w14 ⟨rfl, sr14, c14⟩
  have z14 := c14.size
  refine VO.mv (Rn.not rfl) rfl rfl rfl ?_
  refine VO.mv (Rn.pick_true rfl rfl) rfl rfl rfl ?_
  refine VO.mv (Rn.assign rfl) rfl rfl rfl ?_
  refine VO.nil ?_
  refine VQ.then_code ?_
  refine VC.ret ?_
  refine VQ.ret1 rfl rfl ?_
  refine Ret.mk ?_
  have CH_2 := (Ch.refl (No) w).and (c1.trans c2)
  have CH_3 : Ch (No) w w3 := CH_2.then c3 (by intro q h1 h2; rcases h2 with h2 | h2 <;> first | exact h2 | (exfalso; omega) | omega)
  have CH_4 : Ch (No) w w4 := CH_3.then c4 (by intro q h1 h2; rcases h2 with h2 | h2 <;> first | exact h2 | (exfalso; omega) | omega)
  have CH_5 : Ch (No) w w5 := CH_4.then c5 (by intro q h1 h2; rcases h2 with h2 | h2 <;> first | exact h2 | (exfalso; omega) | omega)
  have CH_6 : Ch (No) w w6 := CH_5.then c6 (by intro q h1 h2; rcases h2 with h2 | h2 <;> first | exact h2 | (exfalso; omega) | omega)
  have CH_7 : Ch (No) w w7 := CH_6.then c7 (by intro q h1 h2; rcases h2 with h2 | h2 <;> first | exact h2 | (exfalso; omega) | omega)
  have CH_8 : Ch (No) w w8 := CH_7.then c8 (by intro q h1 h2; rcases h2 with h2 | h2 <;> first | exact h2 | (exfalso; omega) | omega)
  have CH_9 : Ch (No) w w9 := CH_8.then c9 (by intro q h1 h2; rcases h2 with h2 | h2 <;> first | exact h2 | (exfalso; omega) | omega)
  have CH_11 := CH_9.and (c10.trans c11)
  have CH_12 : Ch (No) w w12 := CH_11.then c12 (by intro q h1 h2; rcases h2 with h2 | h2 <;> first | exact h2 | (exfalso; omega) | omega)
  have CH_13 : Ch (No) w w13 := CH_12.then c13 (by intro q h1 h2; rcases h2 with h2 | h2 <;> first | exact h2 | (exfalso; omega) | omega)
  have CH_14 : Ch (No) w w14 := CH_13.then c14 (by intro q h1 h2; rcases h2 with h2 | h2 <;> first | exact h2 | (exfalso; omega) | omega)
  exact ⟨rfl, CH_14⟩

end Go.Tm
