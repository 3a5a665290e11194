/- Lemmas of this claim, joined by program. Transforms of noughts, in plain Lean: of noughts come noughts. Conditions: each lemma names its own. -/
import Derived.Test.YtpfglkohcfjelaaGreatDoorC16
set_option linter.all false
namespace Go.Tm
open Ieee
theorem mulC_bd {E : Nat} {z w : Cx} (h : KC (Bd E) z) (g : KC (Bd 1034) w) (h1 : 1 ≤ E) (h2 : E + 12 ≤ 2046) : KC (Bd (E + 12)) (mulC z w) := by
  have m : ∀ {x y : Fl}, Bd E x → Bd 1034 y → Bd (E + 11) (fmul x y) := fun p q => (p.mul q h1 (by decide) (by omega) (by omega) (by decide) (by omega)).mono (by omega)
  exact ⟨(m h.1 g.1).sub (m h.2 g.2) (by omega) (by omega), (m h.1 g.2).add (m h.2 g.1) (by omega) (by omega)⟩
theorem plus_bd {E : Nat} {z w : Cx} (h : KC (Bd E) z) (g : KC (Bd E) w) (h1 : 1 ≤ E) (h2 : E + 1 ≤ 2046) : KC (Bd (E + 1)) (plusC z w) := ⟨h.1.add g.1 h1 h2, h.2.add g.2 h1 h2⟩
theorem less_bd {E : Nat} {z w : Cx} (h : KC (Bd E) z) (g : KC (Bd E) w) (h1 : 1 ≤ E) (h2 : E + 1 ≤ 2046) : KC (Bd (E + 1)) (lessC z w) := ⟨h.1.sub g.1 h1 h2, h.2.sub g.2 h1 h2⟩
theorem tf_bd {E : Nat} {z : Cx} {f : Fl} (h : KC (Bd E) z) (g : Bd 1023 f) (h1 : 1 ≤ E) (h2 : E ≤ 2046) : KC (Bd E) (timesF z f) := by
  have m : ∀ {x : Fl}, Bd E x → Bd E (fmul x f) := fun p => (p.mul g h1 (by decide) (by omega) h2 (by decide) (by omega)).mono (by omega)
  exact ⟨m h.1, m h.2⟩
theorem mi_bd {E : Nat} {z : Cx} (h : KC (Bd E) z) : KC (Bd E) (minusI z) := ⟨h.2, h.1.neg⟩
theorem ti_bd {E : Nat} {z : Cx} (h : KC (Bd E) z) : KC (Bd E) (timesI z) := ⟨h.2.neg, h.1⟩
theorem KC.mono {E F : Nat} {z : Cx} (h : KC (Bd E) z) (l : E ≤ F) : KC (Bd F) z := ⟨h.1.mono l, h.2.mono l⟩
theorem z0_bd {E : Nat} : KC (Bd E) z0 := ⟨⟨0, rfl, by simp⟩, ⟨0, rfl, by simp⟩⟩
theorem cst_bd : Bd 1023 (cn 4602678819172646912) ∧ Bd 1023 (cn 4605975682916830378) ∧ Bd 1023 (cn 4606741575090066687) ∧ Bd 1023 (cn 4603469518431672926) ∧ Bd 1023 (cn 4599238375200778576) ∧ Bd 1023 (cn 13828834233668859048) :=
  ⟨Bd.of (by kernel_rfl), Bd.of (by kernel_rfl), Bd.of (by kernel_rfl), Bd.of (by kernel_rfl), Bd.of (by kernel_rfl), Bd.of (by kernel_rfl)⟩
theorem list_bd {E : Nat} {l : List Cx} (h : ∀ z ∈ l, KC (Bd E) z) (k : Nat) : KC (Bd E) (l.getD k z0) := by
  simp only [List.getD]
  cases e : l[k]? with
  | none => exact z0_bd
  | some z => exact h z (List.mem_of_getElem? e)
theorem fly_bd {E n : Nat} {x : Nat → Cx} (h2 : 2 ≤ n) (h5 : n ≤ 5) (hx : ∀ j, KC (Bd E) (x j)) (h1 : 1 ≤ E) (hE : E + 4 ≤ 2046) (k : Nat) : KC (Bd (E + 4)) ((flyG ((List.range n).map x)).getD k z0) := by
  obtain ⟨c1, c2, c3, c4, c5, c6⟩ := cst_bd
  have up : ∀ {F : Nat} {z : Cx}, KC (Bd F) z → F ≤ E + 4 → KC (Bd (E + 4)) z := fun h l => h.mono l
  refine list_bd (fun z hz => ?_) k
  have hn : n = 2 ∨ n = 3 ∨ n = 4 ∨ n = 5 := by omega
  rcases hn with rfl | rfl | rfl | rfl
  · have hz : z ∈ [plusC (x 0) (x 1), lessC (x 0) (x 1)] := hz
    simp only [List.mem_cons, List.not_mem_nil, or_false] at hz
    rcases hz with rfl | rfl
    · exact (plus_bd (hx 0) (hx 1) h1 (by omega)).mono (by omega)
    · exact (less_bd (hx 0) (hx 1) h1 (by omega)).mono (by omega)
  · have hz : z ∈ fl3 (x 0) (x 1) (x 2) := hz
    have s := plus_bd (hx 1) (hx 2) h1 (by omega)
    have m := less_bd ((hx 0).mono (show E ≤ E + 1 by omega)) (tf_bd s c1 (by omega) (by omega)) (by omega) (by omega)
    have u := (tf_bd (less_bd (hx 1) (hx 2) h1 (by omega)) c2 (by omega) (by omega)).mono (show E + 1 ≤ E + 1 + 1 by omega)
    simp only [fl3, List.mem_cons, List.not_mem_nil, or_false] at hz
    rcases hz with rfl | rfl | rfl
    · exact (plus_bd ((hx 0).mono (show E ≤ E + 1 by omega)) s (by omega) (by omega)).mono (by omega)
    · exact (plus_bd m (mi_bd u) (by omega) (by omega)).mono (by omega)
    · exact (plus_bd m (ti_bd u) (by omega) (by omega)).mono (by omega)
  · have p := plus_bd (hx 0) (hx 2) h1 (by omega)
    have q := less_bd (hx 0) (hx 2) h1 (by omega)
    have s := plus_bd (hx 1) (hx 3) h1 (by omega)
    have u := less_bd (hx 1) (hx 3) h1 (by omega)
    have hz : z ∈ [plusC (plusC (x 0) (x 2)) (plusC (x 1) (x 3)), plusC (lessC (x 0) (x 2)) (minusI (lessC (x 1) (x 3))), lessC (plusC (x 0) (x 2)) (plusC (x 1) (x 3)), plusC (lessC (x 0) (x 2)) (timesI (lessC (x 1) (x 3)))] := hz
    simp only [List.mem_cons, List.not_mem_nil, or_false] at hz
    rcases hz with rfl | rfl | rfl | rfl
    · exact (plus_bd p s (by omega) (by omega)).mono (by omega)
    · exact (plus_bd q (mi_bd u) (by omega) (by omega)).mono (by omega)
    · exact (less_bd p s (by omega) (by omega)).mono (by omega)
    · exact (plus_bd q (ti_bd u) (by omega) (by omega)).mono (by omega)
  · have hz : z ∈ fl5 (x 0) (x 1) (x 2) (x 3) (x 4) := hz
    have t := plus_bd (hx 1) (hx 4) h1 (by omega)
    have v := plus_bd (hx 2) (hx 3) h1 (by omega)
    have u := less_bd (hx 1) (hx 4) h1 (by omega)
    have w := less_bd (hx 2) (hx 3) h1 (by omega)
    have e1 : E ≤ E + 1 + 1 := by omega
    have m := plus_bd ((hx 0).mono e1) (plus_bd (tf_bd t c5 (by omega) (by omega)) (tf_bd v c6 (by omega) (by omega)) (by omega) (by omega)) (by omega) (by omega)
    have n := plus_bd ((hx 0).mono e1) (plus_bd (tf_bd t c6 (by omega) (by omega)) (tf_bd v c5 (by omega) (by omega)) (by omega) (by omega)) (by omega) (by omega)
    have g := (plus_bd (tf_bd u c3 (by omega) (by omega)) (tf_bd w c4 (by omega) (by omega)) (by omega) (by omega)).mono (show E + 1 + 1 ≤ E + 1 + 1 + 1 by omega)
    have f := (less_bd (tf_bd u c4 (by omega) (by omega)) (tf_bd w c3 (by omega) (by omega)) (by omega) (by omega)).mono (show E + 1 + 1 ≤ E + 1 + 1 + 1 by omega)
    simp only [fl5, List.mem_cons, List.not_mem_nil, or_false] at hz
    rcases hz with rfl | rfl | rfl | rfl | rfl
    · exact (plus_bd ((hx 0).mono e1) (plus_bd t v (by omega) (by omega)) (by omega) (by omega)).mono (by omega)
    · exact (plus_bd m (mi_bd g) (by omega) (by omega)).mono (by omega)
    · exact (plus_bd n (mi_bd f) (by omega) (by omega)).mono (by omega)
    · exact (plus_bd n (ti_bd f) (by omega) (by omega)).mono (by omega)
    · exact (plus_bd m (ti_bd g) (by omega) (by omega)).mono (by omega)
def gB : Ord → Nat
  | .mk k n ks => if k = 1 then 12 + n.toNat else if k = 2 then 4 else
    match ks with
    | [a, b] => gB a + gB b + 12
    | _ => 0
theorem gB_times (n : Int) (a b : Ord) : gB (.mk 3 n [a, b]) = gB a + gB b + 12 := by rw [gB, if_neg (by decide), if_neg (by decide)]
inductive NB : Ord → Prop
  | direct {n : Int} : 1 ≤ n → n ≤ 64 → NB (.mk 1 n [])
  | fly {n : Int} : 2 ≤ n → n ≤ 5 → NB (.mk 2 n [])
  | times {n : Int} {a b : Ord} : NB a → NB b → 1 ≤ a.len → 1 ≤ b.len → NB (.mk 3 n [a, b])
theorem sum_bdC {E n k : Nat} {x : Nat → Cx} (hn : 1 ≤ n) (hn2 : n ≤ 64) (hx : ∀ j, KC (Bd E) (x j)) (h1 : 1 ≤ E) : ∀ j, E + 12 + j ≤ 2046 → KC (Bd (E + 12 + j)) (sumG n k x j)
  | 0, _ => (hx 0).mono (by omega)
  | j + 1, h => by
    unfold sumG
    show KC (Bd (E + 12 + j + 1)) _
    refine plus_bd (E := E + 12 + j) (sum_bdC hn hn2 hx h1 j (by omega)) ?_ (by omega) (by omega)
    split
    · exact (hx (j + 1)).mono (by omega)
    · exact (mulC_bd (hx (j + 1)) (root_bd hn (by omega)) h1 (by omega)).mono (by omega)
theorem twist_bd {E n k : Nat} {z : Cx} (hn : 1 ≤ n) (hn2 : n ≤ 4194304) (h : KC (Bd E) z) (h1 : 1 ≤ E) (h2 : E + 12 ≤ 2046) : KC (Bd (E + 12)) (twistF z n k) := by
  unfold twistF
  split
  · exact h.mono (by omega)
  · exact mulC_bd h (root_bd hn hn2) h1 h2
theorem trM_bd {o : Ord} (ho : NB o) : GO o → ∀ {E : Nat} {x : Nat → Cx}, (∀ j, KC (Bd E) (x j)) → 1 ≤ E → E + gB o ≤ 2046 → ∀ k, KC (Bd (E + gB o)) (trM o x k) := by
  induction ho with
  | @direct n h1 h2 =>
    intro _ E x hx hE hg k
    have e : gB (.mk 1 n []) = 12 + n.toNat := by unfold gB; simp
    rw [e] at hg ⊢
    rw [trM_direct]
    exact (sum_bdC (by omega) (by omega) hx hE (n.toNat - 1) (by omega)).mono (by omega)
  | @fly n h1 h2 =>
    intro _ E x hx hE hg k
    have e : gB (.mk 2 n []) = 4 := by unfold gB; simp
    rw [e] at hg ⊢
    rw [trM_fly]
    exact fly_bd (by omega) (by omega) hx hE hg k
  | @times n a b ha hb h1 h2 ia ib =>
    intro hgo E x hx hE hg k
    rw [gB_times] at hg ⊢
    rw [trM_times]
    cases hgo with
    | times ga gb g2 g3 g4 =>
      have hab : a.len.toNat * b.len.toNat ≤ 16384 := by
        have : (a.len.toNat : Int) * (b.len.toNat : Int) ≤ 16384 := by rw [show ((a.len.toNat : Nat) : Int) = a.len by omega, show ((b.len.toNat : Nat) : Int) = b.len by omega]; exact g4
        rw [← Int.natCast_mul] at this
        omega
      refine (ia ga (E := E + gB b + 12) (fun j => ?_) (by omega) (by omega) _).mono (by omega)
      exact twist_bd (Nat.mul_pos (by omega) (by omega)) (by omega) (ib gb (fun l => hx _) hE (by omega) _) (by omega) (by omega)
abbrev Fin' : Fl → Prop := Bd 2046
theorem chirp_bd {n j : Nat} (hn : 1 ≤ n) (hn2 : n ≤ 16384) : KC (Bd 1034) (chirpF n j) := root_bd (by omega) (by omega)
theorem other_bd {n m i : Nat} (hn : 1 ≤ n) (hn2 : n ≤ 16384) : KC (Bd 1034) (otherF n m i) := by
  unfold otherF
  split
  · exact ⟨(chirp_bd hn hn2).1, (chirp_bd hn hn2).2.neg⟩
  · split
    · exact ⟨(chirp_bd hn hn2).1, (chirp_bd hn hn2).2.neg⟩
    · exact z0_bd
def nbB : Nat → Ord → Bool
  | 0, _ => false
  | f + 1, .mk k n ks => match ks with
    | [] => (k == 1 && decide (1 ≤ n) && decide (n ≤ 64)) || (k == 2 && decide (2 ≤ n) && decide (n ≤ 5))
    | [a, b] => k == 3 && nbB f a && nbB f b && decide (1 ≤ a.len) && decide (1 ≤ b.len)
    | _ => false
def koB : Nat → Ord → Bool
  | 0, _ => false
  | f + 1, .mk k n ks => match ks with
    | [] => (k == 1 && decide (1 ≤ n) && decide (n ≤ 64)) || (k == 2 && decide (2 ≤ n) && decide (n ≤ 5))
    | [a, b] => k == 3 && koB f a && koB f b && decide (1 ≤ a.len) && decide (1 ≤ b.len) && decide (a.len * b.len ≤ 16384)
    | [a] => k == 4 && nbB f a && decide (1 ≤ n) && decide (n ≤ 16384) && decide (1 ≤ a.len) && decide (1034 + gB a ≤ 2046)
    | _ => false
theorem nb_of : ∀ (f : Nat) (o : Ord), nbB f o = true → NB o
  | 0, _, h => by cases h
  | f + 1, .mk k n ks, h => by
    unfold nbB at h
    split at h
    · simp only [Bool.or_eq_true, Bool.and_eq_true, beq_iff_eq, decide_eq_true_eq] at h
      rcases h with ⟨⟨rfl, h1⟩, h2⟩ | ⟨⟨rfl, h1⟩, h2⟩
      · exact .direct h1 h2
      · exact .fly h1 h2
    · simp only [Bool.and_eq_true, beq_iff_eq, decide_eq_true_eq] at h
      obtain ⟨⟨⟨⟨rfl, ha⟩, hb⟩, h1⟩, h2⟩ := h
      exact .times (nb_of f _ ha) (nb_of f _ hb) h1 h2
    · cases h
theorem NB.ko {o : Ord} (h : NB o) : GO o → KO Fin' o := by
  induction h with
  | direct h1 h2 => exact fun _ => .direct h1 fun j _ => (root_bd (by omega) (by omega)).mono (by decide)
  | fly h1 h2 => exact fun _ => .fly h1 h2
  | @times n a b _ _ h1 h2 ia ib =>
    intro hg
    cases hg with
    | times ga gb g2 g3 g4 =>
      have hab : a.len.toNat * b.len.toNat ≤ 16384 := by
        have : (a.len.toNat : Int) * (b.len.toNat : Int) ≤ 16384 := by rw [show ((a.len.toNat : Nat) : Int) = a.len by omega, show ((b.len.toNat : Nat) : Int) = b.len by omega]; exact g4
        rw [← Int.natCast_mul] at this
        omega
      exact .times (ia ga) (ib gb) h1 h2 fun j _ => (root_bd (Nat.mul_pos (by omega) (by omega)) (by omega)).mono (by decide)
theorem ko_of : ∀ (f : Nat) (o : Ord), koB f o = true → GO o → KO Fin' o
  | 0, _, h, _ => by cases h
  | f + 1, .mk k n ks, h, hg => by
    unfold koB at h
    split at h
    · simp only [Bool.or_eq_true, Bool.and_eq_true, beq_iff_eq, decide_eq_true_eq] at h
      rcases h with ⟨⟨rfl, h1⟩, h2⟩ | ⟨⟨rfl, h1⟩, h2⟩
      · exact .direct h1 fun j _ => (root_bd (by omega) (by omega)).mono (by decide)
      · exact .fly h1 h2
    · rename_i a b
      simp only [Bool.and_eq_true, beq_iff_eq, decide_eq_true_eq] at h
      obtain ⟨⟨⟨⟨⟨rfl, ha⟩, hb⟩, h1⟩, h2⟩, h3⟩ := h
      cases hg with
      | times ga gb g2 g3 g4 =>
        have hab : a.len.toNat * b.len.toNat ≤ 16384 := by
          have : (a.len.toNat : Int) * (b.len.toNat : Int) ≤ 16384 := by rw [show ((a.len.toNat : Nat) : Int) = a.len by omega, show ((b.len.toNat : Nat) : Int) = b.len by omega]; exact g4
          rw [← Int.natCast_mul] at this
          omega
        exact .times (ko_of f _ ha ga) (ko_of f _ hb gb) h1 h2 fun j _ => (root_bd (Nat.mul_pos (by omega) (by omega)) (by omega)).mono (by decide)
    · rename_i a
      simp only [Bool.and_eq_true, beq_iff_eq, decide_eq_true_eq] at h
      obtain ⟨⟨⟨⟨⟨rfl, ha⟩, h1⟩, h2⟩, h3⟩, h4⟩ := h
      have nb := nb_of f _ ha
      cases hg with
      | blue g1 g2 ga g3 =>
        exact .blue (nb.ko ga) h3 (len_bd a).2 (fun j => (chirp_bd (by omega) (by omega)).mono (by decide)) fun i => (trM_bd nb ga (E := 1034) (fun j => other_bd (by omega) (by omega)) (by decide) h4 i).mono h4
    · cases h
def Nz (x : Fl) : Prop := ∃ b, x = some b ∧ b % 2 ^ 63 = 0
theorem nz_of {o : Option Datum} (h : ∃ s p, o = some (.number s 0 p)) : Nz (o.map double.write) := by
  obtain ⟨s, p, rfl⟩ := h
  exact ⟨_, rfl, nearest_nought s p⟩
theorem nsum (s t : Bool) (p q : Int) : ∃ u r, (Datum.number s 0 p).sum (.number t 0 q) = some (.number u 0 r) := by
  have z : ∀ u v, (signed s 0 u + signed t 0 v).natAbs = 0 := fun u v => by rw [signed_nought, signed_nought]; rfl
  exact ⟨_, _, congrArg (fun z => some (Datum.number _ z _)) (z _ _)⟩
theorem Nz.rel : RelF (fun x _ => Nz x) Fin' where
  add := by
    rintro x _ y _ ⟨a, rfl, ha⟩ ⟨b, rfl, hb⟩
    obtain ⟨s, e1⟩ := read_zero ha
    obtain ⟨t, e2⟩ := read_zero hb
    refine nz_of ?_
    show ∃ s p, (double.read a).sum (double.read b) = _
    rw [e1, e2]
    exact nsum _ _ _ _
  sub := by
    rintro x _ y _ ⟨a, rfl, ha⟩ ⟨b, rfl, hb⟩
    obtain ⟨s, e1⟩ := read_zero ha
    obtain ⟨t, e2⟩ := read_zero hb
    refine nz_of ?_
    show ∃ s p, (double.read a).sum (double.read b).opposite = _
    rw [e1, e2]
    exact nsum _ _ _ _
  mul := by
    rintro x _ c ⟨a, rfl, ha⟩ hc
    obtain ⟨s, e1⟩ := read_zero ha
    obtain ⟨b, rfl, t, n, q, f1, f2, _, f3⟩ := hc.num (by decide) (by decide)
    refine nz_of ?_
    show ∃ s p, (double.read a).product (double.read b) = _
    rw [e1, f1]
    exact ⟨_, _, congrArg some (by rw [Nat.zero_mul])⟩
  quo := by
    rintro x _ n h1 h2 ⟨a, rfl, ha⟩
    obtain ⟨s, e1⟩ := read_zero ha
    have hs : Sm n := by unfold Sm; omega
    obtain ⟨sg, hy, hsg⟩ := Wh.cn_int hs
    obtain ⟨k, e2, _, _⟩ := read_wd sg (c := n.natAbs) hs
    have hnz : ¬ n.natAbs * 2 ^ k = 0 := Nat.mul_ne_zero (by omega) (by have := Nat.two_pow_pos k; omega)
    rw [hy]
    refine nz_of ?_
    show ∃ s p, (double.read a).quotient (double.fractionBits + 2) (double.read (wd sg n.natAbs)) = _
    rw [e1, e2]
    have zq : ∀ w, 2 * ((0 : Nat) <<< w / (n.natAbs * 2 ^ k)) + ((0 : Nat) <<< w % (n.natAbs * 2 ^ k) != 0).toNat = 0 := fun w => by simp
    exact ⟨_, _, (if_neg hnz).trans (congrArg (fun z => some (Datum.number _ z _)) (zq _))⟩
  neg := by
    rintro x _ ⟨a, rfl, ha⟩
    exact ⟨_, rfl, by rw [xor_mod]; exact ha⟩
  zero := ⟨0, rfl, rfl⟩
  cst := by
    obtain ⟨c1, c2, c3, c4, c5, c6⟩ := cst_bd
    exact ⟨c1.mono (by decide), c2.mono (by decide), c3.mono (by decide), c4.mono (by decide), c5.mono (by decide), c6.mono (by decide)⟩
end Go.Tm
