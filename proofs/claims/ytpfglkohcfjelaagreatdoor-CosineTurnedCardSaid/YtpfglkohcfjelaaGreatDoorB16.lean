/- Lemmas of this claim, joined by program. Whole numbers as floats: sums, differences, products and quotients that are whole are exact. A product by one and a quotient by one are exact, for every float. The document's roots and cosine sums in plain Lean: the same floats as the program's. Plans of any length; cosine transforms in plain Lean. Walks of functions: cosine transforms of any length. Walks of functions: the law CosineByPlan. Relations of floats that go through every transform, in plain Lean. Whole numbers through butterflies, roots and sums: exact. Bounds of floats, in plain Lean: sums, products and quotients stay finite; roots of unity are small. Conditions: each lemma names its own. -/
import Derived.Test.YtpfglkohcfjelaaGreatDoorB09
import Derived.Test.YtpfglkohcfjelaaGreatDoorB10
import Derived.Test.YtpfglkohcfjelaaGreatDoorB13
import Derived.Test.YtpfglkohcfjelaaGreatDoorB15
import Derived.KernelRfl
set_option linter.all false
namespace Go.Tm
open Ieee
def wd (s : Bool) (c : Nat) : Nat := (if s then 2 ^ 63 else 0) + (if c = 0 then 0 else (1022 + c.log2) * 2 ^ 52 + c * 2 ^ (52 - c.log2))
theorem log2_bd {c : Nat} (h0 : c ≠ 0) (h : c < 2 ^ 53) : c.log2 ≤ 52 ∧ 2 ^ 52 ≤ c * 2 ^ (52 - c.log2) ∧ c * 2 ^ (52 - c.log2) < 2 ^ 53 := by
  have h1 : 2 ^ c.log2 ≤ c := Nat.log2_self_le h0
  have h2 : c < 2 ^ (c.log2 + 1) := Nat.lt_log2_self
  have h3 : c.log2 ≤ 52 := by
    have : c.log2 < 53 := (Nat.log2_lt h0).2 h
    omega
  refine ⟨h3, ?_, ?_⟩
  · have := Nat.mul_le_mul_right (2 ^ (52 - c.log2)) h1
    rw [← Nat.pow_add, show c.log2 + (52 - c.log2) = 52 by omega] at this
    exact this
  · have := Nat.mul_lt_mul_of_pos_right h2 (Nat.two_pow_pos (52 - c.log2))
    rw [← Nat.pow_add, show c.log2 + 1 + (52 - c.log2) = 53 by omega] at this
    exact this
theorem read_wd (s : Bool) {c : Nat} (h : c < 2 ^ 53) : ∃ k : Nat, double.read (wd s c) = .number s (c * 2 ^ k) (-(k : Int)) ∧ (c ≠ 0 → k + c.log2 = 52) ∧ k ≤ 1074 := by
  by_cases h0 : c = 0
  · subst h0
    refine ⟨1074, ?_, fun h => absurd rfl h, by omega⟩
    generalize (2 : Nat) ^ 1074 = X
    rw [Nat.zero_mul]
    cases s <;> decide
  · obtain ⟨h1, h2, h3⟩ := log2_bd h0 h
    refine ⟨52 - c.log2, ?_, fun _ => by omega, by omega⟩
    have e1 : double.signWeight = 2 ^ 63 := rfl
    have e2 : double.binade = 2 ^ 52 := rfl
    have e3 : double.infRung = (2 ^ 11 - 1) * 2 ^ 52 := rfl
    have e4 : double.leastPlace = -1074 := rfl
    unfold wd
    rw [if_neg h0]
    generalize c * 2 ^ (52 - c.log2) = K at *
    generalize c.log2 = L at *
    unfold Format.read
    simp only [e1, e2, e3, e4]
    have r1 : ((if s = true then 2 ^ 63 else 0) + ((1022 + L) * 2 ^ 52 + K)) % 2 ^ 63 = (1022 + L) * 2 ^ 52 + K := by split <;> omega
    have r2 : (((if s = true then 2 ^ 63 else 0) + ((1022 + L) * 2 ^ 52 + K)) / 2 ^ 63 % 2 == 1) = s := by cases s <;> simp <;> omega
    rw [r1, r2, if_neg (by omega), if_pos (by omega)]
    have r3 : ((1022 + L) * 2 ^ 52 + K) % 2 ^ 52 = K - 2 ^ 52 := by omega
    have r4 : ((1022 + L) * 2 ^ 52 + K) / 2 ^ 52 = 1023 + L := by omega
    have r5 : 2 ^ 52 + (K - 2 ^ 52) = K := by omega
    have r6 : (-1074 : Int) + ((1023 + L - 1 : Nat) : Int) = -((52 - L : Nat) : Int) := by omega
    rw [r3, r4, r5, r6]
theorem cut_whole (s : Bool) {A d n : Nat} (hn : n = A * 2 ^ d) (hd : d ≤ n.log2 + 2) : Toward.even.cut s n d = A := by
  have h2 := Nat.two_pow_pos d
  have e1 : n / 2 ^ d = A := by rw [hn]; exact Nat.mul_div_cancel _ h2
  have e2 : n % 2 ^ d = 0 := by rw [hn]; exact Nat.mul_mod_left _ _
  unfold Toward.cut
  rw [Nat.min_eq_left hd, Nat.one_shiftLeft]
  simp only [e1, e2]
  have : ¬ (2 ^ d < 0) ∧ ¬ (2 ^ d = 0) := by omega
  simp
theorem log2_mul_pow (c k : Nat) (h : c ≠ 0) : (c * 2 ^ k).log2 = c.log2 + k := by
  have h1 : 2 ^ c.log2 ≤ c := Nat.log2_self_le h
  have h2 : c < 2 ^ (c.log2 + 1) := Nat.lt_log2_self
  have h3 : c * 2 ^ k ≠ 0 := by have := Nat.two_pow_pos k; exact Nat.mul_ne_zero h (by omega)
  have a1 := Nat.mul_le_mul_right (2 ^ k) h1
  have a2 := Nat.mul_lt_mul_of_pos_right h2 (Nat.two_pow_pos k)
  rw [← Nat.pow_add] at a1 a2
  have b1 : c.log2 + k ≤ (c * 2 ^ k).log2 := (Nat.le_log2 h3).2 a1
  have b2 : (c * 2 ^ k).log2 < c.log2 + 1 + k := (Nat.log2_lt h3).2 a2
  omega
theorem nearest_wd (s : Bool) {c M k : Nat} (h : c < 2 ^ 53) (hM : M = c * 2 ^ k) : double.nearest s M (-(k : Int)) = wd s c := by
  have e1 : double.signWeight = 2 ^ 63 := rfl
  by_cases h0 : c = 0
  · subst h0
    rw [Nat.zero_mul] at hM; subst hM
    simp [Format.nearest, wd, Format.word, e1]
  · obtain ⟨h1, h2, h3⟩ := log2_bd h0 h
    have hM0 : M ≠ 0 := by rw [hM]; have := Nat.two_pow_pos k; exact Nat.mul_ne_zero h0 (by omega)
    have hL : M.log2 = c.log2 + k := by rw [hM]; exact log2_mul_pow c k h0
    have e2 : double.fractionBits = 52 := rfl
    have e3 : double.infRung = (2 ^ 11 - 1) * 2 ^ 52 := rfl
    have e4 : double.leastPlace = -1074 := rfl
    have e5 : double.binade = 2 ^ 52 := rfl
    unfold Format.nearest
    rw [if_neg hM0, hL, e2, e3, e4, e5]
    have hl : max (-(k : Int) + ((c.log2 + k : Nat) : Int) - ((52 : Nat) : Int)) (-1074) = (c.log2 : Int) - 52 := by omega
    rw [hl]
    have hcut : Toward.even.cut s (M <<< (-(k : Int) - ((c.log2 : Int) - 52)).toNat) ((c.log2 : Int) - 52 - -(k : Int)).toNat = c * 2 ^ (52 - c.log2) := by
      by_cases hk : 52 - c.log2 ≤ k
      · rw [show (-(k : Int) - ((c.log2 : Int) - 52)).toNat = 0 by omega, show ((c.log2 : Int) - 52 - -(k : Int)).toNat = k - (52 - c.log2) by omega, Nat.shiftLeft_zero]
        refine cut_whole s ?_ (by omega)
        rw [hM, Nat.mul_assoc, ← Nat.pow_add, show 52 - c.log2 + (k - (52 - c.log2)) = k by omega]
      · rw [show ((c.log2 : Int) - 52 - -(k : Int)).toNat = 0 by omega, show (-(k : Int) - ((c.log2 : Int) - 52)).toNat = 52 - c.log2 - k by omega]
        refine cut_whole s ?_ (by omega)
        rw [hM, Nat.shiftLeft_eq, Nat.mul_assoc, ← Nat.pow_add, show k + (52 - c.log2 - k) = 52 - c.log2 by omega, Nat.pow_zero, Nat.mul_one]
    show double.word s (min (((c.log2 : Int) - 52 - -1074).toNat * 2 ^ 52 + Toward.even.cut s (M <<< (-(k : Int) - ((c.log2 : Int) - 52)).toNat) ((c.log2 : Int) - 52 - -(k : Int)).toNat) ((2 ^ 11 - 1) * 2 ^ 52)) = _
    rw [hcut]
    unfold wd
    rw [if_neg h0]
    simp only [Format.word, e1]
    generalize c * 2 ^ (52 - c.log2) = K at *
    generalize c.log2 = L at *
    rw [show ((L : Int) - 52 - -1074).toNat = 1022 + L by omega, Nat.min_eq_left (show (1022 + L) * 2 ^ 52 + K ≤ (2 ^ 11 - 1) * 2 ^ 52 by omega)]
    cases s <;> simp
def DW (d : Datum) (a : Int) : Prop := ∃ (s : Bool) (k : Nat), d = .number s (a.natAbs * 2 ^ k) (-(k : Int)) ∧ (a ≠ 0 → s = decide (a < 0)) ∧ k ≤ 1074 ∧ (a ≠ 0 → k + a.natAbs.log2 = 52)
def Wh (x : Fl) (a : Int) : Prop := ∃ s : Bool, x = some (wd s a.natAbs) ∧ (a ≠ 0 → s = decide (a < 0))
def Sm (a : Int) : Prop := a.natAbs < 2 ^ 53
theorem Wh.dw {x : Fl} {a : Int} (h : Wh x a) (ha : Sm a) : ∃ b, x = some b ∧ DW (double.read b) a := by
  obtain ⟨s, rfl, hs⟩ := h
  obtain ⟨k, e, h1, h2⟩ := read_wd s ha
  exact ⟨_, rfl, s, k, e, hs, h2, fun h => h1 (by omega)⟩
theorem signed_val {s : Bool} {a : Int} (hs : a ≠ 0 → s = decide (a < 0)) (k u : Nat) : signed s (a.natAbs * 2 ^ k) u = a * 2 ^ (k + u) := by
  have e : ((a.natAbs * 2 ^ k * 2 ^ u : Nat) : Int) = (a.natAbs : Int) * 2 ^ (k + u) := by
    rw [Nat.mul_assoc, ← Nat.pow_add]; push_cast; rfl
  unfold signed
  rw [Nat.shiftLeft_eq, e]
  by_cases h : a = 0
  · subst h; simp
  · have := hs h
    subst this
    by_cases h2 : a < 0
    · rw [if_pos (by simpa using h2), show (a.natAbs : Int) = -a by omega, Int.neg_mul, Int.neg_neg]
    · rw [if_neg (by simpa using h2), show (a.natAbs : Int) = a by omega]
theorem natAbs_pow (a : Int) (k : Nat) : (a * 2 ^ k).natAbs = a.natAbs * 2 ^ k := by
  rw [Int.natAbs_mul, Int.natAbs_pow]; rfl
theorem two_pow_posI (k : Nat) : (0 : Int) < 2 ^ k := by have := Nat.two_pow_pos k; exact_mod_cast this
theorem mulp_neg {a : Int} (k : Nat) : (a * 2 ^ k < 0) ↔ a < 0 := by
  have := two_pow_posI k
  constructor
  · intro h
    by_cases h2 : a < 0
    · exact h2
    · have := Int.mul_nonneg (show 0 ≤ a by omega) (show (0 : Int) ≤ 2 ^ k by omega)
      omega
  · intro h; exact Int.mul_neg_of_neg_of_pos h this
theorem mulp_zero {a : Int} (k : Nat) : (a * 2 ^ k = 0) ↔ a = 0 := by
  have := two_pow_posI k
  rw [Int.mul_eq_zero]
  omega
theorem sum_wh {x y : Datum} {a b : Int} (hx : DW x a) (hy : DW y b) (hc : Sm (a + b)) : ∃ d, x.sum y = some d ∧ Wh (some (double.write d)) (a + b) := by
  obtain ⟨s, k, rfl, hs, -, -⟩ := hx
  obtain ⟨t, l, rfl, ht, -, -⟩ := hy
  refine ⟨_, rfl, ?_⟩
  have main : ∀ K : Nat, min (-(k : Int)) (-(l : Int)) = -(K : Int) → k ≤ K → l ≤ K → Wh (some (double.write (.number (if signed s (a.natAbs * 2 ^ k) (-(k : Int) - min (-(k : Int)) (-(l : Int))).toNat + signed t (b.natAbs * 2 ^ l) (-(l : Int) - min (-(k : Int)) (-(l : Int))).toNat = 0 then s && t else decide (signed s (a.natAbs * 2 ^ k) (-(k : Int) - min (-(k : Int)) (-(l : Int))).toNat + signed t (b.natAbs * 2 ^ l) (-(l : Int) - min (-(k : Int)) (-(l : Int))).toNat < 0)) (signed s (a.natAbs * 2 ^ k) (-(k : Int) - min (-(k : Int)) (-(l : Int))).toNat + signed t (b.natAbs * 2 ^ l) (-(l : Int) - min (-(k : Int)) (-(l : Int))).toNat).natAbs (min (-(k : Int)) (-(l : Int)))))) (a + b) := by
    intro K h1 h2 h3
    rw [h1, show (-(k : Int) - -(K : Int)).toNat = K - k by omega, show (-(l : Int) - -(K : Int)).toNat = K - l by omega, signed_val hs, signed_val ht, show k + (K - k) = K by omega, show l + (K - l) = K by omega, ← Int.add_mul]
    simp only [mulp_neg, mulp_zero, natAbs_pow]
    refine ⟨if a + b = 0 then s && t else decide (a + b < 0), ?_, fun h => if_neg h⟩
    show some (double.nearest _ _ _) = _
    rw [nearest_wd _ hc rfl]
  exact main (max k l) (by omega) (by omega) (by omega)
theorem DW.opposite {x : Datum} {a : Int} (h : DW x a) : DW x.opposite (-a) := by
  obtain ⟨s, k, rfl, hs, hk, hl⟩ := h
  refine ⟨!s, k, by simp [Datum.opposite], fun h => ?_, hk, fun h => by rw [Int.natAbs_neg]; exact hl (by omega)⟩
  rw [hs (by omega)]
  by_cases h2 : a < 0
  · rw [decide_eq_true h2, decide_eq_false (by omega)]; rfl
  · rw [decide_eq_false h2, decide_eq_true (by omega)]; rfl
theorem Wh.add {x y : Fl} {a b : Int} (hx : Wh x a) (hy : Wh y b) (ha : Sm a) (hb : Sm b) (hc : Sm (a + b)) : Wh (fadd x y) (a + b) := by
  obtain ⟨u, rfl, hu⟩ := hx.dw ha
  obtain ⟨v, rfl, hv⟩ := hy.dw hb
  obtain ⟨d, e, hd⟩ := sum_wh hu hv hc
  show Wh (((double.read u).sum (double.read v)).map double.write) _
  rw [e]; exact hd
theorem Wh.sub {x y : Fl} {a b : Int} (hx : Wh x a) (hy : Wh y b) (ha : Sm a) (hb : Sm b) (hc : Sm (a - b)) : Wh (fsub x y) (a - b) := by
  obtain ⟨u, rfl, hu⟩ := hx.dw ha
  obtain ⟨v, rfl, hv⟩ := hy.dw hb
  obtain ⟨d, e, hd⟩ := sum_wh hu hv.opposite (by rw [← Int.sub_eq_add_neg]; exact hc)
  show Wh (((double.read u).sum (double.read v).opposite).map double.write) _
  rw [e, Int.sub_eq_add_neg]; exact hd
theorem Wh.mul {x y : Fl} {a b : Int} (hx : Wh x a) (hy : Wh y b) (ha : Sm a) (hb : Sm b) (hc : Sm (a * b)) : Wh (fmul x y) (a * b) := by
  obtain ⟨u, rfl, hu⟩ := hx.dw ha
  obtain ⟨v, rfl, hv⟩ := hy.dw hb
  obtain ⟨s, k, e, hs, -, -⟩ := hu
  obtain ⟨t, l, e', ht, -, -⟩ := hv
  show Wh (((double.read u).product (double.read v)).map double.write) _
  rw [e, e']
  refine ⟨s ^^ t, ?_, fun h => ?_⟩
  · show some (double.nearest (s ^^ t) (a.natAbs * 2 ^ k * (b.natAbs * 2 ^ l)) (-(k : Int) + -(l : Int))) = _
    rw [show (-(k : Int) + -(l : Int)) = -((k + l : Nat) : Int) by omega, nearest_wd (c := (a * b).natAbs) _ hc]
    rw [Int.natAbs_mul, Nat.pow_add]
    ac_rfl
  · have h1 : a ≠ 0 := fun h' => h (by rw [h', Int.zero_mul])
    have h2 : b ≠ 0 := fun h' => h (by rw [h', Int.mul_zero])
    rw [hs h1, ht h2]
    by_cases p : a < 0 <;> by_cases q : b < 0
    · have := Int.mul_pos_of_neg_of_neg p q
      simp [p, q]; omega
    · have := Int.mul_neg_of_neg_of_pos p (show 0 < b by omega)
      simp [p, q]; omega
    · have := Int.mul_neg_of_pos_of_neg (show 0 < a by omega) q
      simp [p, q]; omega
    · have := Int.mul_pos (show 0 < a by omega) (show 0 < b by omega)
      simp [p, q]; omega
theorem Wh.quo {x y : Fl} {a b q : Int} (hx : Wh x a) (hy : Wh y b) (ha : Sm a) (hb : Sm b) (hb0 : 0 < b) (hq : a = q * b) (hc : Sm q) : Wh (fquo x y) q := by
  obtain ⟨u, rfl, hu⟩ := hx.dw ha
  obtain ⟨v, rfl, hv⟩ := hy.dw hb
  obtain ⟨s, k, e, hs, hk, hl⟩ := hu
  obtain ⟨t, l, e', ht, hk', hl'⟩ := hv
  have ht' : t = false := by rw [ht (by omega)]; simp; omega
  subst ht'
  have hbn : b.natAbs ≠ 0 := by omega
  have hb2 : b.natAbs * 2 ^ l ≠ 0 := Nat.mul_ne_zero hbn (by have := Nat.two_pow_pos l; omega)
  have han : a.natAbs = q.natAbs * b.natAbs := by rw [hq, Int.natAbs_mul]
  show Wh (((double.read u).quotient (double.fractionBits + 2) (double.read v)).map double.write) _
  rw [e, e']
  have e2 : double.fractionBits + 2 = 54 := rfl
  rw [e2]
  show Wh (Option.map double.write (if b.natAbs * 2 ^ l = 0 then (if a.natAbs * 2 ^ k = 0 then none else some (.infinity (s ^^ false))) else some (.number (s ^^ false) (2 * ((a.natAbs * 2 ^ k) <<< (54 + (b.natAbs * 2 ^ l).log2 - (a.natAbs * 2 ^ k).log2) / (b.natAbs * 2 ^ l)) + ((a.natAbs * 2 ^ k) <<< (54 + (b.natAbs * 2 ^ l).log2 - (a.natAbs * 2 ^ k).log2) % (b.natAbs * 2 ^ l) != 0).toNat) (-(k : Int) - -(l : Int) - ((54 + (b.natAbs * 2 ^ l).log2 - (a.natAbs * 2 ^ k).log2 : Nat) : Int) - 1)))) q
  rw [if_neg hb2]
  simp only [Option.map_some, Bool.xor_false]
  refine ⟨s, ?_, fun h => ?_⟩
  · have hlb := hl' (by omega)
    have hlog : (b.natAbs * 2 ^ l).log2 = 52 := by rw [log2_mul_pow _ _ hbn]; omega
    rw [hlog]
    obtain ⟨more, hm⟩ : ∃ m, 54 + 52 - (a.natAbs * 2 ^ k).log2 = m := ⟨_, rfl⟩
    rw [hm]
    have hge : l ≤ k + more := by
      by_cases h0 : a = 0
      · subst h0; simp at hm; omega
      · have hla := hl h0
        have : (a.natAbs * 2 ^ k).log2 = 52 := by rw [log2_mul_pow _ _ (by omega)]; omega
        omega
    have hdiv : a.natAbs * 2 ^ k * 2 ^ more = q.natAbs * 2 ^ (k + more - l) * (b.natAbs * 2 ^ l) := by
      rw [han, Nat.mul_assoc (q.natAbs * b.natAbs), ← Nat.pow_add, show q.natAbs * 2 ^ (k + more - l) * (b.natAbs * 2 ^ l) = q.natAbs * b.natAbs * (2 ^ (k + more - l) * 2 ^ l) by ac_rfl, ← Nat.pow_add, show k + more - l + l = k + more by omega]
    have hpos : 0 < b.natAbs * 2 ^ l := by omega
    rw [Nat.shiftLeft_eq, hdiv, Nat.mul_div_cancel _ hpos, Nat.mul_mod_left]
    show some (double.nearest s (2 * (q.natAbs * 2 ^ (k + more - l)) + 0) (-(k : Int) - -(l : Int) - (more : Int) - 1)) = _
    rw [show (-(k : Int) - -(l : Int) - (more : Int) - 1) = -((k + more - l + 1 : Nat) : Int) by omega, nearest_wd (c := q.natAbs) _ hc]
    rw [Nat.pow_succ, Nat.add_zero]; ac_rfl
  · have h0 : a ≠ 0 := by rw [hq]; exact Int.mul_ne_zero h (by omega)
    rw [hs h0, hq]
    by_cases p : q < 0
    · have := Int.mul_neg_of_neg_of_pos p hb0; simp [p, this]
    · have := Int.mul_pos (show 0 < q by omega) hb0; simp [p]; omega
theorem wd_xor (s : Bool) {c : Nat} (h : c < 2 ^ 53) : wd s c ^^^ 2 ^ 63 = wd (!s) c := by
  have key : ∀ x, x < 2 ^ 63 → x ^^^ 2 ^ 63 = 2 ^ 63 + x := by
    intro x hx
    apply Nat.eq_of_testBit_eq
    intro i
    rw [Nat.testBit_xor, Nat.testBit_two_pow]
    by_cases hi : 63 = i
    · subst hi
      rw [Nat.testBit_two_pow_add_eq, Nat.testBit_lt_two_pow hx]; simp
    · by_cases hl : i < 63
      · rw [Nat.testBit_two_pow_add_gt hl]; simp [hi]
      · have h1 : x.testBit i = false := Nat.testBit_lt_two_pow (Nat.lt_of_lt_of_le hx (Nat.pow_le_pow_right (by omega) (by omega)))
        have h2 : (2 ^ 63 + x).testBit i = false := Nat.testBit_lt_two_pow (Nat.lt_of_lt_of_le (show 2 ^ 63 + x < 2 ^ 64 by omega) (Nat.pow_le_pow_right (by omega) (by omega)))
        rw [h1, h2]; simp [hi]
  have hlt : wd false c < 2 ^ 63 := by
    unfold wd
    simp only [Bool.false_eq_true, if_false, Nat.zero_add]
    split
    · simp
    · rename_i h0
      obtain ⟨h1, h2, h3⟩ := log2_bd h0 h
      simp; omega
  have e : wd true c = 2 ^ 63 + wd false c := by unfold wd; simp
  cases s
  · rw [key _ hlt]; exact e.symm
  · rw [e, ← key _ hlt, Nat.xor_assoc, Nat.xor_self, Nat.xor_zero]; rfl
theorem Wh.neg {x : Fl} {a : Int} (h : Wh x a) (ha : Sm a) : Wh (fneg x) (-a) := by
  obtain ⟨s, rfl, hs⟩ := h
  refine ⟨!s, ?_, fun h => ?_⟩
  · show some (wd s a.natAbs ^^^ 2 ^ 63) = _
    rw [wd_xor s ha, Int.natAbs_neg]
  · rw [hs (by omega)]
    by_cases h2 : a < 0
    · rw [decide_eq_true h2, decide_eq_false (by omega)]; rfl
    · rw [decide_eq_false h2, decide_eq_true (by omega)]; rfl
theorem Wh.of_int {a : Int} (ha : Sm a) : Wh (some (FloatKind.f64.nearest a)) a := by
  refine ⟨decide (a < 0), ?_, fun _ => rfl⟩
  show some (double.nearest (decide (a < 0)) a.natAbs 0) = _
  rw [show (0 : Int) = -((0 : Nat) : Int) from rfl, nearest_wd (c := a.natAbs) _ ha (by simp)]
theorem Wh.order {u v : Nat} {a b : Int} (hx : Wh (some u) a) (hy : Wh (some v) b) (ha : Sm a) (hb : Sm b) : double.order u v = some (compare a b) := by
  obtain ⟨u', e, hu⟩ := hx.dw ha; cases e
  obtain ⟨v', e, hv⟩ := hy.dw hb; cases e
  obtain ⟨s, k, e, hs, -, -⟩ := hu
  obtain ⟨t, l, e', ht, -, -⟩ := hv
  unfold Format.order
  rw [e, e']
  show some (compare (signed s _ _) (signed t _ _)) = _
  have main : ∀ K : Nat, min (-(k : Int)) (-(l : Int)) = -(K : Int) → k ≤ K → l ≤ K → compare (signed s (a.natAbs * 2 ^ k) (-(k : Int) - min (-(k : Int)) (-(l : Int))).toNat) (signed t (b.natAbs * 2 ^ l) (-(l : Int) - min (-(k : Int)) (-(l : Int))).toNat) = compare a b := by
    intro K h1 h2 h3
    rw [h1, show (-(k : Int) - -(K : Int)).toNat = K - k by omega, show (-(l : Int) - -(K : Int)).toNat = K - l by omega, signed_val hs, signed_val ht, show k + (K - k) = K by omega, show l + (K - l) = K by omega]
    have hp := two_pow_posI K
    rcases Int.lt_trichotomy a b with h | h | h
    · rw [Int.compare_eq_lt.2 h, Int.compare_eq_lt.2 (Int.mul_lt_mul_of_pos_right h hp)]
    · rw [h]; simp
    · rw [Int.compare_eq_gt.2 h, Int.compare_eq_gt.2 (Int.mul_lt_mul_of_pos_right h hp)]
  rw [main (max k l) (by omega) (by omega) (by omega)]
end Go.Tm
namespace Go.Tm
open Ieee
theorem nearest_num {s : Bool} {c k i : Nat} (hc : c ≠ 0) (hi : (i = 0 ∧ c < 2 ^ 52) ∨ (2 ^ 52 ≤ c ∧ c < 2 ^ 53)) (hf : i * 2 ^ 52 + c ≤ (2 ^ 11 - 1) * 2 ^ 52) :
    double.nearest s (c * 2 ^ k) (-1074 + (i : Int) - (k : Int)) = double.word s (i * 2 ^ 52 + c) := by
  have hM0 : c * 2 ^ k ≠ 0 := by have := Nat.two_pow_pos k; exact Nat.mul_ne_zero hc (by omega)
  have hL : (c * 2 ^ k).log2 = c.log2 + k := log2_mul_pow c k hc
  have hl1 : 2 ^ c.log2 ≤ c := Nat.log2_self_le hc
  have e2 : double.fractionBits = 52 := rfl
  have e3 : double.infRung = (2 ^ 11 - 1) * 2 ^ 52 := rfl
  have e4 : double.leastPlace = -1074 := rfl
  have e5 : double.binade = 2 ^ 52 := rfl
  unfold Format.nearest
  rw [if_neg hM0, hL, e2, e3, e4, e5]
  have hl : max (-1074 + (i : Int) - (k : Int) + ((c.log2 + k : Nat) : Int) - ((52 : Nat) : Int)) (-1074) = -1074 + (i : Int) := by
    rcases hi with ⟨h1, h2⟩ | ⟨h1, h2⟩
    · have : c.log2 < 52 := (Nat.log2_lt hc).2 h2
      omega
    · have a : c.log2 < 53 := (Nat.log2_lt hc).2 h2
      have b : 52 ≤ c.log2 := (Nat.le_log2 hc).2 h1
      omega
  rw [hl]
  have hcut : Toward.even.cut s ((c * 2 ^ k) <<< (-1074 + (i : Int) - (k : Int) - (-1074 + (i : Int))).toNat) (-1074 + (i : Int) - (-1074 + (i : Int) - (k : Int))).toNat = c := by
    rw [show (-1074 + (i : Int) - (k : Int) - (-1074 + (i : Int))).toNat = 0 by omega, show (-1074 + (i : Int) - (-1074 + (i : Int) - (k : Int))).toNat = k by omega, Nat.shiftLeft_zero]
    exact cut_whole s rfl (by omega)
  show double.word s (min ((-1074 + (i : Int) - -1074).toNat * 2 ^ 52 + Toward.even.cut s ((c * 2 ^ k) <<< (-1074 + (i : Int) - (k : Int) - (-1074 + (i : Int))).toNat) (-1074 + (i : Int) - (-1074 + (i : Int) - (k : Int))).toNat) ((2 ^ 11 - 1) * 2 ^ 52)) = _
  rw [hcut, show (-1074 + (i : Int) - -1074).toNat = i by omega, Nat.min_eq_left hf]
theorem word_of {b : Nat} (hb : b < 2 ^ 64) : double.word (b / 2 ^ 63 % 2 == 1) (b % 2 ^ 63) = b := by
  have e1 : double.signWeight = 2 ^ 63 := rfl
  unfold Format.word
  rw [e1]
  by_cases h : b / 2 ^ 63 % 2 = 1
  · simp [h]; omega
  · simp [h]; omega
theorem nearest_read {b k : Nat} {s : Bool} {c : Nat} {e : Int} (hb : b < 2 ^ 64) (hr : double.read b = .number s c e) : double.nearest s (c * 2 ^ k) (e - (k : Int)) = b := by
  have e1 : double.signWeight = 2 ^ 63 := rfl
  have e3 : double.infRung = (2 ^ 11 - 1) * 2 ^ 52 := rfl
  have e4 : double.leastPlace = -1074 := rfl
  have e5 : double.binade = 2 ^ 52 := rfl
  have hw := word_of hb
  unfold Format.read at hr
  simp only [e1, e3, e4, e5] at hr
  split at hr
  · rename_i h
    injection hr with h1 h2 h3
    subst h1 h2 h3
    by_cases h0 : b % 2 ^ 63 = 0
    · rw [h0] at hw ⊢
      rw [Nat.zero_mul, Format.nearest, if_pos rfl]
      exact hw
    · have := nearest_num (s := b / 2 ^ 63 % 2 == 1) (c := b % 2 ^ 63) (k := k) (i := 0) h0 (.inl ⟨rfl, h⟩) (by omega)
      rw [Nat.zero_mul, Nat.zero_add, hw] at this
      exact this
  · rename_i h
    split at hr
    · rename_i h'
      injection hr with h1 h2 h3
      subst h1 h2 h3
      have hq : b % 2 ^ 63 / 2 ^ 52 < 2 ^ 11 - 1 := Nat.div_lt_of_lt_mul (by omega)
      have hq1 : 1 ≤ b % 2 ^ 63 / 2 ^ 52 := (Nat.le_div_iff_mul_le (by decide)).2 (by omega)
      have hm := Nat.mod_lt (b % 2 ^ 63) (show 0 < 2 ^ 52 by decide)
      have hd := Nat.div_add_mod (b % 2 ^ 63) (2 ^ 52)
      have := nearest_num (s := b / 2 ^ 63 % 2 == 1) (c := 2 ^ 52 + b % 2 ^ 63 % 2 ^ 52) (k := k) (i := b % 2 ^ 63 / 2 ^ 52 - 1) (by omega) (.inr ⟨by omega, by omega⟩) (by omega)
      rw [show (b % 2 ^ 63 / 2 ^ 52 - 1) * 2 ^ 52 + (2 ^ 52 + b % 2 ^ 63 % 2 ^ 52) = b % 2 ^ 63 by omega, hw] at this
      exact this
    · split at hr <;> cases hr
def FlOk (x : Fl) : Prop := ∀ b, x = some b → b < 2 ^ 64 ∧ cn b = some b
theorem FlOk.cn {b : Nat} (h : b < 2 ^ 64) : FlOk (cn b) := by
  intro c hc
  unfold Go.Tm.cn at hc
  split at hc
  · cases hc
  · rename_i hn
    injection hc with hc
    subst hc
    exact ⟨h, by unfold Go.Tm.cn; rw [if_neg hn]⟩
theorem one_some : one = some 4607182418800017408 := by kernel_rfl
theorem one_read : double.read 4607182418800017408 = .number false 4503599627370496 (-52) := by kernel_rfl
theorem inf_of {b : Nat} {s : Bool} (hb : b < 2 ^ 64) (hr : double.read b = .infinity s) : double.word s double.infRung = b := by
  have e1 : double.signWeight = 2 ^ 63 := rfl
  have e3 : double.infRung = (2 ^ 11 - 1) * 2 ^ 52 := rfl
  have e4 : double.leastPlace = -1074 := rfl
  have e5 : double.binade = 2 ^ 52 := rfl
  have hw := word_of hb
  unfold Format.read at hr
  simp only [e1, e3, e4, e5] at hr
  split at hr
  · cases hr
  · split at hr
    · cases hr
    · split at hr
      · rename_i h
        injection hr with h1
        subst h1
        rw [e3, ← h]; exact hw
      · cases hr
theorem nan_cn {b : Nat} {s : Bool} {f : Nat} (hr : double.read b = .nan s f) : cn b = none := by
  have : (FloatKind.f64.decode b).isNaN = true := by
    have e : FloatKind.f64.decode b = .nan s f := hr
    rw [e]; rfl
  unfold cn; rw [if_pos this]
theorem fquo_one {x : Fl} (h : FlOk x) : fquo x one = x := by
  rw [one_some]
  cases x with
  | none => rfl
  | some b =>
    obtain ⟨hb, hc⟩ := h b rfl
    show ((double.read b).quotient (double.fractionBits + 2) (double.read 4607182418800017408)).map double.write = some b
    rw [one_read]
    cases hr : double.read b with
    | nan s f => rw [nan_cn hr] at hc; cases hc
    | infinity s =>
      show some (double.word (s ^^ false) double.infRung) = _
      rw [Bool.xor_false, inf_of hb hr]
    | number s c e =>
      have hlog : c.log2 ≤ 54 := by
        have e1 : double.signWeight = 2 ^ 63 := rfl
        have e3 : double.infRung = (2 ^ 11 - 1) * 2 ^ 52 := rfl
        have e4 : double.leastPlace = -1074 := rfl
        have e5 : double.binade = 2 ^ 52 := rfl
        have hlt : c < 2 ^ 55 := by
          unfold Format.read at hr
          simp only [e1, e3, e4, e5] at hr
          split at hr
          · injection hr with h1 h2 h3; omega
          · split at hr
            · injection hr with h1 h2 h3; omega
            · split at hr <;> cases hr
        by_cases h0 : c = 0
        · subst h0; decide
        · have := (Nat.log2_lt h0).2 hlt; omega
      have e2 : double.fractionBits + 2 = 54 := rfl
      rw [e2]
      show some (double.nearest (s ^^ false) (2 * ((c <<< (54 + Nat.log2 4503599627370496 - c.log2)) / 4503599627370496) + ((c <<< (54 + Nat.log2 4503599627370496 - c.log2)) % 4503599627370496 != 0).toNat) (e - -52 - ((54 + Nat.log2 4503599627370496 - c.log2 : Nat) : Int) - 1)) = _
      rw [show Nat.log2 4503599627370496 = 52 by kernel_rfl, Bool.xor_false]
      obtain ⟨m, hm⟩ : ∃ m, 54 + 52 - c.log2 = m + 52 := ⟨54 + 52 - c.log2 - 52, by omega⟩
      rw [hm, Nat.shiftLeft_eq, Nat.pow_add, ← Nat.mul_assoc, show (2 : Nat) ^ 52 = 4503599627370496 from rfl, Nat.mul_div_cancel _ (by decide), Nat.mul_mod_left]
      have := nearest_read (k := m + 1) hb hr
      rw [← this]
      congr 1
      show double.nearest s (2 * (c * 2 ^ m) + 0) _ = _
      rw [show 2 * (c * 2 ^ m) + 0 = c * 2 ^ (m + 1) by rw [Nat.pow_succ, Nat.add_zero]; ac_rfl, show (e - -52 - ((m + 52 : Nat) : Int) - 1) = e - ((m + 1 : Nat) : Int) by omega]
theorem fi_one : fi 1 = one := by kernel_rfl
end Go.Tm
namespace Go.Tm
def facR : Nat → Fl
  | 0 => one
  | 1 => one
  | m + 2 => fmul (facR (m + 1)) (fi ((m + 2 : Nat) : Int))
def cosK (n k j : Nat) : Fl := (pairF (4 * n) ((2 * j + 1) * k % (4 * n))).1
def sumK (n : Nat) (X : Nat → Fl) (k : Nat) : Nat → Fl
  | 0 => fmul (X 0) (cosK n k 0)
  | j + 1 => fadd (sumK n X k j) (fmul (X (j + 1)) (cosK n k (j + 1)))
structure SumG (X : Nat → Fl) (n k j : Nat) (zs : List Nat) : Prop where
  len : zs.length = n
  done : ∀ i, i < k → cn (zs.getD i 0) = sumK n X i (n - 1)
  now : 0 < j → cn (zs.getD k 0) = sumK n X k (j - 1)
theorem SumG.init (X : Nat → Fl) (n : Nat) : SumG X n 0 0 (List.replicate n 0) := ⟨by simp, fun i h => absurd h (by omega), fun h => absurd h (by omega)⟩
theorem SumG.round {X : Nat → Fl} {n k j : Nat} {zs : List Nat} (h : SumG X n k j zs) (hj : j = n) (hn : 0 < n) : SumG X n (k + 1) 0 zs := by
  refine ⟨h.len, fun i hi => ?_, fun h => absurd h (by omega)⟩
  by_cases c : i = k
  · subst c; have := h.now (by omega); rwa [hj] at this
  · exact h.done i (by omega)
theorem SumG.step {X : Nat → Fl} {n k j : Nat} {zs : List Nat} {a : Nat} (h : SumG X n k j zs) (hk : k < n) (ha : cn a = sumK n X k j) : SumG X n k (j + 1) (zs.set k a) := by
  have hl := h.len
  refine ⟨by rw [List.length_set]; exact hl, fun i hi => ?_, fun _ => ?_⟩
  · have := h.done i hi
    simp only [List.getD, List.getElem?_set] at this ⊢
    simpa [show ¬ k = i by omega] using this
  · rw [Nat.add_sub_cancel]
    simp only [List.getD, List.getElem?_set]
    simpa [show k < zs.length by omega] using ha
theorem sumK_succ {n k j : Nat} {X : Nat → Fl} {a p c s : Nat} (hj : 0 < j) (hs : cn s = sumK n X k (j - 1)) (fa : cn a = fop .add (cn s) (cn p)) (fp : cn p = fop .mul (X j) (cn c)) (fc : cn c = cosK n k j) : cn a = sumK n X k j := by
  obtain ⟨i, rfl⟩ : ∃ i, j = i + 1 := ⟨j - 1, by omega⟩
  rw [Nat.add_sub_cancel] at hs
  rw [fa, hs, fp, fc]; rfl
end Go.Tm
namespace Go.Tm
open Go.RowKit Go.Proofs
abbrev UV (i : Int) : Value := .int .u64 i
theorem SlR.getU {S : Nat → Prop} {w : World} {A : Option Addr} {l : Nat} {xs : List Int} (h : SlR S w A l 1 (xs.map UV)) {i : Int} (h0 : 0 ≤ i) (h1 : i < l) : w.cell? ((sAddr A).add (i.toNat * 1)) = some (.int .u64 (xs.getD i.toNat 0)) := SlR.get (f := UV) h 0 h0 h1
def flO (bs : List Int) : List Nat := bs.map Int.toNat
theorem flO_take {bs : List Int} {j : Nat} (h : j < bs.length) : ((flO bs).take (j + 1)).map flV = ((flO bs).take j).map flV ++ [.float .f64 (bs.getD j 0).toNat] := by
  have h2 : j < (flO bs).length := by simpa [flO] using h
  rw [List.take_add_one, List.map_append, List.getElem?_eq_getElem h2]
  simp [flO, List.getD, h]
abbrev XF (xs : List Nat) : Nat → Fl := fun i => cn (xs.getD i 0)
def bitF (b : Nat) : Nat := if 2 ^ 52 * (2 ^ 11 - 1) < b % 2 ^ 63 then 9221120237041090560 else b
section
variable {P : Program} {n : Fr} {k : K} {w : World} {d : Option Tmp} {ty : TypeId} {pos : String} {aft : Array Edge} {g : Option (Nat × Bool)}
end
theorem feq_const {a b : Nat} (h : cn a = cn b) (hb : cn b = some b) (he : (Ieee.double.order b b == some .eq) = true) : (Ieee.double.order a b == some .eq) = true := by
  rw [hb] at h
  unfold cn at h
  split at h
  · cases h
  · injection h with h; rw [h]; exact he
theorem bd_nil (n : Int) : BdOk ({ ln := n, cl := 0, i0 := 0, ou := n, steps := [], acts := 0, fr := 0 } : Bld) := ⟨Int.le_refl _, Int.le_refl _, by simp only; omega, by simp, Int.le_refl _, by simp only; omega⟩
structure BldG (n : Nat) (b : Bld) : Prop where
  ln : b.ln = n
  ok : PrgG b b.cl.toNat
  okb : okB b
  ne : 1 ≤ b.steps.length
  ac : 1 ≤ cntS b.steps
theorem bldG_of {o : Ord} {n : Nat} (h : o.len ≠ 0) (hf : (buildM o).full = false) (hn : o.len = n) : BldG n (buildM o) := by
  have go := GO.of_len h
  have hl := len_bd o
  have h00 := bd_nil o.len
  have h0 : PB ({ ln := o.len, cl := 0, i0 := 0, ou := o.len, steps := [], acts := 0, fr := 0 } : Bld) := ⟨h00, fun s hs => (by cases hs), rfl⟩
  have hb : PB (bld0 o.len) := h0.region (by omega) (by show (0 : Int) + 2 * o.len ≤ 400000; omega)
  have hfr : (bld0 o.len).fr = 2 * o.len := by show (0 : Int) + 2 * o.len = _; omega
  have hcl : 2 * o.len ≤ (bld0 o.len).cl := by have := region_ge ({ ln := o.len, cl := 0, i0 := 0, ou := o.len, steps := [], acts := 0, fr := 0 } : Bld) (2 * o.len); show 2 * o.len ≤ (Bld.region _ (2 * o.len)).cl; simp only at this; omega
  have hx : InsOk ⟨0, 1, o.len⟩ (sl o) (bld0 o.len).fr := by
    rw [← len_sl h, hfr]
    exact ⟨Int.le_refl _, Int.le_refl _, by show (1 : Int) ≤ 262144; decide, by show 0 + (o.len - 1) * 1 < 2 * o.len; omega, by show 0 ≤ o.len; omega, by show o.len + o.len ≤ 2 * o.len; omega, .inl (by show 0 + (o.len - 1) * 1 < o.len; omega)⟩
  have pb : PB (buildM o) := deepG go _ _ hb hx
  have hd : Hd3 (bld0 o.len) (buildM o) := deepM_hd go _ _
  have hne : 1 ≤ (buildM o).steps.length := deepM_len go _ _ hf
  have ff := full_false hf
  have kp : Kp (bld0 o.len) (buildM o) := deepM_keeps go _ _ hb.ok
  have hc := kp.cl
  have e1 : (buildM o).ln = o.len := hd.ln
  have e2 : (buildM o).i0 = 0 := hd.i0
  have e3 : (buildM o).ou = o.len := hd.ou
  have hcn : ∀ s ∈ (buildM o).steps, 1 ≤ s.count := fun s hs => (pb.st s hs).st.cnt.1
  have hac : 1 ≤ cntS (buildM o).steps := by
    have h1 := cntG_pos hcn
    by_cases h2 : cntS (buildM o).steps = 0
    · have := h1.2 h2; rw [this] at hne; simp at hne
    · omega
  have hs := pb.ac
  refine ⟨by rw [e1, hn], ⟨by omega, by omega, by omega, by omega, by omega, pb.st, ff.1, by omega⟩, ⟨ff.1, ?_, fun s hs => (pb.st s hs).form⟩, hne, hac⟩
  intro x hx
  simp only [Bld.hd, List.mem_cons, List.not_mem_nil, or_false] at hx
  rcases hx with rfl | rfl | rfl | rfl <;> omega
theorem best_ex (n : Nat) : ∃ b : Bld, ∀ r, Best PU n r → buildM r.1 = b := by
  by_cases h : ∃ r, Best PU n r
  · obtain ⟨r0, h0⟩ := h
    exact ⟨buildM r0.1, fun r hr => by rw [hr.unique h0]⟩
  · exact ⟨⟨0, 0, 0, 0, [], 0, 0⟩, fun r hr => absurd ⟨r, hr⟩ h⟩
noncomputable def bOf (n : Nat) : Bld := Classical.choose (best_ex n)
theorem bOf_spec {n : Nat} {r : Ord × Int} (h : Best PU n r) : buildM r.1 = bOf n := Classical.choose_spec (best_ex n) r h
theorem plan_fwd {o : Ord} (h : o.len ≠ 0) (hf : (buildM o).full = false) {zs : List Cx} (hz : zs.length = o.len.toNat) : fwdG (buildM o) zs = (List.range o.len.toNat).map (trM o (gd zs)) := by
  have go := GO.of_len h
  have hl := len_bd o
  have hs := len_sl h
  obtain ⟨n, hn⟩ : ∃ n : Nat, o.len = n := ⟨o.len.toNat, by omega⟩
  have h0 := bd_nil o.len
  have hb : BdOk (bld0 o.len) := h0.region (by omega) (by show (0 : Int) + 2 * o.len ≤ 400000; omega)
  have hfr : (bld0 o.len).fr = ((2 * n : Nat) : Int) := by show (0 : Int) + 2 * o.len = _; omega
  have hx : InsOk ⟨((0 : Nat) : Int), ((1 : Nat) : Int), (n : Nat)⟩ (sl o) (bld0 o.len).fr := by
    rw [← hs, hfr, hn]
    exact ⟨Int.le_refl _, Int.le_refl _, by simp only; omega, by simp only; omega, by simp only; omega, by simp only; omega, .inl (by simp only; omega)⟩
  have e : buildM o = deepM o ⟨((0 : Nat) : Int), ((1 : Nat) : Int), (n : Nat)⟩ (bld0 o.len) := by rw [← hn]; rfl
  obtain ⟨_, hc, L, hL, hrun⟩ := deep_tr go 0 1 n (bld0 o.len) hb hx (by rw [← e]; exact hf)
  have hd : Hd3 (bld0 o.len) (buildM o) := deepM_hd go _ _
  have e1 : (buildM o).ln = n := hd.ln.trans hn
  have e2 : (buildM o).i0 = 0 := hd.i0
  have e3 : (buildM o).ou = n := hd.ou.trans hn
  rw [← e] at hL hc hrun
  have hL2 : (buildM o).steps = L := hL
  have hcl : 2 * n ≤ (buildM o).cl.toNat := by
    have : (bld0 o.len).cl = if (0 : Int) + 2 * o.len > 0 then 0 + 2 * o.len else 0 := rfl
    rw [this] at hc
    split at hc <;> omega
  rw [hn, Int.toNat_natCast] at hz
  have e4 : loadC (buildM o).cl.toNat 0 zs = zs ++ List.replicate ((buildM o).cl.toNat - n) z0 := by
    simp [loadC, hz]
  obtain ⟨g1, g2, -⟩ := hrun (loadC (buildM o).cl.toNat 0 zs) (by rw [e4, List.length_append, List.length_replicate, hz]; omega)
  have hlen : (loadC (buildM o).cl.toNat 0 zs).length = (buildM o).cl.toNat := by rw [e4, List.length_append, List.length_replicate, hz]; omega
  rw [hlen] at g1
  unfold fwdG
  rw [hL2, e1, e2, e3, hn, Int.toNat_natCast, show (0 : Int).toNat = 0 from rfl]
  rw [← hs, hn, Int.toNat_natCast] at g2
  apply List.ext_getElem
  · simp [g1]; omega
  · intro i hi hi2
    simp only [List.length_map, List.length_range] at hi2
    have h3 := g2 i hi2
    simp only [List.getElem_take, List.getElem_drop, List.getElem_map, List.getElem_range]
    have h4 : gd (runG L (loadC (buildM o).cl.toNat 0 zs)) (n + i) = (runG L (loadC (buildM o).cl.toNat 0 zs))[n + i]'(by rw [g1]; omega) := by
      simp [gd, List.getD, List.getElem?_eq_getElem (show n + i < (runG L (loadC (buildM o).cl.toNat 0 zs)).length by rw [g1]; omega)]
    rw [← h4, h3]
    have hloc := trM_loc go
    rw [← hs, hn, Int.toNat_natCast] at hloc
    refine hloc _ _ (fun j hj => ?_) i
    rw [Nat.zero_add, Nat.mul_one, e4]
    simp only [gd, List.getD]
    rw [List.getElem?_append_left (by omega)]
theorem ord_ex (n : Nat) : ∃ o : Ord, ∀ r, Best PU n r → r.1 = o := by
  by_cases h : ∃ r, Best PU n r
  · obtain ⟨r0, h0⟩ := h
    exact ⟨r0.1, fun r hr => by rw [hr.unique h0]⟩
  · exact ⟨.mk 0 0 [], fun r hr => absurd ⟨r, hr⟩ h⟩
noncomputable def oOf (n : Nat) : Ord := Classical.choose (ord_ex n)
theorem oOf_spec {n : Nat} {r : Ord × Int} (h : Best PU n r) : r.1 = oOf n := Classical.choose_spec (ord_ex n) r h
structure UsG (n : Nat) : Prop where
  ex : ∃ r, Best PU n r ∧ r.1.len = n
  b : BldG n (bOf n)
  fwd : ∀ zs : List Cx, zs.length = n → fwdG (bOf n) zs = (List.range n).map (trM (oOf n) (gd zs))
theorem usG_of {n : Nat} (h1 : 1 ≤ n) {r : Ord × Int} (hr : Best PU n r) (hp : r.1.len = n ∧ (buildM r.1).full = false) : UsG n := by
  have hl : r.1.len.toNat = n := by rw [hp.1, Int.toNat_natCast]
  refine ⟨⟨r, hr, hp.1⟩, by rw [← bOf_spec hr]; exact bldG_of (by omega) hp.2 hp.1, fun zs hz => ?_⟩
  rw [← bOf_spec hr, ← oOf_spec hr]
  have := plan_fwd (o := r.1) (by rw [hp.1]; omega) hp.2 (zs := zs) (by rw [hl]; exact hz)
  rw [hl] at this
  exact this
theorem plan_NewG (n : Nat) (h1 : 1 ≤ n) (h2 : n ≤ 4096) (w : World) (st : StT w) (tab : TabB w.heap.size w) (hG : 24 ≤ w.heap.size) :
    Calls Tryz.prog 13 #[.int .i64 n] w (Ret fun v w' => ∃ p P, v = .tuple #[.pointer (some ⟨p, 0, none⟩), .nilIface] ∧ PlnR w.heap.size w'.heap.size w' p P ∧ P.b = bOf n ∧ UsG n ∧ Ch No w w') := by
  have hp := hasP_all (n := n) (by omega) (by omega)
  refine (plan_New n (by omega) (by omega) hp w st tab hG).mono ?_
  rintro e w' ⟨v, rfl, p, rr, rfl, hr, h3, h4⟩
  exact ⟨_, rfl, p, _, rfl, h3, bOf_spec hr, usG_of h1 hr (hp rr hr), h4⟩
theorem p_ForwardN (lo hi p : Nat) (P : Pln) (SX : Nat → Prop) (X : Option Addr) (n xc : Nat) (ys : List CB) (w : World) (sx : SlR SX w X n 1 (ys.map cxV)) (hX : ∀ q, SX q → q < w.heap.size) (pl : PlnR lo hi w p P) (hh : hi ≤ w.heap.size) (hb : P.b = bOf n) (us : UsG n) (st : StT w) (hG : 24 ≤ w.heap.size) :
    Calls Tryz.prog 15 #[.pointer (some ⟨p, 0, none⟩), .slice X n xc] w (Ret fun v w' => ∃ r' A' c' zs, v = .tuple #[.slice A' n c', .nilIface] ∧ CR 33 w' r' A' n c' zs ∧ zs.map cx = fwdG (bOf n) (ys.map cx) ∧ w.heap.size < r' ∧ Ch No w w') := by
  have bg := us.b
  rw [← hb] at bg
  have := p_Forward lo hi p P SX X n xc ys w sx hX pl hh P.b.cl.toNat bg.ok bg.okb bg.ne (by rw [bg.ln]) st hG bg.ac
  rw [show P.b.ln.toNat = n by rw [bg.ln, Int.toNat_natCast], hb] at this
  exact this
theorem p_InverseN (lo hi p : Nat) (P : Pln) (SX : Nat → Prop) (X : Option Addr) (n xc : Nat) (ys : List CB) (w : World) (sx : SlR SX w X n 1 (ys.map cxV)) (hX : ∀ q, SX q → q < w.heap.size) (pl : PlnR lo hi w p P) (hh : hi ≤ w.heap.size) (hb : P.b = bOf n) (us : UsG n) (st : StT w) (hG : 24 ≤ w.heap.size) :
    Calls Tryz.prog 16 #[.pointer (some ⟨p, 0, none⟩), .slice X n xc] w (Ret fun v w' => ∃ r' A' c' zs, v = .tuple #[.slice A' n c', .nilIface] ∧ CR 33 w' r' A' n c' zs ∧ zs.map cx = invG (bOf n) (ys.map cx) ∧ w.heap.size < r' ∧ Ch No w w') := by
  have bg := us.b
  rw [← hb] at bg
  have := p_Inverse lo hi p P SX X n xc ys w sx hX pl hh P.b.cl.toNat bg.ok bg.okb bg.ne (by rw [bg.ln]) st hG bg.ac
  rw [show P.b.ln.toNat = n by rw [bg.ln, Int.toNat_natCast], hb] at this
  exact this
end Go.Tm
namespace Go.Tm
open Go.RowKit Go.Proofs
theorem flO_len (bs : List Int) : (flO bs).length = bs.length := by simp [flO]
theorem flO_all {bs : List Int} {j : Nat} (h : bs.length = j) : ((flO bs).take j).map flV = (flO bs).map flV := by
  rw [List.take_of_length_le (by rw [flO_len]; omega)]
theorem sumK_at0 {n k j : Nat} {X : Nat → Fl} {a c : Nat} (hj : j = 0) (fp : cn a = fop .mul (X j) (cn c)) (fc : cn c = cosK n k j) : cn a = sumK n X k j := by subst hj; rw [fp, fc]; rfl
def SumsK (n : Nat) (X : Nat → Fl) (zs : List Nat) : Prop := ∀ i, i < n → cn (zs.getD i 0) = sumK n X i (n - 1)
theorem SumG.all {X : Nat → Fl} {n k : Nat} {zs : List Nat} (h : SumG X n k 0 zs) (e : k = n) : SumsK n X zs := fun i hi => h.done i (by omega)
theorem SumsK.same {X : Nat → Fl} {n : Nat} {zs ys : List Nat} (h : SumsK n X zs) (g : SumsK n X ys) : ∀ i, i < n → cn (zs.getD i 0) = cn (ys.getD i 0) := fun i hi => (h i hi).trans (g i hi).symm
theorem oOf_one (h : UsG 1) : oOf 1 = .mk 1 1 [] := by
  obtain ⟨r, hr, _⟩ := h.ex
  rw [← oOf_spec hr]
  have h2 : (bestF PU 30 1).map (·.1) = some (.mk 1 1 []) := by kernel_rfl
  cases h3 : bestF PU 30 1 with
  | none => rw [h3] at h2; cases h2
  | some r2 =>
    rw [h3] at h2
    rw [hr.unique ⟨30, h3⟩]
    simpa using h2
theorem fwdG_one (h : UsG 1) (z : Cx) : fwdG (bOf 1) [z] = [z] := by
  rw [h.fwd [z] rfl, oOf_one h]; rfl
theorem invG_one (h : UsG 1) (z : Cx) (h1 : FlOk z.1) : (invG (bOf 1) [z]).map (·.1) = [z.1] := by
  unfold invG
  simp only [List.map_cons, List.map_nil, fwdG_one h]
  rw [h.b.ln]
  show [fquo z.1 (fi ((1 : Nat) : Int))] = _
  rw [show ((1 : Nat) : Int) = 1 from rfl, fi_one, fquo_one h1]
def plN (n i : Nat) : Nat := if i % 2 = 0 then i / 2 else n - 1 - i / 2
def unN (n p : Nat) : Nat := if 2 * p < n then 2 * p else 2 * (n - 1 - p) + 1
theorem plN_lt {n i : Nat} (h : i < n) : plN n i < n := by unfold plN; split <;> omega
theorem plN_un {n p : Nat} (h : p < n) : plN n (unN n p) = p ∧ unN n p < n := by
  unfold plN unN
  by_cases c : 2 * p < n
  · rw [if_pos c, if_pos (by omega)]; omega
  · rw [if_neg c, if_neg (by omega)]; omega
theorem plN_ne {n i j : Nat} (hi : i < j) (hj : j < n) : plN n i ≠ plN n j := by
  unfold plN
  split <;> split <;> omega
def vL (n : Nat) (X : Nat → Fl) : List Cx := (List.range n).map fun p => (X (unN n p), fl0)
def zF (n : Nat) (X : Nat → Fl) (k : Nat) : Cx := if k = 0 then (X 0, fl0) else twistF (X k, fneg (X (n - k))) (4 * n) (4 * n - k)
def zL (n : Nat) (X : Nat → Fl) : List Cx := (List.range n).map (zF n X)
theorem vL_len (n : Nat) (X : Nat → Fl) : (vL n X).length = n := by simp [vL]
theorem zL_len (n : Nat) (X : Nat → Fl) : (zL n X).length = n := by simp [zL]
structure RowI (n j : Nat) (D : Nat → Nat) (f : Nat → Cx) (zs : List CB) : Prop where
  len : zs.length = n
  get : ∀ i, i < j → cx (zs.getD (D i) (0, 0)) = f i
theorem RowI.init (n : Nat) (D : Nat → Nat) (f : Nat → Cx) : RowI n 0 D f (List.replicate n (0, 0)) := ⟨by simp, fun i h => absurd h (by omega)⟩
theorem RowI.step {n j : Nat} {D : Nat → Nat} {f : Nat → Cx} {zs : List CB} {z : CB} (h : RowI n j D f zs) (hD : D j < n) (hn : ∀ i, i < j → D i ≠ D j) (hz : cx z = f j) : RowI n (j + 1) D f (zs.set (D j) z) := by
  refine ⟨by rw [List.length_set]; exact h.len, fun i hi => ?_⟩
  rw [set_getD (by rw [h.len]; exact hD)]
  by_cases e : i = j
  · subst e; rw [if_pos rfl]; exact hz
  · rw [if_neg (hn i (by omega))]; exact h.get i (by omega)
theorem RowI.id {n : Nat} {f : Nat → Cx} {zs : List CB} (h : RowI n n (fun i => i) f zs) : zs.map cx = (List.range n).map f := by
  have hl := h.len
  apply List.ext_getElem
  · simp [hl]
  · intro i hi hi2
    simp only [List.length_map] at hi
    have := h.get i (by omega)
    simp only [List.getD, List.getElem?_eq_getElem hi, Option.getD_some] at this
    simpa using this
theorem RowI.vl {n : Nat} {X : Nat → Fl} {zs : List CB} (h : RowI n n (plN n) (fun i => (X i, fl0)) zs) : zs.map cx = vL n X := by
  refine RowI.id ⟨h.len, fun p hp => ?_⟩
  obtain ⟨e1, e2⟩ := plN_un hp
  have := h.get _ e2
  rwa [e1] at this
structure RowF (n j : Nat) (f : Nat → Fl) (zs : List Nat) : Prop where
  len : zs.length = n
  get : ∀ i, i < j → cn (zs.getD i 0) = f i
theorem RowF.init (n : Nat) (f : Nat → Fl) : RowF n 0 f (List.replicate n 0) := ⟨by simp, fun i h => absurd h (by omega)⟩
theorem RowF.step {n j : Nat} {f : Nat → Fl} {zs : List Nat} {z : Nat} (h : RowF n j f zs) (hj : j < n) (hz : cn z = f j) : RowF n (j + 1) f (zs.set j z) := by
  refine ⟨by rw [List.length_set]; exact h.len, fun i hi => ?_⟩
  rw [getD_set (by rw [h.len]; exact hj)]
  by_cases e : i = j
  · subst e; rw [if_pos rfl]; exact hz
  · rw [if_neg e]; exact h.get i (by omega)
noncomputable def cosF (n : Nat) (X : Nat → Fl) (k : Nat) : Fl := (twistF ((fwdG (bOf n) (vL n X)).getD k z0) (4 * n) k).1
noncomputable def cosI (n : Nat) (X : Nat → Fl) (i : Nat) : Fl := ((invG (bOf n) (zL n X)).getD (plN n i) z0).1
theorem neg_mod4 {n k : Nat} (h1 : 1 ≤ k) (h2 : k < n) : (-(k : Int)) % ((4 * n : Nat) : Int) = ((4 * n - k : Nat) : Int) := by
  rw [show -(k : Int) = ((4 * n - k : Nat) : Int) + ((4 * n : Nat) : Int) * (-1) by omega, Int.add_mul_emod_self_left]
  exact Int.emod_eq_of_lt (by omega) (by omega)
theorem pos_mod4 {n k : Nat} (h2 : k < n) : (k : Int) % ((4 * n : Nat) : Int) = (k : Int) := Int.emod_eq_of_lt (by omega) (by omega)
theorem cx_get {zs : List CB} {L : List Cx} (h : zs.map cx = L) (k : Nat) : cx (zs.getD k (0, 0)) = L.getD k z0 := by rw [← h, map_getD]
theorem plN_int {n i : Nat} (h : i < n) : (if (i : Int) % 2 = 0 then (i : Int) / 2 else (n : Int) - 1 - (i : Int) / 2) = ((plN n i : Nat) : Int) := by
  unfold plN
  by_cases c : i % 2 = 0
  · rw [if_pos c, if_pos (by omega)]; omega
  · rw [if_neg c, if_neg (by omega)]; omega
theorem map_one {α β : Type} {f : α → β} {l : List α} {y : β} (h : l.map f = [y]) : ∃ x, l = [x] ∧ f x = y := by
  match l, h with
  | [x], h => exact ⟨x, rfl, by simpa using h⟩
set_option maxRecDepth 100000 in
theorem inf32w89 : Inf Tryz.prog 32 (.float .f64 0) 1 8 := ⟨Tryz.t32, Tryz.type32, rfl, rfl, rfl⟩
set_option maxRecDepth 100000 in
theorem inf33w89 : Inf Tryz.prog 33 (.complex .f64 0 0) 1 16 := ⟨Tryz.t33, Tryz.type33, rfl, rfl, rfl⟩
set_option maxRecDepth 100000 in
theorem roots_Cos (n : Nat) (a : Int) (q : Nat) (hn : 1 ≤ n) (hn2 : n ≤ 4194304) (ha : -1000000000000 ≤ a ∧ a ≤ 1000000000000) (hq : a % (n : Int) = (q : Int)) (w : World) :
  Calls Tryz.prog 53 #[.int .i64 n, .int .i64 a] w (Ret (fun v w' => ∃ x, v = .tuple #[.float .f64 x, .nilIface] ∧ cn x = (pairF n q).1 ∧ Ch No w w')) := by
 refine calls_of_VC (args := [.int .i64 n, .int .i64 a]) Tryz.func53 rfl Tryz.ntmps53 rfl (Qe (Qb (Om (Qd rfl) rfl (Om (Qd rfl) rfl (Qf (Qa (Qe ?_)))))))
 refine Qb (Om (Qc rfl) rfl (Om (Qc rfl) rfl (Oq (Qi Tryz.call91 rfl (roots_pairG _ _ q (by omega) (by omega) (by omega) hq _)) rfl ?_)))
 rintro _ w1 ⟨x1, y1, rfl, F1, c1⟩
 have z1 := c1.size
 refine Om (Qc rfl) rfl (Om (Qq rfl rfl) rfl (Om (Qq rfl rfl) rfl (Om (Qq rfl rfl) rfl (Om (Qd rfl) rfl (Om (Qd rfl) rfl (Om (Qd rfl) rfl (Qf ?_)))))))
 refine Qa (Qe (Qb (Om (Qc rfl) rfl (Om (Qc rfl) rfl (Om (Qd rfl) rfl (Om (Qd rfl) rfl (Qf ?_)))))))
 refine Qa (Qr (Cw rfl rfl rfl (Ret.mk ?_)))
 have CH_1 := (Ch.refl (No) w).and c1
 exact ⟨_, rfl, congrArg (·.1) F1, CH_1⟩
set_option maxHeartbeats 1000000 in
set_option maxRecDepth 100000 in
theorem cos_SumG (SX : Nat → Prop) (X : Option Addr) (n xc : Nat) (xs : List Nat) (w : World) (sx : SlR SX w X n 1 (xs.map flV)) (hX : ∀ q, SX q → q < w.heap.size) (hn : 1 ≤ n ∧ n ≤ 300) :
  Calls Tryz.prog 20 #[.slice X n xc] w (Ret (fun v w' => ∃ q zs, v = .tuple #[.slice (some ⟨q, 0, none⟩) n n, .nilIface] ∧ FR 32 w' (q + 1) (some ⟨q, 0, none⟩) n n zs ∧ SumsK n (XF xs) zs ∧ w.heap.size ≤ q ∧ Ch No w w')) := by
 refine calls_of_VC (args := [.slice X n xc]) Tryz.func20 rfl Tryz.ntmps20 rfl (Qe (Qb (Om (Qd rfl) rfl (Om (Qd rfl) rfl (Qf (Qa (Qe ?_)))))))
 refine Qb (Om (Qc rfl) rfl (Om (Cu υ24 rfl) rfl (Om (Qd rfl) rfl (Qf (Qa (Qe (Qe ?_)))))))
 refine Qb (Om (Qc rfl) rfl (Om (Cf rfl rfl) rfl (Om (Qc rfl) rfl ?_)))
 refine Rd (b := _) 3 16 19 rfl (fun hc1 Jhc1 => by
   refine Oy rfl (Oy rfl (Om (Qs rfl rfl) rfl ?_))
   exact (Qp rfl (Qp rfl Jhc1))) (fun hc1 Jhc1 => by
   try simp only [bX] at hc1
   refine Om (Qc rfl) rfl (Om (Rb rfl rfl) rfl (Om (Qk rfl rfl) rfl ?_))
   exact (Qp rfl (Qp rfl Jhc1))) ?_
 refine Qf (Qa (Cr rfl (fun hc2 => ?_) (fun hc2 => ?_)))
 ·
  try simp only [bX] at hc2
  omega
 ·
  try simp only [bX] at hc2
  refine Qn (Qa (Qe (Qb (Om (Qc rfl) rfl (Oq (Wk.mkF υ24 inf32w89 rfl rfl (by omega) (by omega) (by omega)) rfl ?_)))))
  rintro _ w1 ⟨p1, rfl, o1, c1, e1, z1⟩
  refine Om (Qd rfl) rfl (Qf (Qa (Qe (Qe (Qb (Om (Qc rfl) rfl (Om (Cu υ24 rfl) rfl ?_)))))))
  refine Om (Qc rfl) rfl (Qf (Qa (Qu ?_)))
  have sx_1 := sx.keep c1
  have CH_1 := (Ch.refl (No) w).and c1
  refine Cq (σ := Nat × List Nat) (fun (k, zs) => [(0, .slice X n xc), (4, .int .i64 n), (5, .slice (some ⟨p1, 0, none⟩) n n), (24, .int .i64 n), (25, .int .i64 k)]) (fun (k, zs) w' => k ≤ n ∧ SumG (XF xs) n k 0 zs ∧ w1.heap.size ≤ w'.heap.size ∧ FR 32 w' (p1 + 1) (some ⟨p1, 0, none⟩) n n zs ∧ SlR SX w' X n 1 (xs.map flV) ∧ Ch (No) w w') (fun (k, zs) => n - k) (0, List.replicate n 0) ?_ ⟨rfl, rfl, rfl, rfl, rfl, trivial⟩ ?_
  · exact ⟨(by omega), (SumG.init _ _), (Nat.le_refl _), o1, sx_1, CH_1⟩
  rintro ⟨k, zs⟩ w2 ⟨hk, hi, hsz2, row_2, sx_2, CH_2⟩
  show VC _ _ _ _ [(0, .slice X n xc), (4, .int .i64 n), (5, .slice (some ⟨p1, 0, none⟩) n n), (24, .int .i64 n), (25, .int .i64 k)] _
  refine Qe (Qb (Om (Cs rfl rfl) rfl (Qf (Qa (Qe (Qj rfl (fun hc3 => ?_) (fun hc3 => ?_)))))))
  ·
   refine Qn (Qa (Qe (Qu (Qe (Qb (Om (Qc rfl) rfl (Om (Qd rfl) rfl ?_)))))))
   refine Qf (Qa (Qe (Qb (Om (Qc rfl) rfl (Om (Cu υ24 rfl) rfl (Om (Qc rfl) rfl (Qf ?_)))))))
   refine Qa (Qu (Cq (σ := Nat × List Nat) (fun (j, zs2) => [(0, .slice X n xc), (4, .int .i64 n), (5, .slice (some ⟨p1, 0, none⟩) n n), (6, .int .i64 k), (24, .int .i64 n), (25, .int .i64 k), (28, .slice X n xc), (29, .int .i64 n), (30, .int .i64 j)]) (fun (j, zs2) w' => j ≤ n ∧ SumG (XF xs) n k j zs2 ∧ w2.heap.size ≤ w'.heap.size ∧ FR 32 w' (p1 + 1) (some ⟨p1, 0, none⟩) n n zs2 ∧ SlR SX w' X n 1 (xs.map flV) ∧ Ch (No) w w') (fun (j, zs2) => n - j) (0, zs) ?_ ⟨rfl, rfl, rfl, rfl, rfl, rfl, rfl, rfl, rfl, trivial⟩ ?_))
   · exact ⟨(by omega), hi, (Nat.le_refl _), row_2, sx_2, CH_2⟩
   rintro ⟨j, zs2⟩ w3 ⟨hj, hi2, hsz3, row_3, sx_3, CH_3⟩
   show VC _ _ _ _ [(0, .slice X n xc), (4, .int .i64 n), (5, .slice (some ⟨p1, 0, none⟩) n n), (6, .int .i64 k), (24, .int .i64 n), (25, .int .i64 k), (28, .slice X n xc), (29, .int .i64 n), (30, .int .i64 j)] _
   have hjk : 0 ≤ (2 * (j : Int) + 1) * (k : Int) ∧ (2 * (j : Int) + 1) * (k : Int) ≤ 601 * 300 := ⟨Int.mul_nonneg (by omega) (by omega), Int.mul_le_mul (by omega) (by omega) (by omega) (by omega)⟩
   have hq : ((2 * (j : Int) + 1) * (k : Int)) % ((4 * n : Nat) : Int) = (((2 * j + 1) * k % (4 * n) : Nat) : Int) := by push_cast; rfl
   refine Qe (Qb (Om (Cs rfl rfl) rfl (Qf (Qa (Qe (Qj rfl (fun hc4 => ?_) (fun hc4 => ?_)))))))
   ·
    refine Qn (Qa (Qe (Qu (Qe (Qb (Om (Qc rfl) rfl (Om (Qy υ24 ς32 rfl rfl (sx_3.ne (by omega)) (by omega) (by omega)) rfl ?_)))))))
    refine Om (Qh ι32 rfl (sx_3.getF (by omega) (by omega))) rfl (Om (Qd rfl) rfl (Om (Qd rfl) rfl (Qf (Qa (Qe (Qb (Om (Qc rfl) rfl ?_)))))))
    refine Om (Ra rfl rfl (by rw [IntKind.wrap_i64]; omega)) rfl ?_
    refine Om (Qc rfl) rfl ?_
    refine Om (Ra rfl rfl (by rw [IntKind.wrap_i64]; omega)) rfl ?_
    refine Om (Ce rfl rfl (by rw [IntKind.wrap_i64]; omega)) rfl ?_
    refine Om (Qc rfl) rfl ?_
    refine Om (Ra rfl rfl (by rw [IntKind.wrap_i64]; omega)) rfl ?_
    refine Oq (Qi Tryz.call53 rfl (roots_Cos (4 * n) ((2 * (j : Int) + 1) * (k : Int)) ((2 * j + 1) * k % (4 * n)) (by omega) (by omega) ⟨by omega, by omega⟩ hq _)) rfl ?_
    rintro _ w4 ⟨x4, rfl, F4, c4⟩
    have z4 := c4.size
    refine Om (Qc rfl) rfl (Om (Qq rfl rfl) rfl (Om (Qq rfl rfl) rfl (Om (Qd rfl) rfl (Om (Qd rfl) rfl (Qf (Qa (Qe ?_)))))))
    refine Qe (Qb (Om (Qc rfl) rfl (Om (Cd υ28 rfl) rfl (Qf (Qa (Cb rfl (Qn ?_)))))))
    refine Qa (Qe (Qb (Om (Qc rfl) rfl (Om (Qc rfl) rfl (Oq (Re (.inr (.inr (.inl rfl))) rfl rfl) rfl ?_)))))
    rintro _ w5 ⟨r5, rfl, f5, c5⟩
    have z5 := c5.size
    refine Om (Qd rfl) rfl (Qf (Qa (Qe (Qe (Qb (Om (Qc rfl) rfl (Om (Rb rfl rfl) rfl ?_)))))))
    refine Qf (Qa (Qj rfl (fun hc5 => ?_) (fun hc5 => ?_)))
    ·
     refine Qb (Om (Qc rfl) rfl (Om (Qc rfl) rfl ?_))
     have row_5 := row_3.keep (c4.trans c5)
     refine Om (Qy υ24 ς32 rfl rfl (row_5.sl.ne (by omega)) (by omega) (by omega)) rfl (Om (Qh ι32 rfl (row_5.sl.getF (by omega) (by omega))) rfl (Om (Qc rfl) rfl (Oq (Re (.inl rfl) rfl rfl) rfl ?_)))
     rintro _ w6 ⟨r6, rfl, f6, c6⟩
     have z6 := c6.size
     refine Om (Qd rfl) rfl (Qf (Qa (Qb (Om (Qc rfl) rfl (Om (Qc rfl) rfl (Om (Qc rfl) rfl ?_))))))
     have row_6 := row_5.keep c6
     refine Om (Qy υ24 ς32 rfl rfl (row_6.sl.ne (by omega)) (by omega) (by omega)) rfl (Oz (Wk.putF ς32 rfl rfl (by omega) row_6) rfl ?_)
     rintro _ w7 ⟨o7, c7, z7⟩
     have y7 := o7.lt
     refine Qf (Qo (Qa (Qb ?_)))
     refine Om (Ce rfl rfl (by rw [IntKind.wrap_i64]; omega)) rfl ?_
     refine Om (Qc rfl) rfl (Qf ?_)
     refine Cj (j + 1, zs2.set k r6) (by first | omega | (dsimp only; omega)) ?_ ⟨rfl, rfl, rfl, rfl, rfl, rfl, rfl, rfl, rfl, trivial⟩
     have sx_6 := sx_3.keep (c4.trans (c5.trans c6))
     have sx_7 := sx_6.to c7 (by first | exact fun _ _ _ _ => id | (intro q h1 h2 hx h3; have := hX q h2; omega))
     have CH_6 := CH_3.and (c4.trans (c5.trans c6))
     have CH_7 : Ch (No) w w7 := CH_6.then c7
     exact ⟨by omega, hi2.step (by omega) (sumK_succ (by omega) (hi2.now (by omega)) f6 f5 F4), by omega, o7, sx_7, CH_7⟩
    ·
     refine Qn (Qa (Qb (Om (Qc rfl) rfl (Om (Qc rfl) rfl (Om (Qc rfl) rfl ?_)))))
     have row_5 := row_3.keep (c4.trans c5)
     refine Om (Qy υ24 ς32 rfl rfl (row_5.sl.ne (by omega)) (by omega) (by omega)) rfl (Oz (Wk.putF ς32 rfl rfl (by omega) row_5) rfl ?_)
     rintro _ w8 ⟨o8, c8, z8⟩
     have y8 := o8.lt
     refine Qf (Qo (Qa (Qb ?_)))
     refine Om (Ce rfl rfl (by rw [IntKind.wrap_i64]; omega)) rfl ?_
     refine Om (Qc rfl) rfl (Qf ?_)
     refine Cj (j + 1, zs2.set k r5) (by first | omega | (dsimp only; omega)) ?_ ⟨rfl, rfl, rfl, rfl, rfl, rfl, rfl, rfl, rfl, trivial⟩
     have sx_5 := sx_3.keep (c4.trans c5)
     have sx_8 := sx_5.to c8 (by first | exact fun _ _ _ _ => id | (intro q h1 h2 hx h3; have := hX q h2; omega))
     have CH_5 := CH_3.and (c4.trans c5)
     have CH_8 : Ch (No) w w8 := CH_5.then c8
     exact ⟨by omega, hi2.step (by omega) (sumK_at0 (by omega) f5 F4), by omega, o8, sx_8, CH_8⟩
   ·
    refine Ct (Qm (Qm (Ca (Qo (Qa (Qb ?_))))))
    refine Om (Ce rfl rfl (by rw [IntKind.wrap_i64]; omega)) rfl ?_
    refine Om (Qc rfl) rfl (Qf ?_)
    refine Cj (k + 1, zs2) (by first | omega | (dsimp only; omega)) ?_ ⟨rfl, rfl, rfl, rfl, rfl, trivial⟩
    exact ⟨(by omega), (hi2.round (by omega) (by omega)), (by omega), row_3, sx_3, CH_3⟩
  ·
   refine Ct (Qm (Qm (Ca (Qa (Qe (Qb (Om (Qc rfl) rfl ?_)))))))
   refine Om (Qd rfl) rfl (Om (Qd rfl) rfl (Qf (Qa (Qr (Cw rfl rfl rfl (Ret.mk ?_))))))
   have ek : k = n := by omega
   exact ⟨_, _, rfl, row_2, hi.all ek, by omega, CH_2⟩
set_option maxRecDepth 100000 in
theorem cos_plannedG (X : Option Addr) (n xc : Nat) (hn : 1 ≤ n ∧ n ≤ 4096) (w : World) (st : StT w) (tab : TabB w.heap.size w) (hG : 24 ≤ w.heap.size) :
  Calls Tryz.prog 50 #[.slice X n xc] w (Ret (fun v w' => ∃ p P, v = .tuple #[.pointer (some ⟨p, 0, none⟩), .nilIface] ∧ PlnR w.heap.size w'.heap.size w' p P ∧ P.b = bOf n ∧ UsG n ∧ Ch No w w')) := by
 refine calls_of_VC (args := [.slice X n xc]) Tryz.func50 rfl Tryz.ntmps50 rfl (Qe (Qb (Om (Qd rfl) rfl (Om (Qd rfl) rfl (Qf (Qa (Qe ?_)))))))
 refine Qe (Qb (Om (Qc rfl) rfl (Om (Cu υ24 rfl) rfl (Om (Cf rfl rfl) rfl (Om (Qc rfl) rfl ?_)))))
 refine Rd (b := _) 4 7 11 rfl (fun hc1 Jhc1 => by
   refine Oy rfl (Oy rfl (Oy rfl (Om (Qs rfl rfl) rfl ?_)))
   exact (Qp rfl (Qp rfl (Qp rfl Jhc1)))) (fun hc1 Jhc1 => by
   try simp only [bX] at hc1
   refine Om (Qc rfl) rfl (Om (Cu υ24 rfl) rfl (Om (Rb rfl rfl) rfl (Om (Qk rfl rfl) rfl ?_)))
   exact (Qp rfl (Qp rfl (Qp rfl Jhc1)))) ?_
 refine Qf (Qa (Cr rfl (fun hc2 => ?_) (fun hc2 => ?_)))
 ·
  try simp only [bX] at hc2
  omega
 ·
  try simp only [bX] at hc2
  refine Qn (Qa (Qe (Qb (Om (Qc rfl) rfl (Om (Cu υ24 rfl) rfl (Oq (Qi Tryz.call13 rfl (plan_NewG n (by omega) (by omega) _ st ((tab).up (by omega)) (by omega))) rfl ?_))))))
  rintro _ w1 ⟨pp, PP, rfl, pl1, hpb, us, c1⟩
  have z1 := c1.size
  refine Om (Qq rfl rfl) rfl (Om (Qq rfl rfl) rfl (Om (Qd rfl) rfl (Om (Qd rfl) rfl (Qf (Qa (Qr (Cw rfl rfl rfl ?_)))))))
  refine Ret.mk ?_
  have CH_1 := (Ch.refl (No) w).and c1
  exact ⟨pp, PP, rfl, pl1, hpb, us, CH_1⟩
set_option maxRecDepth 100000 in
theorem cos_place (i n : Nat) (h : i < n) (h2 : n ≤ 4096) (w : World) :
  Calls Tryz.prog 51 #[.int .i64 i, .int .i64 n] w (Ret (fun v w' => v = .int .i64 (plN n i : Nat) ∧ w = w')) := by
 have h9 := plN_int h
 refine calls_of_VC (args := [.int .i64 i, .int .i64 n]) Tryz.func51 rfl Tryz.ntmps51 rfl (Qe (Qb (Om (Qd rfl) rfl (Qf (Qa (Qe (Qe ?_)))))))
 refine Qb (Om (Qc rfl) rfl (Om (Wb rfl rfl (by omega) (by omega)) rfl (Om (Cf rfl rfl) rfl (Qf (Qa (Qj rfl (fun hc1 => ?_) (fun hc1 => ?_)))))))
 ·
  refine Qe (Qb (Om (Qc rfl) rfl (Om (Wd rfl rfl (by omega) (by omega) (by omega)) rfl (Om (Qd rfl) rfl (Qf (Qa (Qr ?_)))))))
  refine Qt (Qx rfl rfl (Ret.mk ?_))
  exact ⟨by rw [← h9, if_pos (by omega)], rfl⟩
 ·
  refine Qn (Qa (Qe (Qb (Om (Qc rfl) rfl ?_))))
  refine Om (Rf rfl rfl (by rw [IntKind.wrap_i64]; omega)) rfl ?_
  refine Om (Qc rfl) rfl (Om (Wd rfl rfl (by omega) (by omega) (by omega)) rfl ?_)
  refine Om (Rf rfl rfl (by rw [IntKind.wrap_i64]; omega)) rfl ?_
  refine Om (Qd rfl) rfl (Qf (Qa (Qr (Qx rfl rfl (Ret.mk ?_)))))
  exact ⟨by rw [← h9, if_neg (by omega)], rfl⟩
set_option maxHeartbeats 1000000 in
set_option maxRecDepth 100000 in
theorem cos_ForwardG (SX : Nat → Prop) (X : Option Addr) (n xc : Nat) (xs : List Nat) (w : World) (sx : SlR SX w X n 1 (xs.map flV)) (hX : ∀ q, SX q → q < w.heap.size) (hn : 1 ≤ n ∧ n ≤ 4096) (st : StT w) (tab : TabB w.heap.size w) (hG : 24 ≤ w.heap.size) :
  Calls Tryz.prog 17 #[.slice X n xc] w (Ret (fun v w' => ∃ q zs, v = .tuple #[.slice (some ⟨q, 0, none⟩) n n, .nilIface] ∧ FR 32 w' (q + 1) (some ⟨q, 0, none⟩) n n zs ∧ RowF n n (cosF n (XF xs)) zs ∧ UsG n ∧ w.heap.size ≤ q ∧ Ch No w w')) := by
 refine calls_of_VC (args := [.slice X n xc]) Tryz.func17 rfl Tryz.ntmps17 rfl (Qe (Qb (Om (Qd rfl) rfl (Om (Qd rfl) rfl (Qf (Qa (Qe ?_)))))))
 refine Qb (Om (Qc rfl) rfl (Oq (Qi Tryz.call50 rfl (cos_plannedG _ n _ (by omega) _ st ((tab).up (by omega)) (by omega))) rfl ?_))
 rintro _ w1 ⟨pp, PP, rfl, pl1, hpb, us, c1⟩
 have z1 := c1.size
 refine Om (Qc rfl) rfl (Om (Qq rfl rfl) rfl (Om (Qq rfl rfl) rfl (Om (Qd rfl) rfl (Om (Qd rfl) rfl (Qf (Qa (Qe ?_)))))))
 refine Qe (Qb (Om (Qc rfl) rfl (Om (Cd υ28 rfl) rfl (Qf (Qa (Cb rfl (Qn ?_)))))))
 refine Qa (Qe (Qb (Om (Qc rfl) rfl (Om (Cu υ24 rfl) rfl (Om (Qd rfl) rfl (Qf (Qa ?_)))))))
 refine Qe (Qb (Om (Qc rfl) rfl (Oq (Wk.mkC υ31 inf33w89 rfl rfl (by omega) (by omega) (by omega)) rfl ?_)))
 rintro _ w2 ⟨p2, rfl, o2, c2, e2, z2⟩
 refine Om (Qd rfl) rfl (Qf (Qa (Qe (Qe (Qb (Om (Qc rfl) rfl (Om (Cu υ24 rfl) rfl ?_)))))))
 refine Om (Qc rfl) rfl (Qf (Qa (Qu ?_)))
 have pl_2 := pl1.keep c2
 have st_2 := st.keep (c1.trans c2)
 have sx_2 := sx.keep (c1.trans c2)
 have CH_2 := (Ch.refl (No) w).and (c1.trans c2)
 refine Cq (σ := Nat × List CB) (fun (j, vs) => [(0, .slice X n xc), (4, .pointer (some ⟨pp, 0, none⟩)), (6, .int .i64 n), (7, .slice (some ⟨p2, 0, none⟩) n n), (26, .slice X n xc), (27, .int .i64 n), (28, .int .i64 j)]) (fun (j, vs) w' => j ≤ n ∧ RowI n j (plN n) (fun i => (XF xs i, fl0)) vs ∧ w2.heap.size ≤ w'.heap.size ∧ CR 33 w' ((p2 + 1)) (some ⟨p2, 0, none⟩) n n vs ∧ PlnR w.heap.size w1.heap.size w' pp PP ∧ StT w' ∧ SlR SX w' X n 1 (xs.map flV) ∧ Ch (No) w w') (fun (j, vs) => n - j) (0, List.replicate n (0, 0)) ?_ ⟨rfl, rfl, rfl, rfl, rfl, rfl, rfl, trivial⟩ ?_
 · exact ⟨(by omega), (RowI.init _ _ _), (Nat.le_refl _), o2, pl_2, st_2, sx_2, CH_2⟩
 rintro ⟨j, vs⟩ w3 ⟨hj, hi, hsz3, row_3, pl_3, st_3, sx_3, CH_3⟩
 show VC _ _ _ _ [(0, .slice X n xc), (4, .pointer (some ⟨pp, 0, none⟩)), (6, .int .i64 n), (7, .slice (some ⟨p2, 0, none⟩) n n), (26, .slice X n xc), (27, .int .i64 n), (28, .int .i64 j)] _
 refine Qe (Qb (Om (Cs rfl rfl) rfl (Qf (Qa (Qe (Qj rfl (fun hc1 => ?_) (fun hc1 => ?_)))))))
 ·
  refine Qn (Qa (Qe (Qu (Qe (Qb (Om (Qc rfl) rfl (Om (Qy υ24 ς32 rfl rfl (sx_3.ne (by omega)) (by omega) (by omega)) rfl ?_)))))))
  refine Om (Qh ι32 rfl (sx_3.getF (by omega) (by omega))) rfl (Om (Qd rfl) rfl (Om (Qd rfl) rfl (Qf (Qa ?_))))
  have hpl := plN_lt (n := n) (i := j) (by omega)
  refine Qb (Om (Qc rfl) rfl (Om (Qc rfl) rfl (Om (Qc rfl) rfl (Oq (Qi Tryz.call51 rfl (cos_place j n (by omega) (by omega) _)) rfl ?_))))
  rintro _ _ ⟨rfl, rfl⟩
  refine Om (Qc rfl) rfl (Om (Rj rfl rfl) rfl (Om (Qy υ31 ς33 rfl rfl (row_3.sl.ne (by omega)) (by omega) (by omega)) rfl (Oz (Rk ς33 rfl rfl (by omega) row_3) rfl ?_)))
  rintro _ w4 ⟨o4, c4, z4⟩
  have y4 := o4.lt
  refine Qf (Qo (Qa (Qb ?_)))
  refine Om (Ce rfl rfl (by rw [IntKind.wrap_i64]; omega)) rfl ?_
  refine Om (Qc rfl) rfl (Qf ?_)
  refine Cj (j + 1, vs.set (plN n j) (xs.getD j 0, 0)) (by first | omega | (dsimp only; omega)) ?_ ⟨rfl, rfl, rfl, rfl, rfl, rfl, rfl, trivial⟩
  have pl_4 := pl_3.to c4
  have st_4 := st_3.to c4
  have sx_4 := sx_3.to c4 (by first | exact fun _ _ _ _ => id | (intro q h1 h2 hx h3; have := hX q h2; omega))
  have CH_4 : Ch (No) w w4 := CH_3.then c4
  exact ⟨(by omega), (hi.step hpl (fun i hij => plN_ne hij (by omega)) rfl), (by omega), o4, pl_4, st_4, sx_4, CH_4⟩
 ·
  refine Ct (Qm (Qm (Ca (Qa (Qe ?_)))))
  obtain rfl : n = j := by omega
  refine Qb (Om (Qc rfl) rfl (Om (Qc rfl) rfl (Oq (Qi Tryz.call15 rfl (p_ForwardN _ _ _ _ _ _ n _ vs _ (row_3).sl (fun q hq => by omega) pl_3 (by omega) hpb us st_3 (by omega))) rfl ?_)))
  rintro _ w5 ⟨r5, A5, k5, ws, rfl, out5, hz, yo5, c5⟩
  have hlo := Ow.lt out5
  have z5 := c5.size
  have hz9 := hz; rw [hi.vl] at hz9
  refine Om (Qc rfl) rfl (Om (Qq rfl rfl) rfl (Om (Qq rfl rfl) rfl (Om (Qd rfl) rfl (Om (Qd rfl) rfl (Qf (Qa (Qe ?_)))))))
  refine Qe (Qb (Om (Qc rfl) rfl (Om (Cd υ28 rfl) rfl (Qf (Qa (Cb rfl (Qn ?_)))))))
  refine Qa (Qe (Qb (Om (Qc rfl) rfl (Oq (Wk.mkF υ24 inf32w89 rfl rfl (by omega) (by omega) (by omega)) rfl ?_))))
  rintro _ w6 ⟨p6, rfl, o6, c6, e6, z6⟩
  refine Om (Qd rfl) rfl (Qf (Qa (Qe (Qe (Qb (Om (Qc rfl) rfl (Om (Cu υ31 rfl) rfl ?_)))))))
  refine Om (Qc rfl) rfl (Qf (Qa (Qu ?_)))
  have out_6 := out5.keep c6
  have CH_6 := CH_3.and (c5.trans c6)
  refine Cq (σ := Nat × List Nat) (fun (j, zs) => [(6, .int .i64 n), (11, .slice (some ⟨p6, 0, none⟩) n n), (52, .slice A5 n k5), (53, .int .i64 n), (54, .int .i64 j)]) (fun (j, zs) w' => j ≤ n ∧ RowF n j (cosF n (XF xs)) zs ∧ w6.heap.size ≤ w'.heap.size ∧ FR 32 w' ((p6 + 1)) (some ⟨p6, 0, none⟩) n n zs ∧ CR 33 w' r5 A5 n k5 ws ∧ Ch (No) w w') (fun (j, zs) => n - j) (0, List.replicate n 0) ?_ ⟨rfl, rfl, rfl, rfl, rfl, trivial⟩ ?_
  · exact ⟨(by omega), (RowF.init _ _), (Nat.le_refl _), o6, out_6, CH_6⟩
  rintro ⟨j, zs⟩ w7 ⟨hj, hf, hsz7, rof_7, out_7, CH_7⟩
  show VC _ _ _ _ [(6, .int .i64 n), (11, .slice (some ⟨p6, 0, none⟩) n n), (52, .slice A5 n k5), (53, .int .i64 n), (54, .int .i64 j)] _
  refine Qe (Qb (Om (Cs rfl rfl) rfl (Qf (Qa (Qe (Qj rfl (fun hc2 => ?_) (fun hc2 => ?_)))))))
  ·
   refine Qn (Qa (Qe (Qu (Qe (Qb (Om (Qc rfl) rfl (Om (Qy υ31 ς33 rfl rfl (out_7.sl.ne (by omega)) (by omega) (by omega)) rfl ?_)))))))
   refine Om (Qh ι33 rfl (out_7.sl.getC (by omega) (by omega))) rfl (Om (Qd rfl) rfl (Om (Qd rfl) rfl (Qf (Qa (Qe (Qb (Om (Qc rfl) rfl ?_)))))))
   refine Om (Qc rfl) rfl ?_
   refine Om (Ra rfl rfl (by rw [IntKind.wrap_i64]; omega)) rfl ?_
   refine Om (Qc rfl) rfl (Oq (Qi Tryz.call14 rfl (roots_Twist _ _ (4 * n) (j : Int) j (by omega) (by omega) ⟨by omega, by omega⟩ (pos_mod4 (by omega)) _)) rfl ?_)
   rintro _ w8 ⟨x8, y8, rfl, F8, c8⟩
   have z8 := c8.size
   refine Om (Qc rfl) rfl (Om (Qq rfl rfl) rfl (Om (Qq rfl rfl) rfl (Om (Qd rfl) rfl (Om (Qd rfl) rfl (Qf (Qa (Qe ?_)))))))
   refine Qe (Qb (Om (Qc rfl) rfl (Om (Cd υ28 rfl) rfl (Qf (Qa (Cb rfl (Qn ?_)))))))
   refine Qa (Qb (Om (Qc rfl) rfl (Om (Qc rfl) rfl (Om (Qc rfl) rfl (Om (Rv rfl) rfl ?_)))))
   have rof_8 := rof_7.keep c8
   refine Om (Qy υ24 ς32 rfl rfl (rof_8.sl.ne (by omega)) (by omega) (by omega)) rfl (Oz (Wk.putF ς32 rfl rfl (by omega) rof_8) rfl ?_)
   rintro _ w9 ⟨o9, c9, z9⟩
   have y9 := o9.lt
   refine Qf (Qo (Qa (Qb ?_)))
   refine Om (Ce rfl rfl (by rw [IntKind.wrap_i64]; omega)) rfl ?_
   refine Om (Qc rfl) rfl (Qf ?_)
   refine Cj (j + 1, zs.set j x8) (by first | omega | (dsimp only; omega)) ?_ ⟨rfl, rfl, rfl, rfl, rfl, trivial⟩
   have out_8 := out_7.keep c8
   have out_9 := out_8.to c9
   have CH_8 := CH_7.and c8
   have CH_9 : Ch (No) w w9 := CH_8.then c9
   exact ⟨(by omega), (hf.step (by omega) ((congrArg (·.1) F8).trans (by rw [Int.toNat_natCast]; exact congrArg (fun z => (twistF z (4 * n) j).1) (cx_get hz9 j)))), (by omega), o9, out_9, CH_9⟩
  ·
   refine Ct (Qm (Qm (Ca (Qa (Qe ?_)))))
   obtain rfl : n = j := by omega
   refine Qb (Om (Qc rfl) rfl (Om (Qd rfl) rfl (Om (Qd rfl) rfl (Qf (Qa (Qr (Cw rfl rfl rfl ?_)))))))
   refine Ret.mk ?_
   exact ⟨_, _, rfl, rof_7, hf, us, by omega, CH_7⟩
set_option maxHeartbeats 1000000 in
set_option maxRecDepth 100000 in
theorem cos_InverseG (SX : Nat → Prop) (X : Option Addr) (n xc : Nat) (xs : List Nat) (w : World) (sx : SlR SX w X n 1 (xs.map flV)) (hX : ∀ q, SX q → q < w.heap.size) (hn : 1 ≤ n ∧ n ≤ 4096) (st : StT w) (tab : TabB w.heap.size w) (hG : 24 ≤ w.heap.size) :
  Calls Tryz.prog 18 #[.slice X n xc] w (Ret (fun v w' => ∃ q zs, v = .tuple #[.slice (some ⟨q, 0, none⟩) n n, .nilIface] ∧ FR 32 w' (q + 1) (some ⟨q, 0, none⟩) n n zs ∧ RowF n n (cosI n (XF xs)) zs ∧ UsG n ∧ w.heap.size ≤ q ∧ Ch No w w')) := by
 refine calls_of_VC (args := [.slice X n xc]) Tryz.func18 rfl Tryz.ntmps18 rfl (Qe (Qb (Om (Qd rfl) rfl (Om (Qd rfl) rfl (Qf (Qa (Qe ?_)))))))
 refine Qb (Om (Qc rfl) rfl (Oq (Qi Tryz.call50 rfl (cos_plannedG _ n _ (by omega) _ st ((tab).up (by omega)) (by omega))) rfl ?_))
 rintro _ w1 ⟨pp, PP, rfl, pl1, hpb, us, c1⟩
 have z1 := c1.size
 refine Om (Qc rfl) rfl (Om (Qq rfl rfl) rfl (Om (Qq rfl rfl) rfl (Om (Qd rfl) rfl (Om (Qd rfl) rfl (Qf (Qa (Qe ?_)))))))
 refine Qe (Qb (Om (Qc rfl) rfl (Om (Cd υ28 rfl) rfl (Qf (Qa (Cb rfl (Qn ?_)))))))
 refine Qa (Qe (Qb (Om (Qc rfl) rfl (Om (Cu υ24 rfl) rfl (Om (Qd rfl) rfl (Qf (Qa ?_)))))))
 refine Qe (Qb (Om (Qc rfl) rfl (Oq (Wk.mkC υ31 inf33w89 rfl rfl (by omega) (by omega) (by omega)) rfl ?_)))
 rintro _ w2 ⟨p2, rfl, o2, c2, e2, z2⟩
 refine Om (Qd rfl) rfl (Qf (Qa (Qe (Qb (Om (Qc rfl) rfl (Om (Qc rfl) rfl ?_))))))
 have sx_2 := sx.keep (c1.trans c2)
 refine Om (Qy υ24 ς32 rfl rfl (sx_2.ne (by omega)) (by omega) (by omega)) rfl (Om (Qh ι32 rfl (sx_2.getF (by omega) (by omega))) rfl (Om (Rj rfl rfl) rfl (Om (Qy υ31 ς33 rfl rfl (o2.sl.ne (by omega)) (by omega) (by omega)) rfl (Oz (Rk ς33 rfl rfl (by omega) o2) rfl ?_))))
 rintro _ w3 ⟨o3, c3, z3⟩
 have y3 := o3.lt
 refine Qf (Qa (Qe (Qe (Qb (Om (Qd rfl) rfl (Qf (Qa ?_)))))))
 refine Qu ?_
 have pl_2 := pl1.keep c2
 have pl_3 := pl_2.to c3
 have st_2 := st.keep (c1.trans c2)
 have st_3 := st_2.to c3
 have sx_3 := sx_2.to c3 (by first | exact fun _ _ _ _ => id | (intro q h1 h2 hx h3; have := hX q h2; omega))
 have CH_2 := (Ch.refl (No) w).and (c1.trans c2)
 have CH_3 : Ch (No) w w3 := CH_2.then c3
 refine Cq (σ := Nat × List CB) (fun (k, vs) => [(0, .slice X n xc), (4, .pointer (some ⟨pp, 0, none⟩)), (6, .int .i64 n), (7, .slice (some ⟨p2, 0, none⟩) n n), (8, .int .i64 k)]) (fun (k, vs) w' => (1 ≤ k ∧ k ≤ n) ∧ RowI n k (fun i => i) (zF n (XF xs)) vs ∧ w3.heap.size ≤ w'.heap.size ∧ CR 33 w' ((p2 + 1)) (some ⟨p2, 0, none⟩) n n vs ∧ PlnR w.heap.size w1.heap.size w' pp PP ∧ StT w' ∧ SlR SX w' X n 1 (xs.map flV) ∧ Ch (No) w w') (fun (k, vs) => n - k) (1, (List.replicate n (0, 0)).set 0 (xs.getD 0 0, 0)) ?_ ⟨rfl, rfl, rfl, rfl, rfl, trivial⟩ ?_
 · exact ⟨⟨by omega, by omega⟩, ((RowI.init _ _ _).step (by omega) (fun i h => absurd h (by omega)) rfl), (Nat.le_refl _), o3, pl_3, st_3, sx_3, CH_3⟩
 rintro ⟨k, vs⟩ w4 ⟨hk, hi, hsz4, row_4, pl_4, st_4, sx_4, CH_4⟩
 show VC _ _ _ _ [(0, .slice X n xc), (4, .pointer (some ⟨pp, 0, none⟩)), (6, .int .i64 n), (7, .slice (some ⟨p2, 0, none⟩) n n), (8, .int .i64 k)] _
 refine Qe (Qe (Qb (Om (Qc rfl) rfl (Om (Qc rfl) rfl (Om (Cs rfl rfl) rfl (Qf (Qa ?_)))))))
 refine Qj rfl (fun hc1 => ?_) (fun hc1 => ?_)
 ·
  refine Qn (Qa (Qe (Qu (Qe (Cg 24 [(0, true), (1, true), (2, true), (3, true), (4, true), (5, true), (6, true), (7, true), (8, true), (9, true), (10, true), (11, true), (12, true), (13, true), (14, true), (15, true), (16, true), (17, true), (18, false), (19, true), (20, true), (21, true), (22, true), (23, false)] (fun w1 w' => Ch (At (p2 + 1)) w1 w') mixed (by kernel_rfl) (fun _ _ => Ch.refl _ _) ?_)))))
  intro w5 D5
  have c5 := Ch.of_drew D5; have z5 := c5.size
  have sx_5 := sx_4.keep c5
  have row_5 := row_4.keep c5
  refine Hm (fun w' hS => Qc rfl) rfl (Hm (fun w' hS => Qc rfl) rfl (Hm (fun w' hS => Qc rfl) rfl (Hm (fun w' hS => Qc rfl) rfl ?_)))
  refine Hm (fun w' hS => Qy υ24 ς32 rfl rfl ((sx_5.to hS (by first | exact fun _ _ _ _ => id | (intro q h1 h2 hx h3; have := hX q h2; omega))).ne (by omega)) (by omega) (by omega)) rfl ?_
  refine Hm (fun w' hS => Qh ι32 rfl ((sx_5.to hS (by first | exact fun _ _ _ _ => id | (intro q h1 h2 hx h3; have := hX q h2; omega))).getF (by omega) (by omega))) rfl ?_
  refine Hm (fun w' hS => Qc rfl) rfl (Hm (fun w' hS => Qc rfl) rfl (Hm (fun w' hS => Qc rfl) rfl ?_))
  refine Hm (fun w' hS => Rf rfl rfl (by rw [IntKind.wrap_i64]; omega)) rfl ?_
  refine Hm (fun w' hS => Qy υ24 ς32 rfl rfl ((sx_5.to hS (by first | exact fun _ _ _ _ => id | (intro q h1 h2 hx h3; have := hX q h2; omega))).ne (by omega)) (by omega) (by omega)) rfl ?_
  refine Hm (fun w' hS => Qh ι32 rfl ((sx_5.to hS (by first | exact fun _ _ _ _ => id | (intro q h1 h2 hx h3; have := hX q h2; omega))).getF (by omega) (by omega))) rfl ?_
  refine Hm (fun w' hS => Rn.fneg rfl) rfl (Hm (fun w' hS => Rj rfl rfl) rfl (Hm (fun w' hS => Qc rfl) rfl ?_))
  refine Hm (fun w' hS => Ra rfl rfl (by rw [IntKind.wrap_i64]; omega)) rfl ?_
  refine Hm (fun w' hS => Qc rfl) rfl ?_
  refine Hm (fun w' hS => Rn.neg rfl (by rw [IntKind.wrap_i64]; omega)) rfl ?_
  refine Hq (Qi Tryz.call14 rfl (roots_Twist _ _ (4 * n) (-(k : Int)) (4 * n - k) (by omega) (by omega) ⟨by omega, by omega⟩ (neg_mod4 (by omega) (by omega)) _)) rfl ?_
  rintro _ w6 ⟨x6, y6, rfl, F6, c6⟩
  have z6 := c6.size
  have RD_6 := (Ch.refl (At (p2 + 1)) w5).and c6
  refine ⟨RD_6, ?_⟩
  refine Hm (fun w' hS => Qc rfl) rfl (Hm (fun w' hS => Qq rfl rfl) rfl (Hm (fun w' hS => Qq rfl rfl) rfl (Hm (fun w' hS => Qy υ31 ς33 rfl rfl (row_5.sl.ne (by omega)) (by omega) (by omega)) rfl ?_)))
  have row_6 := row_5.keep c6
  refine Hz (Rk ς33 rfl rfl (by omega) row_6) rfl ?_
  rintro _ w7 ⟨o7, c7, z7⟩
  have y7 := o7.lt
  have RD_7 : Ch (At (p2 + 1)) w5 w7 := RD_6.then c7
  refine ⟨RD_7, ?_⟩
  refine Cm (Om (Qd rfl) rfl (Qf (Qz (Qa (Qe (Qb (Om (Qc rfl) rfl ?_)))))))
  refine Om (Cd υ28 rfl) rfl (Qf (Qa (Cb rfl (Qn (Qo (Qa (Qb ?_)))))))
  refine Om (Qc rfl) rfl ?_
  refine Om (Ce rfl rfl (by rw [IntKind.wrap_i64]; omega)) rfl ?_
  refine Om (Qd rfl) rfl (Qf ?_)
  refine Cj (k + 1, vs.set k (x6, y6)) (by first | omega | (dsimp only; omega)) ?_ ⟨rfl, rfl, rfl, rfl, rfl, trivial⟩
  have pl_6 := pl_4.keep (c5.trans c6)
  have pl_7 := pl_6.to c7
  have st_6 := st_4.keep (c5.trans c6)
  have st_7 := st_6.to c7
  have sx_6 := sx_5.keep c6
  have sx_7 := sx_6.to c7 (by first | exact fun _ _ _ _ => id | (intro q h1 h2 hx h3; have := hX q h2; omega))
  have CH_6 := CH_4.and (c5.trans c6)
  have CH_7 : Ch (No) w w7 := CH_6.then c7
  exact ⟨⟨by omega, by omega⟩, (hi.step (by omega) (fun i h => by omega) (by rw [F6, zF, if_neg (by omega)]; show twistF (cn _, cn _) _ _ = _; rw [cn_neg, show ((n : Int) - (k : Int)).toNat = n - k by omega]; rfl)), (by omega), o7, pl_7, st_7, sx_7, CH_7⟩
 ·
  refine Ct (Qm (Qm (Ca (Qa (Qe ?_)))))
  obtain rfl : n = k := by omega
  refine Qb (Om (Qc rfl) rfl (Om (Qc rfl) rfl (Oq (Qi Tryz.call16 rfl (p_InverseN _ _ _ _ _ _ n _ vs _ (row_4).sl (fun q hq => by omega) pl_4 (by omega) hpb us st_4 (by omega))) rfl ?_)))
  rintro _ w8 ⟨r8, A8, k8, ws, rfl, out8, hz, yo8, c8⟩
  have hlo := Ow.lt out8
  have z8 := c8.size
  have hz9 := hz; rw [hi.id] at hz9
  refine Om (Qc rfl) rfl (Om (Qq rfl rfl) rfl (Om (Qq rfl rfl) rfl (Om (Qd rfl) rfl (Om (Qd rfl) rfl (Qf (Qa (Qe ?_)))))))
  refine Qe (Qb (Om (Qc rfl) rfl (Om (Cd υ28 rfl) rfl (Qf (Qa (Cb rfl (Qn ?_)))))))
  refine Qa (Qe (Qb (Om (Qc rfl) rfl (Oq (Wk.mkF υ24 inf32w89 rfl rfl (by omega) (by omega) (by omega)) rfl ?_))))
  rintro _ w9 ⟨p9, rfl, o9, c9, e9, z9⟩
  refine Om (Qd rfl) rfl (Qf (Qa (Qe (Qe (Qb (Om (Qc rfl) rfl (Om (Cu υ24 rfl) rfl ?_)))))))
  refine Om (Qc rfl) rfl (Qf (Qa (Qu ?_)))
  have out_9 := out8.keep c9
  have CH_9 := CH_4.and (c8.trans c9)
  refine Cq (σ := Nat × List Nat) (fun (j, zs) => [(6, .int .i64 n), (9, .slice A8 n k8), (10, .slice (some ⟨p9, 0, none⟩) n n), (73, .int .i64 n), (74, .int .i64 j)]) (fun (j, zs) w' => j ≤ n ∧ RowF n j (cosI n (XF xs)) zs ∧ w9.heap.size ≤ w'.heap.size ∧ FR 32 w' ((p9 + 1)) (some ⟨p9, 0, none⟩) n n zs ∧ CR 33 w' r8 A8 n k8 ws ∧ Ch (No) w w') (fun (j, zs) => n - j) (0, List.replicate n 0) ?_ ⟨rfl, rfl, rfl, rfl, rfl, trivial⟩ ?_
  · exact ⟨(by omega), (RowF.init _ _), (Nat.le_refl _), o9, out_9, CH_9⟩
  rintro ⟨j, zs⟩ w10 ⟨hj, hf, hsz10, rof_10, out_10, CH_10⟩
  show VC _ _ _ _ [(6, .int .i64 n), (9, .slice A8 n k8), (10, .slice (some ⟨p9, 0, none⟩) n n), (73, .int .i64 n), (74, .int .i64 j)] _
  refine Qe (Qb (Om (Cs rfl rfl) rfl (Qf (Qa (Qe (Qj rfl (fun hc2 => ?_) (fun hc2 => ?_)))))))
  ·
   refine Qn (Qa (Qe (Qu (Qe (Qb (Om (Qc rfl) rfl (Om (Qd rfl) rfl ?_)))))))
   refine Qf (Qa ?_)
   have hpl := plN_lt (n := n) (i := j) (by omega)
   refine Qb (Om (Qc rfl) rfl (Om (Qc rfl) rfl (Om (Qc rfl) rfl (Om (Qc rfl) rfl (Om (Qc rfl) rfl (Oq (Qi Tryz.call51 rfl (cos_place j n (by omega) (by omega) _)) rfl ?_))))))
   rintro _ _ ⟨rfl, rfl⟩
   refine Om (Qy υ31 ς33 rfl rfl (out_10.sl.ne (by omega)) (by omega) (by omega)) rfl (Om (Qh ι33 rfl (out_10.sl.getC (by omega) (by omega))) rfl (Om (Rv rfl) rfl (Om (Qy υ24 ς32 rfl rfl (rof_10.sl.ne (by omega)) (by omega) (by omega)) rfl (Oz (Wk.putF ς32 rfl rfl (by omega) rof_10) rfl ?_))))
   rintro _ w11 ⟨o11, c11, z11⟩
   have y11 := o11.lt
   refine Qf (Qo (Qa (Qb ?_)))
   refine Om (Ce rfl rfl (by rw [IntKind.wrap_i64]; omega)) rfl ?_
   refine Om (Qc rfl) rfl (Qf ?_)
   refine Cj (j + 1, zs.set j (ws.getD (plN n j) (0, 0)).1) (by first | omega | (dsimp only; omega)) ?_ ⟨rfl, rfl, rfl, rfl, rfl, trivial⟩
   have out_11 := out_10.to c11
   have CH_11 : Ch (No) w w11 := CH_10.then c11
   exact ⟨(by omega), (hf.step (by omega) (congrArg (·.1) (cx_get hz9 (plN n j)))), (by omega), o11, out_11, CH_11⟩
  ·
   refine Ct (Qm (Qm (Ca (Qa (Qe ?_)))))
   obtain rfl : n = j := by omega
   refine Qb (Om (Qc rfl) rfl (Om (Qd rfl) rfl (Om (Qd rfl) rfl (Qf (Qa (Qr (Cw rfl rfl rfl ?_)))))))
   refine Ret.mk ?_
   exact ⟨_, _, rfl, rof_10, hf, us, by omega, CH_10⟩
end Go.Tm
namespace Go.Tm
open Go.RowKit Go.Proofs
theorem cosF_one (h : UsG 1) (X : Nat → Fl) : cosF 1 X 0 = X 0 := by
  have e : vL 1 X = [(X 0, fl0)] := rfl
  unfold cosF
  rw [e, fwdG_one h]; rfl
theorem cosI_one (h : UsG 1) (X : Nat → Fl) (h1 : FlOk (X 0)) : cosI 1 X 0 = X 0 := by
  have e : zL 1 X = [(X 0, fl0)] := rfl
  have h2 := invG_one h (X 0, fl0) h1
  unfold cosI
  rw [e]
  obtain ⟨y, hy, h3⟩ := map_one h2
  rw [hy]
  exact h3
theorem RowI.over {n j : Nat} {f : Nat → Cx} {zs : List CB} (h : RowI n j (fun i => i) f zs) (hj : j < n) (z : CB) : RowI n j (fun i => i) f (zs.set j z) := by
  refine ⟨by rw [List.length_set]; exact h.len, fun i hi => ?_⟩
  rw [set_getD (by rw [h.len]; exact hj), if_neg (by omega)]
  exact h.get i hi
set_option maxRecDepth 100000 in
theorem inf32w90 : Inf Tryz.prog 32 (.float .f64 0) 1 8 := ⟨Tryz.t32, Tryz.type32, rfl, rfl, rfl⟩
set_option maxRecDepth 100000 in
theorem law23_floats (SX : Nat → Prop) (X : Option Addr) (n xc : Nat) (bs : List Int) (w : World) (sx : SlR SX w X n 1 (bs.map UV)) (hX : ∀ q, SX q → q < w.heap.size) (hn : n ≤ 17592186044416)  :
  Calls Tryz.prog 12 #[.slice X n xc] w (Ret (fun v w' => ∃ r A c, v = .slice A n c ∧ FR 32 w' r A n c (flO bs) ∧ w.heap.size < r ∧ Ch No w w')) := by
 have hbl : bs.length = n := by have := sx.len; simpa using this
 refine calls_of_VC (args := [.slice X n xc]) Tryz.func12 rfl Tryz.ntmps12 rfl (Qe (Qb (Om (Qd rfl) rfl (Qf (Qa (Qe (Qb ?_)))))))
 refine Oq (Wk.lit0 υ24 inf32w90) rfl ?_
 rintro _ w1 ⟨p1, rfl, N1⟩
 have c1 := N1.ch
 have e1 := N1.p; have z1 := N1.size
 have l6o := Ow.of_new (cs := []) (sz := 1) (l := 0) N1 rfl (by decide)
 refine Om (Qd rfl) rfl (Qf (Qa (Qe (Qe (Qb (Om (Qc rfl) rfl (Om (Cu υ22 rfl) rfl ?_)))))))
 refine Om (Qc rfl) rfl (Qf (Qa (Qu ?_)))
 have sx_1 := sx.keep c1
 have CH_1 := (Ch.refl (No) w).and c1
 refine Cq (σ := Nat × Nat × Option Addr × Nat) (fun (j, r2, A2, c2) => [(3, .slice A2 j c2), (7, .slice X n xc), (8, .int .i64 n), (9, .int .i64 j)]) (fun (j, r2, A2, c2) w' => j ≤ n ∧ w.heap.size < r2 ∧ w1.heap.size ≤ w'.heap.size ∧ Ow w' r2 32 1 A2 j c2 (((flO bs).take j).map flV) ∧ SlR SX w' X n 1 (bs.map UV) ∧ Ch (No) w w') (fun (j, r2, A2, c2) => n - j) (0, (p1 + 1), (some ⟨p1, 0, none⟩), 0) ?_ ⟨rfl, rfl, rfl, rfl, trivial⟩ ?_
 · exact ⟨(by omega), (by omega), (Nat.le_refl _), l6o, sx_1, CH_1⟩
 rintro ⟨j, r2, A2, c2⟩ w2 ⟨hj, hr2, hsz2, row_2, sx_2, CH_2⟩
 show VC _ _ _ _ [(3, .slice A2 j c2), (7, .slice X n xc), (8, .int .i64 n), (9, .int .i64 j)] _
 refine Qe (Qb (Om (Cs rfl rfl) rfl (Qf (Qa (Qe (Qj rfl (fun hc1 => ?_) (fun hc1 => ?_)))))))
 ·
  refine Qn (Qa (Qe (Qu (Qe (Qb (Om (Qy υ22 Tryz.sizeOf74 rfl rfl (sx_2.ne (by omega)) (by omega) (by omega)) rfl (Om (Qh Tryz.isAgg74 rfl ((sx_2).getU (by omega) (by omega))) rfl ?_)))))))
  refine Om (Qd rfl) rfl (Qf (Qa (Qb (Om (Qc rfl) rfl (Om (Qc rfl) rfl (Om (Rn.fbits Tryz.func43 (by kernel_rfl) rfl (by kernel_rfl) (by kernel_rfl) rfl) rfl (Oq (Cv υ24 inf32w90 (by decide) rfl rfl (by rfl) (by decide) (by decide) (by rfl)) rfl ?_)))))))
  rintro _ w3 ⟨p3, rfl, N3⟩
  have c3 := N3.ch
  have e3 := N3.p; have z3 := N3.size
  have l16 := SlR.of_new (sz := 1) (l := 1) N3 rfl
  have l16o := Ow.of_new (sz := 1) (l := 1) N3 rfl (by decide)
  have row_3 := row_2.keep c3
  refine Oq (Co (S := _) υ24 inf32w90 rfl (by decide) rfl rfl row_3 l16 (by rfl) (fun h => by simp at h) (by omega) (by simp only [maxLen]; omega)) rfl ?_
  rintro _ w4 ⟨r4, A4, k4, rfl, o4, c4, q4⟩
  have z4 := c4.size
  have y4 := o4.lt
  refine Om (Qd rfl) rfl (Qf (Qo (Qa (Qb ?_))))
  refine Om (Ce rfl rfl (by rw [IntKind.wrap_i64]; omega)) rfl ?_
  refine Om (Qc rfl) rfl (Qf ?_)
  refine Cj (j + 1, r4, A4, k4) (by first | omega | (dsimp only; omega)) ?_ ⟨rfl, rfl, rfl, rfl, trivial⟩
  have sx_3 := sx_2.keep c3
  have sx_4 := sx_3.to c4 (by first | exact fun _ _ _ _ => id | (intro q h1 h2 hx h3; have := hX q h2; omega))
  have CH_3 := CH_2.and c3
  have CH_4 : Ch (No) w w4 := CH_3.then c4
  exact ⟨(by omega), (by omega), (by omega), (by rw [flO_take (by omega)]; exact o4), sx_4, CH_4⟩
 ·
  refine Ct (Qm (Qm (Ca (Qa (Qe (Qb (Om (Qc rfl) rfl ?_)))))))
  refine Om (Qd rfl) rfl (Qf (Qa (Qr (Qx rfl rfl (Ret.mk ?_)))))
  obtain rfl : j = n := by omega
  have o9 := row_2; rw [flO_all hbl] at o9
  exact ⟨_, _, _, rfl, o9, hr2, CH_2⟩
set_option maxRecDepth 100000 in
theorem law23_livesG (w : World) (st : StT w) (tab : TabB w.heap.size w) (hG : 24 ≤ w.heap.size) :
  Calls Tryz.prog 11 #[] w (Ret (fun v w' => v = .bool true ∧ Ch No w w')) := by
 refine calls_of_VC (args := []) Tryz.func11 rfl Tryz.ntmps11 rfl (Qe (Qb (Om (Qd rfl) rfl (Qf (Qa (Qe (Qb ?_)))))))
 refine Oq (Cv υ24 inf32w90 (by decide) rfl rfl (by rfl) (by decide) (by decide) (by rfl)) rfl ?_
 rintro _ w1 ⟨p1, rfl, N1⟩
 have c1 := N1.ch
 have e1 := N1.p; have z1 := N1.size
 have l8 := SlR.of_new (sz := 1) (l := 2) N1 rfl
 have l8o := Ow.of_new (sz := 1) (l := 2) N1 rfl (by decide)
 refine Oq (Qi Tryz.call20 rfl (cos_SumG _ _ 2 _ [4607182418800017408, 4611686018427387904] _ l8 (fun q hq => by omega) (by omega))) rfl ?_
 rintro _ w2 ⟨q2, zs2, rfl, su2, hs2, e2, c2⟩
 have yl2 := Ow.lt su2
 have z2 := c2.size
 refine Om (Qc rfl) rfl (Om (Qq rfl rfl) rfl (Om (Qq rfl rfl) rfl (Om (Qd rfl) rfl (Om (Qd rfl) rfl (Qf (Qa (Qe ?_)))))))
 refine Qb (Oq (Cv υ24 inf32w90 (by decide) rfl rfl (by rfl) (by decide) (by decide) (by rfl)) rfl ?_)
 rintro _ w3 ⟨p3, rfl, N3⟩
 have c3 := N3.ch
 have e3 := N3.p; have z3 := N3.size
 have l13 := SlR.of_new (sz := 1) (l := 1) N3 rfl
 have l13o := Ow.of_new (sz := 1) (l := 1) N3 rfl (by decide)
 have st_3 := st.keep (c1.trans (c2.trans c3))
 have tab_3 := tab.keep (c1.trans (c2.trans c3))
 refine Oq (Qi Tryz.call17 rfl (cos_ForwardG _ _ 1 _ [4617315517961601024] _ l13 (fun q hq => by omega) ⟨by omega, by omega⟩ st_3 ((tab_3).up (by omega)) (by omega))) rfl ?_
 rintro _ w4 ⟨q4, zs4, rfl, fo4, hf4, us4, e4, c4⟩
 have yl4 := Ow.lt fo4
 have z4 := c4.size
 refine Om (Qc rfl) rfl (Om (Qq rfl rfl) rfl (Om (Qq rfl rfl) rfl (Om (Qd rfl) rfl (Om (Qd rfl) rfl (Qf (Qa (Qe ?_)))))))
 refine Qb (Oq (Cv υ24 inf32w90 (by decide) rfl rfl (by rfl) (by decide) (by decide) (by rfl)) rfl ?_)
 rintro _ w5 ⟨p5, rfl, N5⟩
 have c5 := N5.ch
 have e5 := N5.p; have z5 := N5.size
 have l18 := SlR.of_new (sz := 1) (l := 1) N5 rfl
 have l18o := Ow.of_new (sz := 1) (l := 1) N5 rfl (by decide)
 have st_5 := st_3.keep (c4.trans c5)
 have tab_5 := tab_3.keep (c4.trans c5)
 refine Oq (Qi Tryz.call18 rfl (cos_InverseG _ _ 1 _ [4619567317775286272] _ l18 (fun q hq => by omega) ⟨by omega, by omega⟩ st_5 ((tab_5).up (by omega)) (by omega))) rfl ?_
 rintro _ w6 ⟨q6, zs6, rfl, io6, hy6, us6, e6, c6⟩
 have yl6 := Ow.lt io6
 have z6 := c6.size
 refine Om (Qc rfl) rfl (Om (Qq rfl rfl) rfl (Om (Qq rfl rfl) rfl (Om (Qd rfl) rfl (Om (Qd rfl) rfl (Qf (Qa (Qe ?_)))))))
 refine Qb (Om (Qc rfl) rfl (Om (Rs υ28 rfl) rfl (Om (Qc rfl) rfl (Om (Qc rfl) rfl (Om (Cu υ24 rfl) rfl (Om (Cf rfl rfl) rfl (Om (Qs rfl rfl) rfl ?_)))))))
 refine Om (Qc rfl) rfl ?_
 refine Cz (b := _) 5 29 34 rfl (fun hc1 Jhc1 => by
   try simp only [bX] at hc1
   refine Om (Qc rfl) rfl ?_
   have su_6 := su2.keep (c3.trans (c4.trans (c5.trans c6)))
   refine Om (Qy υ24 ς32 rfl rfl (su_6.sl.ne (by omega)) (by omega) (by omega)) rfl (Om (Qh ι32 rfl (su_6.sl.getF (by omega) (by omega))) rfl (Om (Rn.feqlT rfl rfl (feq_const ((hs2 0 (by omega)).trans (by kernel_rfl)) (by kernel_rfl) (by kernel_rfl))) rfl (Om (Qs rfl rfl) rfl ?_)))
   exact (Qp rfl (Qp rfl (Qp rfl (Qp rfl Jhc1))))) (fun hc1 Jhc1 => by
   refine Oy rfl (Oy rfl (Oy rfl (Oy rfl (Om (Qk rfl rfl) rfl ?_))))
   exact (Qp rfl (Qp rfl (Qp rfl (Qp rfl Jhc1))))) ?_
 refine Om (Qc rfl) rfl ?_
 refine Cz (b := _) 3 35 38 rfl (fun hc2 Jhc2 => by
   try simp only [bX] at hc2
   refine Om (Qc rfl) rfl (Om (Rs υ28 rfl) rfl (Om (Qs rfl rfl) rfl ?_))
   exact (Qp rfl (Qp rfl Jhc2))) (fun hc2 Jhc2 => by
   refine Oy rfl (Oy rfl (Om (Qk rfl rfl) rfl ?_))
   exact (Qp rfl (Qp rfl Jhc2))) ?_
 refine Om (Qc rfl) rfl ?_
 refine Cz (b := _) 4 39 43 rfl (fun hc3 Jhc3 => by
   try simp only [bX] at hc3
   refine Om (Qc rfl) rfl (Om (Cu υ24 rfl) rfl (Om (Cf rfl rfl) rfl (Om (Qs rfl rfl) rfl ?_)))
   exact (Qp rfl (Qp rfl (Qp rfl Jhc3)))) (fun hc3 Jhc3 => by
   refine Oy rfl (Oy rfl (Oy rfl (Om (Qk rfl rfl) rfl ?_)))
   exact (Qp rfl (Qp rfl (Qp rfl Jhc3)))) ?_
 refine Om (Qc rfl) rfl ?_
 refine Cz (b := _) 5 44 49 rfl (fun hc4 Jhc4 => by
   try simp only [bX] at hc4
   refine Om (Qc rfl) rfl ?_
   have fo_6 := fo4.keep (c5.trans c6)
   refine Om (Qy υ24 ς32 rfl rfl (fo_6.sl.ne (by omega)) (by omega) (by omega)) rfl (Om (Qh ι32 rfl (fo_6.sl.getF (by omega) (by omega))) rfl (Om (Rn.feqlT rfl rfl (feq_const ((hf4.get 0 (by omega)).trans (cosF_one us4 _)) (by kernel_rfl) (by kernel_rfl))) rfl (Om (Qs rfl rfl) rfl ?_)))
   exact (Qp rfl (Qp rfl (Qp rfl (Qp rfl Jhc4))))) (fun hc4 Jhc4 => by
   refine Oy rfl (Oy rfl (Oy rfl (Oy rfl (Om (Qk rfl rfl) rfl ?_))))
   exact (Qp rfl (Qp rfl (Qp rfl (Qp rfl Jhc4))))) ?_
 refine Om (Qc rfl) rfl ?_
 refine Cz (b := _) 3 50 53 rfl (fun hc5 Jhc5 => by
   try simp only [bX] at hc5
   refine Om (Qc rfl) rfl (Om (Rs υ28 rfl) rfl (Om (Qs rfl rfl) rfl ?_))
   exact (Qp rfl (Qp rfl Jhc5))) (fun hc5 Jhc5 => by
   refine Oy rfl (Oy rfl (Om (Qk rfl rfl) rfl ?_))
   exact (Qp rfl (Qp rfl Jhc5))) ?_
 refine Om (Qc rfl) rfl ?_
 refine Cz (b := _) 4 54 58 rfl (fun hc6 Jhc6 => by
   try simp only [bX] at hc6
   refine Om (Qc rfl) rfl (Om (Cu υ24 rfl) rfl (Om (Cf rfl rfl) rfl (Om (Qs rfl rfl) rfl ?_)))
   exact (Qp rfl (Qp rfl (Qp rfl Jhc6)))) (fun hc6 Jhc6 => by
   refine Oy rfl (Oy rfl (Oy rfl (Om (Qk rfl rfl) rfl ?_)))
   exact (Qp rfl (Qp rfl (Qp rfl Jhc6)))) ?_
 refine Om (Qc rfl) rfl ?_
 refine Cz (b := _) 5 59 64 rfl (fun hc7 Jhc7 => by
   try simp only [bX] at hc7
   refine Om (Qc rfl) rfl (Om (Qy υ24 ς32 rfl rfl (io6.sl.ne (by omega)) (by omega) (by omega)) rfl (Om (Qh ι32 rfl (io6.sl.getF (by omega) (by omega))) rfl (Om (Rn.feqlT rfl rfl (feq_const ((hy6.get 0 (by omega)).trans (cosI_one us6 _ (FlOk.cn (by decide)))) (by kernel_rfl) (by kernel_rfl))) rfl (Om (Qs rfl rfl) rfl ?_))))
   exact (Qp rfl (Qp rfl (Qp rfl (Qp rfl Jhc7))))) (fun hc7 Jhc7 => by
   refine Oy rfl (Oy rfl (Oy rfl (Oy rfl (Om (Qk rfl rfl) rfl ?_))))
   exact (Qp rfl (Qp rfl (Qp rfl (Qp rfl Jhc7))))) ?_
 refine Om (Qd rfl) rfl (Qf (Qa (Qr (Qx rfl rfl (Ret.mk ?_)))))
 have CH_6 := (Ch.refl (No) w).and (c1.trans (c2.trans (c3.trans (c4.trans (c5.trans c6)))))
 exact ⟨rfl, CH_6⟩
end Go.Tm
namespace Go.Tm
structure RelF (R : Fl → Fl → Prop) (K : Fl → Prop) : Prop where
  add : ∀ {x x' y y' : Fl}, R x x' → R y y' → R (fadd x y) (fadd x' y')
  sub : ∀ {x x' y y' : Fl}, R x x' → R y y' → R (fsub x y) (fsub x' y')
  mul : ∀ {x x' c : Fl}, R x x' → K c → R (fmul x c) (fmul x' c)
  quo : ∀ {x x' : Fl} {n : Int}, 1 ≤ n → n ≤ 16384 → R x x' → R (fquo x (fi n)) (fquo x' (fi n))
  neg : ∀ {x x' : Fl}, R x x' → R (fneg x) (fneg x')
  zero : R fl0 fl0
  cst : K (cn 4602678819172646912) ∧ K (cn 4605975682916830378) ∧ K (cn 4606741575090066687) ∧ K (cn 4603469518431672926) ∧ K (cn 4599238375200778576) ∧ K (cn 13828834233668859048)
def RC (R : Fl → Fl → Prop) (a b : Cx) : Prop := R a.1 b.1 ∧ R a.2 b.2
def KC (K : Fl → Prop) (a : Cx) : Prop := K a.1 ∧ K a.2
section
variable {R : Fl → Fl → Prop} {K : Fl → Prop} (h : RelF R K)
include h
theorem RelF.z : RC R z0 z0 := ⟨h.zero, h.zero⟩
theorem RelF.plus {a b c d : Cx} (p : RC R a b) (q : RC R c d) : RC R (plusC a c) (plusC b d) := ⟨h.add p.1 q.1, h.add p.2 q.2⟩
theorem RelF.less {a b c d : Cx} (p : RC R a b) (q : RC R c d) : RC R (lessC a c) (lessC b d) := ⟨h.sub p.1 q.1, h.sub p.2 q.2⟩
theorem RelF.mulC {a b c : Cx} (p : RC R a b) (q : KC K c) : RC R (Go.Tm.mulC a c) (Go.Tm.mulC b c) := ⟨h.sub (h.mul p.1 q.1) (h.mul p.2 q.2), h.add (h.mul p.1 q.2) (h.mul p.2 q.1)⟩
theorem RelF.conj {a b : Cx} (p : RC R a b) : RC R (conjC a) (conjC b) := ⟨p.1, h.neg p.2⟩
theorem RelF.ti {a b : Cx} (p : RC R a b) : RC R (timesI a) (timesI b) := ⟨h.neg p.2, p.1⟩
theorem RelF.mi {a b : Cx} (p : RC R a b) : RC R (minusI a) (minusI b) := ⟨p.2, h.neg p.1⟩
theorem RelF.tf {a b : Cx} {f : Fl} (p : RC R a b) (q : K f) : RC R (timesF a f) (timesF b f) := ⟨h.mul p.1 q, h.mul p.2 q⟩
theorem RelF.over {a b : Cx} {n : Int} (h1 : 1 ≤ n) (h2 : n ≤ 16384) (p : RC R a b) : RC R (overC a n) (overC b n) := ⟨h.quo h1 h2 p.1, h.quo h1 h2 p.2⟩
theorem RelF.twist {a b : Cx} {n k : Nat} (p : RC R a b) (q : KC K (rootF n k)) : RC R (twistF a n k) (twistF b n k) := by
  unfold twistF
  split
  · exact p
  · exact h.mulC p q
theorem RelF.list {l m : List Cx} (hl : l.length = m.length) (hg : ∀ i, i < l.length → RC R (l.getD i z0) (m.getD i z0)) (k : Nat) : RC R (l.getD k z0) (m.getD k z0) := by
  by_cases e : k < l.length
  · exact hg k e
  · simp only [List.getD, List.getElem?_eq_none (show l.length ≤ k by omega), List.getElem?_eq_none (show m.length ≤ k by omega)]
    exact h.z
theorem RelF.fly {n : Nat} (h2 : 2 ≤ n) (h5 : n ≤ 5) {x y : Nat → Cx} (hx : ∀ j, RC R (x j) (y j)) (k : Nat) : RC R ((flyG ((List.range n).map x)).getD k z0) ((flyG ((List.range n).map y)).getD k z0) := by
  obtain ⟨c1, c2, c3, c4, c5, c6⟩ := h.cst
  have hn : n = 2 ∨ n = 3 ∨ n = 4 ∨ n = 5 := by omega
  rcases hn with rfl | rfl | rfl | rfl
  · show RC R ([plusC (x 0) (x 1), lessC (x 0) (x 1)].getD k z0) ([plusC (y 0) (y 1), lessC (y 0) (y 1)].getD k z0)
    refine h.list (by rfl) (fun i hi => ?_) k
    match i, hi with
    | 0, _ => exact h.plus (hx 0) (hx 1)
    | 1, _ => exact h.less (hx 0) (hx 1)
  · show RC R ((fl3 (x 0) (x 1) (x 2)).getD k z0) ((fl3 (y 0) (y 1) (y 2)).getD k z0)
    have m := h.less (hx 0) (h.tf (h.plus (hx 1) (hx 2)) c1)
    have u := h.tf (h.less (hx 1) (hx 2)) c2
    refine h.list (by rfl) (fun i hi => ?_) k
    match i, hi with
    | 0, _ => exact h.plus (hx 0) (h.plus (hx 1) (hx 2))
    | 1, _ => exact h.plus m (h.mi u)
    | 2, _ => exact h.plus m (h.ti u)
  · have p := h.plus (hx 0) (hx 2)
    have q := h.less (hx 0) (hx 2)
    have s := h.plus (hx 1) (hx 3)
    have u := h.less (hx 1) (hx 3)
    refine h.list (by rfl) (fun i hi => ?_) k
    match i, hi with
    | 0, _ => exact h.plus p s
    | 1, _ => exact h.plus q (h.mi u)
    | 2, _ => exact h.less p s
    | 3, _ => exact h.plus q (h.ti u)
  · show RC R ((fl5 (x 0) (x 1) (x 2) (x 3) (x 4)).getD k z0) ((fl5 (y 0) (y 1) (y 2) (y 3) (y 4)).getD k z0)
    have t := h.plus (hx 1) (hx 4)
    have v := h.plus (hx 2) (hx 3)
    have u := h.less (hx 1) (hx 4)
    have w := h.less (hx 2) (hx 3)
    have m := h.plus (hx 0) (h.plus (h.tf t c5) (h.tf v c6))
    have n := h.plus (hx 0) (h.plus (h.tf t c6) (h.tf v c5))
    have g := h.plus (h.tf u c3) (h.tf w c4)
    have f := h.less (h.tf u c4) (h.tf w c3)
    refine h.list (by rfl) (fun i hi => ?_) k
    match i, hi with
    | 0, _ => exact h.plus (hx 0) (h.plus t v)
    | 1, _ => exact h.plus m (h.mi g)
    | 2, _ => exact h.plus n (h.mi f)
    | 3, _ => exact h.plus n (h.ti f)
    | 4, _ => exact h.plus m (h.ti g)
theorem RelF.sum {n k : Nat} {x y : Nat → Cx} (hn : 1 ≤ n) (hk : ∀ j, j < n → KC K (rootF n j)) (hx : ∀ j, RC R (x j) (y j)) : ∀ j, RC R (sumG n k x j) (sumG n k y j)
  | 0 => hx 0
  | j + 1 => by
    unfold sumG
    refine h.plus (RelF.sum hn hk hx j) ?_
    split
    · exact hx (j + 1)
    · exact h.mulC (hx (j + 1)) (hk _ (Nat.mod_lt _ (by omega)))
end
inductive KO (K : Fl → Prop) : Ord → Prop
  | direct {n : Int} : 1 ≤ n → (∀ j, j < n.toNat → KC K (rootF n.toNat j)) → KO K (.mk 1 n [])
  | fly {n : Int} : 2 ≤ n → n ≤ 5 → KO K (.mk 2 n [])
  | times {n : Int} {a b : Ord} : KO K a → KO K b → 1 ≤ a.len → 1 ≤ b.len → (∀ j, j < a.len.toNat * b.len.toNat → KC K (rootF (a.len.toNat * b.len.toNat) j)) → KO K (.mk 3 n [a, b])
  | blue {n : Int} {a : Ord} : KO K a → 1 ≤ a.len → a.len ≤ 16384 → (∀ j, KC K (chirpF n.toNat j)) → (∀ i, KC K (trM a (otherF n.toNat a.len.toNat) i)) → KO K (.mk 4 n [a])
theorem trM_rel {R : Fl → Fl → Prop} {K : Fl → Prop} (h : RelF R K) {o : Ord} (ho : KO K o) : ∀ {x y : Nat → Cx}, (∀ j, RC R (x j) (y j)) → ∀ k, RC R (trM o x k) (trM o y k) := by
  induction ho with
  | @direct n h1 hk =>
    intro x y hx k
    rw [trM_direct]
    exact h.sum (by omega) hk hx _
  | @fly n h1 h2 =>
    intro x y hx k
    rw [trM_fly]
    exact h.fly (by omega) (by omega) hx k
  | @times n a b ha hb h1 h2 hk ia ib =>
    intro x y hx k
    rw [trM_times]
    refine ia (fun j => ?_) _
    exact h.twist (ib (fun l => hx _) _) (hk _ (Nat.mod_lt _ (Nat.mul_pos (by omega) (by omega))))
  | @blue n a ha h1 h2 hc hv ia =>
    intro x y hx k
    rw [trM_blue]
    unfold trB
    refine h.mulC (h.over (by omega) (by omega) (h.conj (ia (fun i => ?_) _))) (hc k)
    refine h.conj (h.mulC (ia (fun j => ?_) _) (hv i))
    split
    · exact h.mulC (hx j) (hc j)
    · exact h.z
theorem KO.all {K : Fl → Prop} (hK : ∀ x, K x) {o : Ord} (ho : GO o) : KO K o := by
  induction ho with
  | direct h1 _ => exact .direct h1 fun _ _ => ⟨hK _, hK _⟩
  | fly h1 h2 => exact .fly h1 h2
  | times _ _ h2 h3 _ ia ib => exact .times ia ib (by omega) (by omega) fun _ _ => ⟨hK _, hK _⟩
  | @blue n a h1 _ _ h3 ia => exact .blue ia (by omega) (len_bd a).2 (fun _ => ⟨hK _, hK _⟩) fun _ => ⟨hK _, hK _⟩
open Ieee
def OppD (d e : Datum) : Prop := e = d.opposite ∨ ∃ s t p, d = .number s 0 p ∧ e = .number t 0 p
theorem xor_mod (b : Nat) : (b ^^^ 2 ^ 63) % 2 ^ 63 = b % 2 ^ 63 := by rw [Nat.xor_mod_two_pow]; simp
theorem xor_div (b : Nat) : (b ^^^ 2 ^ 63) / 2 ^ 63 = b / 2 ^ 63 ^^^ 1 := by rw [Nat.xor_div_two_pow]
theorem xor_small {r : Nat} (h : r < 2 ^ 63) : r ^^^ 2 ^ 63 = 2 ^ 63 + r := by
  have h1 := xor_mod r
  have h2 := xor_div r
  rw [Nat.div_eq_of_lt h, Nat.mod_eq_of_lt h] at *
  have h3 := Nat.div_add_mod (r ^^^ 2 ^ 63) (2 ^ 63)
  rw [h1, h2] at h3
  rw [← h3]
  rfl
theorem xor_big {r : Nat} (h : r < 2 ^ 63) : (2 ^ 63 + r) ^^^ 2 ^ 63 = r := by
  rw [← xor_small h, Nat.xor_assoc, Nat.xor_self, Nat.xor_zero]
theorem read_opp (b : Nat) : double.read (b ^^^ 2 ^ 63) = (double.read b).opposite := by
  have e1 : double.signWeight = 2 ^ 63 := rfl
  have e3 : ((b ^^^ 2 ^ 63) / 2 ^ 63 % 2 == 1) = !(b / 2 ^ 63 % 2 == 1) := by
    rw [xor_div]
    have : (b / 2 ^ 63 ^^^ 1) % 2 = (b / 2 ^ 63 % 2 ^^^ 1 % 2) := Nat.xor_mod_two_pow (n := 1)
    rw [this]
    rcases Nat.mod_two_eq_zero_or_one (b / 2 ^ 63) with h | h <;> rw [h] <;> rfl
  unfold Format.read
  simp only [e1, xor_mod, e3]
  split
  · rfl
  · split
    · rfl
    · split <;> rfl
theorem read_zero {b : Nat} (h : b % 2 ^ 63 = 0) : ∃ s, double.read b = .number s 0 (-1074) := by
  have e1 : double.signWeight = 2 ^ 63 := rfl
  have e2 : double.binade = 2 ^ 52 := rfl
  unfold Format.read
  simp only [e1, h, e2]
  exact ⟨_, rfl⟩
def OppB (a b : Nat) : Prop := b = a ^^^ 2 ^ 63 ∨ (a % 2 ^ 63 = 0 ∧ b % 2 ^ 63 = 0)
theorem OppB.d {a b : Nat} (h : OppB a b) : OppD (double.read a) (double.read b) := by
  rcases h with rfl | ⟨h1, h2⟩
  · exact .inl (read_opp a)
  · obtain ⟨s, h3⟩ := read_zero h1
    obtain ⟨t, h4⟩ := read_zero h2
    exact .inr ⟨s, t, _, h3, h4⟩
theorem word_opp (s : Bool) {r : Nat} (hr : r < 2 ^ 63) : double.word (!s) r = double.word s r ^^^ 2 ^ 63 := by
  have e1 : double.signWeight = 2 ^ 63 := rfl
  unfold Format.word
  rw [e1]
  cases s
  · exact (xor_small hr).symm
  · exact (xor_big hr).symm
theorem infR : double.infRung < 2 ^ 63 := by decide
theorem nearest_opp (s : Bool) (m : Nat) (p : Int) : double.nearest (!s) m p = double.nearest s m p ^^^ 2 ^ 63 := by
  unfold Format.nearest
  by_cases h : m = 0
  · rw [if_pos h, if_pos h]; exact word_opp s (by decide)
  · rw [if_neg h, if_neg h]
    exact word_opp s (Nat.lt_of_le_of_lt (Nat.min_le_right _ _) infR)
theorem nearest_nought (s : Bool) (p : Int) : double.nearest s 0 p % 2 ^ 63 = 0 := by
  have e1 : double.signWeight = 2 ^ 63 := rfl
  unfold Format.nearest Format.word
  rw [if_pos rfl, e1]
  cases s <;> rfl
theorem OppD.w {d e : Datum} (h : OppD d e) (hd : d.isNaN = false) : OppB (double.write d) (double.write e) := by
  rcases h with rfl | ⟨s, t, p, rfl, rfl⟩
  · cases d with
    | number s m p => exact .inl (nearest_opp s m p)
    | infinity s => exact .inl (word_opp s infR)
    | nan s f => simp [Datum.isNaN] at hd
  · exact .inr ⟨nearest_nought s p, nearest_nought t p⟩
def OppO (x y : Option Datum) : Prop := (x = none ∧ y = none) ∨ ∃ d e, x = some d ∧ y = some e ∧ OppD d e
theorem signed_neg (s : Bool) (m u : Nat) : signed (!s) m u = -signed s m u := by
  unfold signed
  cases s <;> simp
theorem signed_nought (s : Bool) (u : Nat) : signed s 0 u = 0 := by
  unfold signed
  cases s <;> simp
theorem total_opp (b c : Bool) (T : Int) (p : Int) : OppD (.number (if T = 0 then b else T < 0) T.natAbs p) (.number (if -T = 0 then c else -T < 0) (-T).natAbs p) := by
  by_cases h : T = 0
  · subst h; exact .inr ⟨_, _, p, rfl, rfl⟩
  · refine .inl ?_
    rw [if_neg h, if_neg (by omega), Int.natAbs_neg]
    show Datum.number _ _ _ = Datum.number _ _ _
    congr 1
    by_cases h2 : T < 0
    · simp [h2]; omega
    · simp [h2]; omega
theorem OppD.sum {a a' b b' : Datum} (h : OppD a a') (g : OppD b b') : OppO (a.sum b) (a'.sum b') := by
  have num : ∀ (s s' t t' : Bool) (m n : Nat) (i j : Int), (s' = !s ∨ m = 0) → (t' = !t ∨ n = 0) → OppO ((Datum.number s m i).sum (.number t n j)) ((Datum.number s' m i).sum (.number t' n j)) := by
    intro s s' t t' m n i j hs ht
    refine .inr ⟨_, _, rfl, rfl, ?_⟩
    have e1 : signed s' m (i - min i j).toNat = -signed s m (i - min i j).toNat := by
      rcases hs with rfl | rfl
      · exact signed_neg _ _ _
      · rw [signed_nought, signed_nought]; rfl
    have e2 : signed t' n (j - min i j).toNat = -signed t n (j - min i j).toNat := by
      rcases ht with rfl | rfl
      · exact signed_neg _ _ _
      · rw [signed_nought, signed_nought]; rfl
    rw [e1, e2, ← Int.neg_add]
    exact total_opp _ _ _ _
  rcases h with rfl | ⟨s, s', p, rfl, rfl⟩
  · rcases g with rfl | ⟨t, t', q, rfl, rfl⟩
    · cases a with
      | nan s f => exact .inl ⟨rfl, rfl⟩
      | infinity s =>
        cases b with
        | nan t f => exact .inl ⟨rfl, rfl⟩
        | infinity t =>
          by_cases e : s = t
          · subst e
            refine .inr ⟨_, _, if_pos rfl, if_pos rfl, .inl rfl⟩
          · exact .inl ⟨if_neg e, if_neg (by simpa using e)⟩
        | number t n j => exact .inr ⟨_, _, rfl, rfl, .inl rfl⟩
      | number s m i =>
        cases b with
        | nan t f => exact .inl ⟨rfl, rfl⟩
        | infinity t => exact .inr ⟨_, _, rfl, rfl, .inl rfl⟩
        | number t n j => exact num _ _ _ _ _ _ _ _ (.inl rfl) (.inl rfl)
    · cases a with
      | nan s f => exact .inl ⟨rfl, rfl⟩
      | infinity s => exact .inr ⟨_, _, rfl, rfl, .inl rfl⟩
      | number s m i => exact num _ _ _ _ _ _ _ _ (.inl rfl) (.inr rfl)
  · rcases g with rfl | ⟨t, t', q, rfl, rfl⟩
    · cases b with
      | nan s f => exact .inl ⟨rfl, rfl⟩
      | infinity s => exact .inr ⟨_, _, rfl, rfl, .inl rfl⟩
      | number s m i => exact num _ _ _ _ _ _ _ _ (.inr rfl) (.inl rfl)
    · exact num _ _ _ _ _ _ _ _ (.inr rfl) (.inr rfl)
theorem OppD.opp {a a' : Datum} (h : OppD a a') : OppD a.opposite a'.opposite := by
  rcases h with rfl | ⟨s, s', p, rfl, rfl⟩
  · exact .inl rfl
  · exact .inr ⟨_, _, _, rfl, rfl⟩
theorem OppD.mul {a a' : Datum} (h : OppD a a') (c : Datum) : OppO (a.product c) (a'.product c) := by
  rcases h with rfl | ⟨s, s', p, rfl, rfl⟩
  · cases a with
    | nan s f => exact .inl ⟨rfl, rfl⟩
    | infinity s =>
      cases c with
      | nan t f => exact .inl ⟨rfl, rfl⟩
      | infinity t => exact .inr ⟨_, _, rfl, rfl, .inl (by simp [Datum.opposite])⟩
      | number t n j =>
        by_cases e : n = 0
        · exact .inl ⟨if_pos e, if_pos e⟩
        · exact .inr ⟨_, _, if_neg e, if_neg e, .inl (by simp [Datum.opposite])⟩
    | number s m i =>
      cases c with
      | nan t f => exact .inl ⟨rfl, rfl⟩
      | infinity t =>
        by_cases e : m = 0
        · exact .inl ⟨if_pos e, if_pos e⟩
        · exact .inr ⟨_, _, if_neg e, if_neg e, .inl (by simp [Datum.opposite])⟩
      | number t n j => exact .inr ⟨_, _, rfl, rfl, .inl (by simp [Datum.opposite])⟩
  · cases c with
    | nan t f => exact .inl ⟨rfl, rfl⟩
    | infinity t => exact .inl ⟨by simp [Datum.product], by simp [Datum.product]⟩
    | number t n j => exact .inr ⟨_, _, rfl, rfl, .inr ⟨_, _, _, by rw [Nat.zero_mul], by rw [Nat.zero_mul]⟩⟩
theorem OppD.quo {a a' : Datum} (h : OppD a a') (k : Nat) (c : Datum) : OppO (a.quotient k c) (a'.quotient k c) := by
  rcases h with rfl | ⟨s, s', p, rfl, rfl⟩
  · cases a with
    | nan s f => exact .inl ⟨rfl, rfl⟩
    | infinity s =>
      cases c with
      | nan t f => exact .inl ⟨rfl, rfl⟩
      | infinity t => exact .inl ⟨rfl, rfl⟩
      | number t n j => exact .inr ⟨_, _, rfl, rfl, .inl (by simp [Datum.opposite])⟩
    | number s m i =>
      cases c with
      | nan t f => exact .inl ⟨rfl, rfl⟩
      | infinity t => exact .inr ⟨_, _, rfl, rfl, .inl (by simp [Datum.opposite])⟩
      | number t n j =>
        by_cases e : n = 0
        · by_cases e2 : m = 0
          · exact .inl ⟨by simp [Datum.quotient, e, e2], by simp [Datum.quotient, Datum.opposite, e, e2]⟩
          · exact .inr ⟨_, _, (if_pos e).trans (if_neg e2), (if_pos e).trans (if_neg e2), .inl (by simp [Datum.opposite])⟩
        · exact .inr ⟨_, _, if_neg e, if_neg e, .inl (by simp [Datum.opposite])⟩
  · cases c with
    | nan t f => exact .inl ⟨rfl, rfl⟩
    | infinity t => exact .inr ⟨_, _, rfl, rfl, .inr ⟨_, _, _, rfl, rfl⟩⟩
    | number t n j =>
      by_cases e : n = 0
      · exact .inl ⟨by simp [Datum.quotient, e], by simp [Datum.quotient, e]⟩
      · have zq : ∀ w, 2 * ((0 : Nat) <<< w / n) + ((0 : Nat) <<< w % n != 0).toNat = 0 := fun w => by simp
        exact .inr ⟨_, _, if_neg e, if_neg e, .inr ⟨_, _, _, congrArg (fun z => Datum.number (s ^^ t) z _) (zq _), congrArg (fun z => Datum.number (s' ^^ t) z _) (zq _)⟩⟩
def Opp (x y : Fl) : Prop := (x = none ∧ y = none) ∨ ∃ a b, x = some a ∧ y = some b ∧ OppB a b
theorem Opp.of {o o' : Option Datum} (h : OppO o o') (hd : ∀ d, o = some d → d.isNaN = false) : Opp (o.map double.write) (o'.map double.write) := by
  rcases h with ⟨rfl, rfl⟩ | ⟨d, e, rfl, rfl, h⟩
  · exact .inl ⟨rfl, rfl⟩
  · exact .inr ⟨_, _, rfl, rfl, h.w (hd d rfl)⟩
theorem Opp.rel : RelF Opp fun _ => True where
  add := by
    rintro x x' y y' (⟨rfl, rfl⟩ | ⟨a, b, rfl, rfl, h⟩) (⟨rfl, rfl⟩ | ⟨c, d, rfl, rfl, g⟩)
    · exact .inl ⟨rfl, rfl⟩
    · exact .inl ⟨rfl, rfl⟩
    · exact .inl ⟨rfl, rfl⟩
    · exact Opp.of (OppD.sum h.d g.d) fun d hd => sum_num hd
  sub := by
    rintro x x' y y' (⟨rfl, rfl⟩ | ⟨a, b, rfl, rfl, h⟩) (⟨rfl, rfl⟩ | ⟨c, d, rfl, rfl, g⟩)
    · exact .inl ⟨rfl, rfl⟩
    · exact .inl ⟨rfl, rfl⟩
    · exact .inl ⟨rfl, rfl⟩
    · exact Opp.of (OppD.sum h.d g.d.opp) fun d hd => sum_num hd
  mul := by
    rintro x x' c (⟨rfl, rfl⟩ | ⟨a, b, rfl, rfl, h⟩) _
    · exact .inl ⟨rfl, rfl⟩
    · cases c with
      | none => exact .inl ⟨rfl, rfl⟩
      | some c => exact Opp.of (OppD.mul h.d _) fun d hd => product_num hd
  quo := by
    rintro x x' n _ _ (⟨rfl, rfl⟩ | ⟨a, b, rfl, rfl, h⟩)
    · exact .inl ⟨rfl, rfl⟩
    · cases hc : fi n with
      | none => exact .inl ⟨rfl, rfl⟩
      | some c => exact Opp.of (OppD.quo h.d _ _) fun d hd => quotient_num hd
  neg := by
    rintro x x' (⟨rfl, rfl⟩ | ⟨a, b, rfl, rfl, h⟩)
    · exact .inl ⟨rfl, rfl⟩
    · refine .inr ⟨_, _, rfl, rfl, ?_⟩
      rcases h with rfl | ⟨h1, h2⟩
      · exact .inl rfl
      · exact .inr ⟨by rw [xor_mod]; exact h1, by rw [xor_mod]; exact h2⟩
  zero := .inr ⟨0, 0, rfl, rfl, .inr ⟨rfl, rfl⟩⟩
  cst := ⟨trivial, trivial, trivial, trivial, trivial, trivial⟩
theorem Opp.minus (x : Fl) : Opp x (fneg x) := by
  cases x with
  | none => exact .inl ⟨rfl, rfl⟩
  | some b => exact .inr ⟨_, _, rfl, rfl, .inl rfl⟩
end Go.Tm
namespace Go.Tm
open Ieee
def WhC (z : Cx) (a b : Int) : Prop := Wh z.1 a ∧ Wh z.2 b
def B44 (a : Int) : Prop := -17592186044416 ≤ a ∧ a ≤ 17592186044416
theorem sm_of {a : Int} (h1 : -1000000000000000 ≤ a) (h2 : a ≤ 1000000000000000) : Sm a := by unfold Sm; omega
theorem WhC.plus {x y : Cx} {a b c d : Int} (hx : WhC x a b) (hy : WhC y c d) (ha : -100000000000000 ≤ a ∧ a ≤ 100000000000000) (hb : -100000000000000 ≤ b ∧ b ≤ 100000000000000) (hc : -100000000000000 ≤ c ∧ c ≤ 100000000000000) (hd : -100000000000000 ≤ d ∧ d ≤ 100000000000000) : WhC (plusC x y) (a + c) (b + d) :=
  ⟨hx.1.add hy.1 (sm_of (by omega) (by omega)) (sm_of (by omega) (by omega)) (sm_of (by omega) (by omega)), hx.2.add hy.2 (sm_of (by omega) (by omega)) (sm_of (by omega) (by omega)) (sm_of (by omega) (by omega))⟩
theorem WhC.less {x y : Cx} {a b c d : Int} (hx : WhC x a b) (hy : WhC y c d) (ha : -100000000000000 ≤ a ∧ a ≤ 100000000000000) (hb : -100000000000000 ≤ b ∧ b ≤ 100000000000000) (hc : -100000000000000 ≤ c ∧ c ≤ 100000000000000) (hd : -100000000000000 ≤ d ∧ d ≤ 100000000000000) : WhC (lessC x y) (a - c) (b - d) :=
  ⟨hx.1.sub hy.1 (sm_of (by omega) (by omega)) (sm_of (by omega) (by omega)) (sm_of (by omega) (by omega)), hx.2.sub hy.2 (sm_of (by omega) (by omega)) (sm_of (by omega) (by omega)) (sm_of (by omega) (by omega))⟩
theorem WhC.minusI {x : Cx} {a b : Int} (hx : WhC x a b) (ha : -100000000000000 ≤ a ∧ a ≤ 100000000000000) : WhC (minusI x) b (-a) := ⟨hx.2, hx.1.neg (sm_of (by omega) (by omega))⟩
theorem WhC.timesI {x : Cx} {a b : Int} (hx : WhC x a b) (hb : -100000000000000 ≤ b ∧ b ≤ 100000000000000) : WhC (timesI x) (-b) a := ⟨hx.2.neg (sm_of (by omega) (by omega)), hx.1⟩
theorem WhC.conj {x : Cx} {a b : Int} (hx : WhC x a b) (hb : -100000000000000 ≤ b ∧ b ≤ 100000000000000) : WhC (conjC x) a (-b) := ⟨hx.1, hx.2.neg (sm_of (by omega) (by omega))⟩
theorem WhC.mul {z w : Cx} {a b c s : Int} (hz : WhC z a b) (hw : WhC w c s) (ha : B44 a) (hb : B44 b) (hc : c = -1 ∨ c = 0 ∨ c = 1) (hs : s = -1 ∨ s = 0 ∨ s = 1) : WhC (mulC z w) (a * c - b * s) (a * s + b * c) := by
  obtain ⟨a1, a2⟩ := ha
  obtain ⟨b1, b2⟩ := hb
  rcases hc with rfl | rfl | rfl <;> rcases hs with rfl | rfl | rfl <;>
    exact ⟨(hz.1.mul hw.1 (sm_of (by omega) (by omega)) (sm_of (by omega) (by omega)) (sm_of (by omega) (by omega))).sub (hz.2.mul hw.2 (sm_of (by omega) (by omega)) (sm_of (by omega) (by omega)) (sm_of (by omega) (by omega))) (sm_of (by omega) (by omega)) (sm_of (by omega) (by omega)) (sm_of (by omega) (by omega)),
      (hz.1.mul hw.2 (sm_of (by omega) (by omega)) (sm_of (by omega) (by omega)) (sm_of (by omega) (by omega))).add (hz.2.mul hw.1 (sm_of (by omega) (by omega)) (sm_of (by omega) (by omega)) (sm_of (by omega) (by omega))) (sm_of (by omega) (by omega)) (sm_of (by omega) (by omega)) (sm_of (by omega) (by omega))⟩
theorem cn_wd (s : Bool) {c : Nat} (h : c < 2 ^ 53) : cn (wd s c) = some (wd s c) := by
  rw [cn_eq, if_neg]
  unfold wd
  by_cases h0 : c = 0
  · subst h0; cases s <;> simp
  · obtain ⟨h1, h2, h3⟩ := log2_bd h0 h
    rw [if_neg h0]
    generalize c * 2 ^ (52 - c.log2) = K at *
    generalize c.log2 = L at *
    cases s <;> simp <;> omega
theorem Wh.cn_int {a : Int} (ha : Sm a) : Wh (fi a) a := by
  obtain ⟨s, e, h⟩ := Wh.of_int ha
  injection e with e
  refine ⟨s, ?_, h⟩
  show cn (FloatKind.f64.nearest a) = _
  rw [e, cn_wd s ha]
theorem WhC.over {z : Cx} {a b n p q : Int} (hz : WhC z a b) (hn : 0 < n ∧ n ≤ 16) (ha : a = p * n) (hb : b = q * n) (h1 : -1000000000000000 ≤ a ∧ a ≤ 1000000000000000) (h2 : -1000000000000000 ≤ b ∧ b ≤ 1000000000000000) (h3 : Sm p) (h4 : Sm q) : WhC (overC z n) p q :=
  have hf := Wh.cn_int (a := n) (sm_of (by omega) (by omega))
  ⟨hz.1.quo hf (sm_of (by omega) (by omega)) (sm_of (by omega) (by omega)) hn.1 ha h3, hz.2.quo hf (sm_of (by omega) (by omega)) (sm_of (by omega) (by omega)) hn.1 hb h4⟩
def uvS (n k j : Nat) (a b : Int) (x : Int × Int) : Int × Int :=
  if 4 * (j * k) / n % 4 = 0 then (x.1 + a, x.2 + b) else if 4 * (j * k) / n % 4 = 1 then (x.1 + b, x.2 - a) else if 4 * (j * k) / n % 4 = 2 then (x.1 - a, x.2 - b) else (x.1 - b, x.2 + a)
def uvL (n k : Nat) (us bs : Nat → Int) : Nat → Int × Int
  | 0 => (0, 0)
  | j + 1 => uvS n k j (us j) (bs j) (uvL n k us bs j)
def rB (q : Nat) : CB := (pzB (tur q).1, pzB (Op.negFloat .f64 (pzB (tur q).2)))
end Go.Tm
namespace Go.Tm
open Ieee
def Bd (E : Nat) (x : Fl) : Prop := ∃ b, x = some b ∧ b % 2 ^ 63 ≤ E * 2 ^ 52
theorem Bd.mono {E F : Nat} {x : Fl} (h : Bd E x) (l : E ≤ F) : Bd F x := by
  obtain ⟨b, e, h⟩ := h
  exact ⟨b, e, Nat.le_trans h (Nat.mul_le_mul_right _ l)⟩
def bdB (E : Nat) (x : Fl) : Bool := match x with
  | some b => Nat.ble (b % 2 ^ 63) (E * 2 ^ 52)
  | none => false
theorem Bd.of {E : Nat} {x : Fl} (h : bdB E x = true) : Bd E x := by
  cases x with
  | none => cases h
  | some b => exact ⟨b, rfl, Nat.le_of_ble_eq_true h⟩
def Le2 (mag : Nat) (place e : Int) : Prop := mag = 0 ∨ (0 ≤ e - place ∧ mag ≤ 2 ^ (e - place).toNat)
theorem read_bd {E b : Nat} (h1 : 1 ≤ E) (h2 : E ≤ 2046) (h : b % 2 ^ 63 ≤ E * 2 ^ 52) : ∃ s m p, double.read b = .number s m p ∧ -1074 ≤ p ∧ m < 2 ^ 53 ∧ Le2 m p ((E : Int) - 1023) := by
  have e1 : double.signWeight = 2 ^ 63 := rfl
  have e2 : double.binade = 2 ^ 52 := rfl
  have e3 : double.infRung = 2047 * 2 ^ 52 := rfl
  have e4 : double.leastPlace = -1074 := rfl
  unfold Format.read
  simp only [e1, e2, e3, e4]
  generalize b % 2 ^ 63 = r at *
  by_cases c : r < 2 ^ 52
  · rw [if_pos c]
    refine ⟨_, _, _, rfl, by omega, by omega, .inr ⟨by omega, ?_⟩⟩
    have : 2 ^ 52 ≤ 2 ^ ((E : Int) - 1023 - -1074).toNat := Nat.pow_le_pow_right (by decide) (by omega)
    omega
  · rw [if_neg c, if_pos (by omega)]
    have hq : r / 2 ^ 52 ≤ E := by
      have := Nat.div_le_div_right (c := 2 ^ 52) h
      rwa [Nat.mul_div_cancel _ (by decide)] at this
    have hq1 : 1 ≤ r / 2 ^ 52 := (Nat.le_div_iff_mul_le (by decide)).2 (by omega)
    have hm := Nat.mod_lt r (show 0 < 2 ^ 52 by decide)
    have hd := Nat.div_add_mod r (2 ^ 52)
    refine ⟨_, _, _, rfl, by omega, by omega, .inr ⟨by omega, ?_⟩⟩
    by_cases e : r / 2 ^ 52 = E
    · have : 2 ^ 52 ≤ 2 ^ ((E : Int) - 1023 - (-1074 + ((r / 2 ^ 52 - 1 : Nat) : Int))).toNat := Nat.pow_le_pow_right (by decide) (by omega)
      have h0 : r % 2 ^ 52 = 0 := by rw [e] at hd; omega
      omega
    · have : 2 ^ 53 ≤ 2 ^ ((E : Int) - 1023 - (-1074 + ((r / 2 ^ 52 - 1 : Nat) : Int))).toNat := Nat.pow_le_pow_right (by decide) (by omega)
      omega
theorem cut_le {s : Bool} {n d A : Nat} (h : n ≤ A * 2 ^ d) : Toward.even.cut s n d ≤ A := by
  unfold Toward.cut
  rw [Nat.one_shiftLeft]
  by_cases c : d ≤ n.log2 + 2
  · rw [Nat.min_eq_left c]
    have h2 := Nat.two_pow_pos d
    have hl : n / 2 ^ d ≤ A := Nat.div_le_of_le_mul (by rw [Nat.mul_comm]; exact h)
    by_cases e : n / 2 ^ d = A
    · have hd := Nat.div_add_mod n (2 ^ d)
      rw [e, Nat.mul_comm] at hd
      have h0 : n % 2 ^ d = 0 := by omega
      simp only [e, h0]
      have h9 : ¬ 2 ^ d = 0 := by omega
      rw [show (2 ^ d == 0) = false from beq_eq_false_iff_ne.2 h9]
      simp
    · have hb : ∀ b : Bool, b.toNat ≤ 1 := fun b => by cases b <;> decide
      have := hb (decide (2 ^ d < 2 * (n % 2 ^ d)) || 2 ^ d == 2 * (n % 2 ^ d) && n / 2 ^ d % 2 == 1)
      simp only
      omega
  · rw [Nat.min_eq_right (by omega)]
    have hlt : n < 2 ^ (n.log2 + 1) := Nat.lt_log2_self
    have hp : 2 ^ (n.log2 + 2) = 2 * 2 ^ (n.log2 + 1) := by rw [Nat.pow_succ, Nat.mul_comm]
    have h0 : n / 2 ^ (n.log2 + 2) = 0 := Nat.div_eq_of_lt (by omega)
    have h1 : n % 2 ^ (n.log2 + 2) = n := Nat.mod_eq_of_lt (by omega)
    simp only [h0, h1]
    have a1 : ¬ 2 ^ (n.log2 + 2) < 2 * n := by omega
    have a2 : ¬ 2 ^ (n.log2 + 2) = 2 * n := by omega
    simp [a1, a2]
theorem nearest_bd {s : Bool} {mag E : Nat} {place : Int} (h1 : 1 ≤ E) (h2 : E ≤ 2046) (h : Le2 mag place ((E : Int) - 1023)) : double.nearest s mag place % 2 ^ 63 ≤ E * 2 ^ 52 := by
  have e1 : double.signWeight = 2 ^ 63 := rfl
  have e2 : double.fractionBits = 52 := rfl
  have e3 : double.infRung = 2047 * 2 ^ 52 := rfl
  have e4 : double.leastPlace = -1074 := rfl
  have e5 : double.binade = 2 ^ 52 := rfl
  by_cases h0 : mag = 0
  · subst h0; rw [nearest_nought]; omega
  obtain ⟨hd, hm⟩ := h.resolve_left h0
  unfold Format.nearest
  rw [if_neg h0, e2, e3, e4, e5]
  generalize hL : mag.log2 = L
  have hL1 : 2 ^ L ≤ mag := by rw [← hL]; exact Nat.log2_self_le h0
  have hL2 : mag < 2 ^ (L + 1) := by rw [← hL]; exact Nat.lt_log2_self
  have hLd : L ≤ ((E : Int) - 1023 - place).toNat := (Nat.pow_le_pow_iff_right (by decide : 1 < 2)).1 (Nat.le_trans hL1 hm)
  generalize hlast : max (place + (L : Int) - ((52 : Nat) : Int)) (-1074) = last
  have l1 : place + L - 52 ≤ last := by omega
  have l2 : -1074 ≤ last := by omega
  have l3 : last ≤ (E : Int) - 1023 - 52 := by omega
  have hk1 : Toward.even.cut s (mag <<< (place - last).toNat) (last - place).toNat ≤ 2 ^ ((E : Int) - 1023 - last).toNat := by
    refine cut_le ?_
    rw [Nat.shiftLeft_eq, ← Nat.pow_add]
    by_cases c : last ≤ place
    · have : mag * 2 ^ (place - last).toNat ≤ 2 ^ ((E : Int) - 1023 - place).toNat * 2 ^ (place - last).toNat := Nat.mul_le_mul_right _ hm
      rw [← Nat.pow_add] at this
      refine Nat.le_trans this (Nat.pow_le_pow_right (by decide) (by omega))
    · rw [show (place - last).toNat = 0 by omega, Nat.pow_zero, Nat.mul_one]
      exact Nat.le_trans hm (Nat.pow_le_pow_right (by decide) (by omega))
  have hk2 : Toward.even.cut s (mag <<< (place - last).toNat) (last - place).toNat ≤ 2 ^ 53 := by
    refine cut_le ?_
    rw [Nat.shiftLeft_eq, ← Nat.pow_add]
    have : mag * 2 ^ (place - last).toNat ≤ 2 ^ (L + 1) * 2 ^ (place - last).toNat := Nat.mul_le_mul_right _ (Nat.le_of_lt hL2)
    rw [← Nat.pow_add] at this
    exact Nat.le_trans this (Nat.pow_le_pow_right (by decide) (by omega))
  have hr : (last - -1074).toNat * 2 ^ 52 + Toward.even.cut s (mag <<< (place - last).toNat) (last - place).toNat ≤ E * 2 ^ 52 := by
    by_cases c : last = (E : Int) - 1023 - 52
    · rw [c] at hk1 ⊢
      rw [show ((E : Int) - 1023 - ((E : Int) - 1023 - 52)).toNat = 52 by omega] at hk1
      rw [show ((E : Int) - 1023 - 52 - -1074).toNat = E - 1 by omega]
      have : (E - 1) * 2 ^ 52 + 2 ^ 52 = E * 2 ^ 52 := by rw [← Nat.succ_mul]; congr 1; omega
      omega
    · have a1 : (last - -1074).toNat + 2 ≤ E := by omega
      have := Nat.mul_le_mul_right (2 ^ 52) a1
      rw [Nat.add_mul] at this
      omega
  show double.word s (min ((last - -1074).toNat * 2 ^ 52 + Toward.even.cut s (mag <<< (place - last).toNat) (last - place).toNat) (2047 * 2 ^ 52)) % 2 ^ 63 ≤ E * 2 ^ 52
  generalize (last - -1074).toNat * 2 ^ 52 + Toward.even.cut s (mag <<< (place - last).toNat) (last - place).toNat = r at hr ⊢
  have hr2 := Nat.le_trans (Nat.min_le_left r (2047 * 2 ^ 52)) hr
  have hr3 := Nat.min_le_right r (2047 * 2 ^ 52)
  generalize min r (2047 * 2 ^ 52) = q at *
  unfold Format.word
  rw [e1]
  have hq : q < 2 ^ 63 := by omega
  split
  · rw [Nat.add_mod_left, Nat.mod_eq_of_lt hq]; exact hr2
  · rw [Nat.mod_eq_of_lt hq]; exact hr2
theorem signed_abs (s : Bool) (m u : Nat) : (signed s m u).natAbs = m * 2 ^ u := by
  unfold signed
  rw [Nat.shiftLeft_eq]
  cases s <;> simp [Int.natAbs_mul, Int.natAbs_pow]
theorem le2_scale {m : Nat} {i e base : Int} (h : Le2 m i e) (hb : base ≤ i) (he : 0 ≤ e - base) : m * 2 ^ (i - base).toNat ≤ 2 ^ (e - base).toNat := by
  rcases h with rfl | ⟨h1, h2⟩
  · rw [Nat.zero_mul]; exact Nat.zero_le _
  · have := Nat.mul_le_mul_right (2 ^ (i - base).toNat) h2
    rw [← Nat.pow_add] at this
    exact Nat.le_trans this (Nat.pow_le_pow_right (by decide) (by omega))
theorem sum_bd {E a : Nat} {d : Datum} (h1 : 1 ≤ E) (h2 : E + 1 ≤ 2046) (ha : ∃ s m p, double.read a = .number s m p ∧ -1074 ≤ p ∧ Le2 m p ((E : Int) - 1023)) (hb : ∃ s m p, d = .number s m p ∧ -1074 ≤ p ∧ Le2 m p ((E : Int) - 1023)) : ∃ r, ((double.read a).sum d).map double.write = some r ∧ r % 2 ^ 63 ≤ (E + 1) * 2 ^ 52 := by
  obtain ⟨s, m, i, ea, hi, ha⟩ := ha
  obtain ⟨t, n, j, rfl, hj, hb⟩ := hb
  rw [ea]
  refine ⟨_, rfl, ?_⟩
  refine nearest_bd (by omega) h2 ?_
  by_cases hz : (signed s m (i - min i j).toNat + signed t n (j - min i j).toNat).natAbs = 0
  · exact .inl hz
  right
  -- the least place is not above 2^e
  have hle := Int.natAbs_add_le (signed s m (i - min i j).toNat) (signed t n (j - min i j).toNat)
  rw [signed_abs, signed_abs] at hle
  by_cases hb0 : 0 ≤ (E : Int) - 1023 - min i j
  · have g1 := le2_scale ha (Int.min_le_left i j) hb0
    have g2 := le2_scale hb (Int.min_le_right i j) hb0
    refine ⟨by omega, ?_⟩
    rw [show ((E + 1 : Nat) : Int) - 1023 - min i j = ((E : Int) - 1023 - min i j) + 1 by omega, show (((E : Int) - 1023 - min i j) + 1).toNat = ((E : Int) - 1023 - min i j).toNat + 1 by omega, Nat.pow_succ]
    omega
  · exfalso
    have z1 : m = 0 := ha.resolve_right fun h => by have := Int.min_le_left i j; omega
    have z2 : n = 0 := hb.resolve_right fun h => by have := Int.min_le_right i j; omega
    subst z1 z2
    simp only [Nat.zero_mul] at hle
    omega
theorem Bd.num {E : Nat} {x : Fl} (h : Bd E x) (h1 : 1 ≤ E) (h2 : E ≤ 2046) : ∃ b, x = some b ∧ ∃ s m p, double.read b = .number s m p ∧ -1074 ≤ p ∧ m < 2 ^ 53 ∧ Le2 m p ((E : Int) - 1023) := by
  obtain ⟨b, e, h⟩ := h
  exact ⟨b, e, read_bd h1 h2 h⟩
theorem Bd.add {E : Nat} {x y : Fl} (h : Bd E x) (g : Bd E y) (h1 : 1 ≤ E) (h2 : E + 1 ≤ 2046) : Bd (E + 1) (fadd x y) := by
  obtain ⟨a, rfl, s, m, p, e1, e2, _, e3⟩ := h.num h1 (by omega)
  obtain ⟨b, rfl, t, n, q, f1, f2, _, f3⟩ := g.num h1 (by omega)
  exact sum_bd h1 h2 ⟨s, m, p, e1, e2, e3⟩ ⟨t, n, q, f1, f2, f3⟩
theorem Bd.sub {E : Nat} {x y : Fl} (h : Bd E x) (g : Bd E y) (h1 : 1 ≤ E) (h2 : E + 1 ≤ 2046) : Bd (E + 1) (fsub x y) := by
  obtain ⟨a, rfl, s, m, p, e1, e2, _, e3⟩ := h.num h1 (by omega)
  obtain ⟨b, rfl, t, n, q, f1, f2, _, f3⟩ := g.num h1 (by omega)
  exact sum_bd (d := (double.read b).opposite) h1 h2 ⟨s, m, p, e1, e2, e3⟩ ⟨!t, n, q, by rw [f1]; rfl, f2, f3⟩
theorem Bd.neg {E : Nat} {x : Fl} (h : Bd E x) : Bd E (fneg x) := by
  obtain ⟨b, rfl, h⟩ := h
  exact ⟨_, rfl, by rw [xor_mod]; exact h⟩
theorem Bd.mul {E F : Nat} {x y : Fl} (h : Bd E x) (g : Bd F y) (h1 : 1 ≤ E) (g1 : 1 ≤ F) (h2 : 1024 ≤ E + F) (h3 : E ≤ 2046) (g3 : F ≤ 2046) (h4 : E + F - 1023 ≤ 2046) : Bd (E + F - 1023) (fmul x y) := by
  obtain ⟨a, rfl, s, m, i, e1, e2, _, e3⟩ := h.num h1 h3
  obtain ⟨b, rfl, t, n, j, f1, f2, _, f3⟩ := g.num g1 g3
  refine ⟨_, (by show ((double.read a).product (double.read b)).map double.write = _; rw [e1, f1]; rfl), ?_⟩
  refine nearest_bd (by omega) h4 ?_
  rcases e3 with rfl | ⟨e3, e4⟩
  · exact .inl (Nat.zero_mul _)
  rcases f3 with rfl | ⟨f3, f4⟩
  · exact .inl (Nat.mul_zero _)
  refine .inr ⟨by omega, ?_⟩
  have := Nat.mul_le_mul e4 f4
  rw [← Nat.pow_add] at this
  exact Nat.le_trans this (Nat.pow_le_pow_right (by decide) (by omega))
theorem Bd.quo {E f N : Nat} {x : Fl} (h : Bd E x) (hN : 2 ^ f ≤ N) (hN2 : N < 2 ^ 53) (h1 : f + 1 ≤ E) (h2 : E ≤ 2046) (h3 : E - f + 1 ≤ 2046) : Bd (E - f + 1) (fquo x (fi (N : Int))) := by
  have hN0 : N ≠ 0 := by have := Nat.two_pow_pos f; omega
  have hs : Sm (N : Int) := by unfold Sm; simpa using hN2
  obtain ⟨sg, hy, hsg⟩ := Wh.cn_int hs
  obtain ⟨k, e1, e2, e3⟩ := read_wd sg (c := N) hN2
  obtain ⟨a, rfl, s, m, i, a1, a2, a5, a3⟩ := h.num (by omega) h2
  have hy2 : fi (N : Int) = some (wd sg N) := by rw [hy]; simp
  rw [hy2]
  have hnz : ¬ N * 2 ^ k = 0 := Nat.mul_ne_zero hN0 (by have := Nat.two_pow_pos k; omega)
  refine ⟨_, (by show ((double.read a).quotient (double.fractionBits + 2) (double.read (wd sg N))).map double.write = _; rw [a1, e1]; exact congrArg (Option.map double.write) (if_neg hnz)), ?_⟩
  refine nearest_bd (by omega) (by omega) ?_
  by_cases h0 : m = 0
  · subst h0; exact .inl (by simp)
  obtain ⟨b1, b2⟩ := a3.resolve_left h0
  right
  have e52 : double.fractionBits = 52 := rfl
  rw [e52]
  have hlm : m.log2 ≤ 52 := by
    have : m.log2 < 53 := (Nat.log2_lt h0).2 a5
    omega
  generalize hmore : 52 + 2 + (N * 2 ^ k).log2 - m.log2 = more
  have hD : (m <<< more) = m * 2 ^ more := Nat.shiftLeft_eq ..
  have hlow : 2 ^ f * 2 ^ k ≤ m * 2 ^ more := by
    have l1 : 2 ^ m.log2 ≤ m := Nat.log2_self_le h0
    have l2 : N * 2 ^ k < 2 ^ ((N * 2 ^ k).log2 + 1) := Nat.lt_log2_self
    have l3 := Nat.mul_le_mul_right (2 ^ more) l1
    rw [← Nat.pow_add] at l3
    have l4 : 2 ^ ((N * 2 ^ k).log2 + 1) ≤ 2 ^ (m.log2 + more) := Nat.pow_le_pow_right (by decide) (by omega)
    have l5 := Nat.mul_le_mul_right (2 ^ k) hN
    omega
  have hup : m * 2 ^ more ≤ 2 ^ (((E : Int) - 1023 - i).toNat + more) := by
    rw [Nat.pow_add]; exact Nat.mul_le_mul_right _ b2
  have hX : f + k ≤ ((E : Int) - 1023 - i).toNat + more := by
    rw [← Nat.pow_add] at hlow
    exact (Nat.pow_le_pow_iff_right (by decide : 1 < 2)).1 (Nat.le_trans hlow hup)
  have hq : m * 2 ^ more / (N * 2 ^ k) ≤ 2 ^ (((E : Int) - 1023 - i).toNat + more - (f + k)) := by
    refine Nat.div_le_of_le_mul ?_
    refine Nat.le_trans hup ?_
    have l5 : 2 ^ (f + k) ≤ N * 2 ^ k := by rw [Nat.pow_add]; exact Nat.mul_le_mul_right _ hN
    have l6 := Nat.mul_le_mul_right (2 ^ (((E : Int) - 1023 - i).toNat + more - (f + k))) l5
    rw [← Nat.pow_add, show f + k + (((E : Int) - 1023 - i).toNat + more - (f + k)) = ((E : Int) - 1023 - i).toNat + more by omega] at l6
    exact l6
  rw [hD]
  have hp := Nat.two_pow_pos (((E : Int) - 1023 - i).toNat + more - (f + k))
  have hb : ∀ b : Bool, b.toNat ≤ 1 := fun b => by cases b <;> decide
  have hb1 := hb (m * 2 ^ more % (N * 2 ^ k) != 0)
  refine ⟨by omega, ?_⟩
  have : 2 ^ (((E - f + 1 : Nat) : Int) - 1023 - (i - -(k : Int) - (more : Int) - 1)).toNat = 4 * 2 ^ (((E : Int) - 1023 - i).toNat + more - (f + k)) := by
    rw [show (((E - f + 1 : Nat) : Int) - 1023 - (i - -(k : Int) - (more : Int) - 1)).toNat = ((E : Int) - 1023 - i).toNat + more - (f + k) + 2 by omega, Nat.pow_add, Nat.mul_comm]
  rw [this]
  omega
theorem Bd.whole {f r : Nat} (h : r ≤ 2 ^ f) (hf : f ≤ 1000) : Bd (f + 1023) (fi (r : Int)) := by
  have e : fi (r : Int) = cn (double.nearest (decide ((r : Int) < 0)) r 0) := rfl
  rw [e]
  have hb := nearest_bd (s := decide ((r : Int) < 0)) (mag := r) (E := f + 1023) (place := 0) (by omega) (by omega) (.inr ⟨by omega, by rw [show (((f + 1023 : Nat) : Int) - 1023 - 0).toNat = f by omega]; exact h⟩)
  refine ⟨double.nearest (decide ((r : Int) < 0)) r 0, ?_, hb⟩
  rw [cn_eq, if_neg]
  have : (f + 1023) * 2 ^ 52 ≤ 2023 * 2 ^ 52 := Nat.mul_le_mul_right _ (by omega)
  omega
def cofE : Nat → Nat
  | 8 => 980
  | 7 => 988
  | 6 => 996
  | 5 => 1003
  | 4 => 1009
  | 3 => 1015
  | 2 => 1020
  | 1 => 1023
  | _ => 1024
set_option maxRecDepth 100000 in
theorem cof_bd : ((List.range 2).all fun f => (List.range 9).all fun i => bdB (cofE i) (cofL f i)) = true := by kernel_rfl
theorem cofL_bd {f i : Nat} (hf : f < 2) (hi : i < 9) : Bd (cofE i) (cofL f i) :=
  Bd.of (List.all_eq_true.1 (List.all_eq_true.1 cof_bd f (List.mem_range.2 hf)) i (List.mem_range.2 hi))
theorem horn_next {f j E F : Nat} {y : Fl} (hf : f < 2) (hj : j < 8) (hy : Bd 1027 y) (h : Bd E (hornP f y j)) (hE : 1 ≤ E) (hE2 : E + 4 ≤ F) (hc : cofE (7 - j) ≤ F) (hF : F + 1 ≤ 2046) : Bd (F + 1) (hornP f y (j + 1)) := by
  have hm := hy.mul h (by decide) hE (by omega) (by decide) (by omega) (by omega)
  exact ((cofL_bd hf (by omega)).mono hc).sub (hm.mono (by omega)) (by omega) hF
theorem horn_bd {f : Nat} {y : Fl} (hf : f < 2) (hy : Bd 1027 y) : Bd 1032 (hornF f y) := by
  have p0 : Bd 980 (hornP f y 0) := cofL_bd (i := 8) hf (by decide)
  have p1 := horn_next (F := 988) hf (by decide) hy p0 (by decide) (by decide) (by decide) (by decide)
  have p2 := horn_next (F := 996) hf (by decide) hy p1 (by decide) (by decide) (by decide) (by decide)
  have p3 := horn_next (F := 1003) hf (by decide) hy p2 (by decide) (by decide) (by decide) (by decide)
  have p4 := horn_next (F := 1009) hf (by decide) hy p3 (by decide) (by decide) (by decide) (by decide)
  have p5 := horn_next (F := 1015) hf (by decide) hy p4 (by decide) (by decide) (by decide) (by decide)
  have p6 := horn_next (F := 1020) hf (by decide) hy p5 (by decide) (by decide) (by decide) (by decide)
  have p7 := horn_next (F := 1026) hf (by decide) hy p6 (by decide) (by decide) (by decide) (by decide)
  exact horn_next (F := 1031) hf (by decide) hy p7 (by decide) (by decide) (by decide) (by decide)
theorem bd_one : Bd 1024 one := Bd.of (by kernel_rfl)
theorem bd_zero : Bd 1024 fl0 := Bd.of (by kernel_rfl)
theorem eigh_bd {r N : Nat} (h : 8 * r ≤ N) (hN : N < 2 ^ 40) : KC (Bd 1034) (eighF (r : Int) (N : Int)) := by
  unfold eighF
  by_cases h0 : (r : Int) = 0
  · rw [if_pos h0]; exact ⟨bd_one.mono (by decide), bd_zero.mono (by decide)⟩
  rw [if_neg h0]
  by_cases h8 : 8 * (r : Int) = N
  · rw [if_pos h8]; exact ⟨(Bd.of (E := 1024) (by kernel_rfl)).mono (by decide), (Bd.of (E := 1024) (by kernel_rfl)).mono (by decide)⟩
  rw [if_neg h8]
  have hr : 1 ≤ r := by omega
  have hN0 : N ≠ 0 := by omega
  have l1 : 2 ^ N.log2 ≤ N := Nat.log2_self_le hN0
  have l2 : N < 2 ^ (N.log2 + 1) := Nat.lt_log2_self
  have l3 : N.log2 < 40 := (Nat.log2_lt hN0).2 hN
  have l4 : 3 ≤ N.log2 := (Nat.le_log2 hN0).2 (by omega)
  have hrb : r ≤ 2 ^ (N.log2 - 2) := by
    have : 2 ^ (N.log2 + 1) = 8 * 2 ^ (N.log2 - 2) := by
      rw [show N.log2 + 1 = N.log2 - 2 + 3 by omega, Nat.pow_add, Nat.mul_comm]
    omega
  have b1 := Bd.whole hrb (by omega)
  have b2 : Bd 1026 (cn twoPiB) := Bd.of (by kernel_rfl)
  have b3 := b2.mul b1 (by decide) (by omega) (by omega) (by decide) (by omega) (by omega)
  have b4 := b3.quo (f := N.log2) l1 (by omega) (by omega) (by omega) (by omega)
  have b5 : Bd 1025 (fquo (fmul (cn twoPiB) (fi r)) (fi N)) := b4.mono (by omega)
  have b6 := b5.mul b5 (by decide) (by decide) (by decide) (by decide) (by decide) (by decide)
  have b7 := horn_bd (f := 0) (by decide) (b6.mono (by decide))
  have b8 := horn_bd (f := 1) (by decide) (b6.mono (by decide))
  exact ⟨b7.mono (by decide), (b5.mul b8 (by decide) (by decide) (by decide) (by decide) (by decide) (by decide)).mono (by decide)⟩
theorem tur_bd {E : Nat} {x : Cx} (h : KC (Bd E) x) : ∀ q, KC (Bd E) (turF x q)
  | 0 => h
  | q + 1 => ⟨(tur_bd h q).2.neg, (tur_bd h q).1⟩
theorem pz_bd {E : Nat} {x : Fl} (h : Bd E x) : Bd E (pzF x) := by
  obtain ⟨b, rfl, h⟩ := h
  refine ⟨_, rfl, ?_⟩
  unfold pzB
  split
  · simp
  · exact h
theorem pair_bd {n k : Nat} (hn : 1 ≤ n) (hn2 : n ≤ 4194304) : KC (Bd 1034) (pairF n k) := by
  have hm := Nat.mod_lt (4 * k) (show 0 < n by omega)
  have h0 : KC (Bd 1034) (pair0 n k) := by
    unfold pair0
    split
    · rename_i h
      exact eigh_bd (by omega) (by omega)
    · rename_i h
      have := eigh_bd (r := n - 4 * k % n) (N := 4 * n) (by omega) (by omega)
      rw [show ((n - 4 * k % n : Nat) : Int) = (n : Int) - ((4 * k % n : Nat) : Int) by omega] at this
      exact ⟨this.2, this.1⟩
  exact ⟨pz_bd (tur_bd h0 _).1, pz_bd (tur_bd h0 _).2⟩
theorem root_bd {n k : Nat} (hn : 1 ≤ n) (hn2 : n ≤ 4194304) : KC (Bd 1034) (rootF n k) := ⟨(pair_bd hn hn2).1, pz_bd (pair_bd hn hn2).2.neg⟩
end Go.Tm
