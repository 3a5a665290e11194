/- Lemmas of this claim, joined by program. Leaves on whole numbers: what comes out is exact, and the inverse brings the list back. The half on whole numbers, in plain Lean: halves, twists by powers of minus i, there and back, two at once. Walks of functions: halves of 1, 2 and 4 whole numbers: Forward, Inverse. Walks of functions: halves of 1, 2 and 4 whole numbers: Inverse, Full, Two. Walks of functions: Full, Two; the law's own answer; lists held against each other. Rows of pairs of whole numbers (structs of two numbers). Convolutions of whole numbers, in plain Lean. Walks of functions: sums from the left; the convolutions by their sums, on whole numbers. append where there is room; append of a made row. Walks of functions: the linear convolution by its sum; convolutions by plans of 1, 2 and 4. Conditions: each lemma names its own. -/
import Derived.Test.YtdgiiehbbmfgoaaGreatDoorE14
import Derived.Test.YtdgiiehbbmfgoaaGreatDoorE10
set_option linter.all false
namespace Go.Tm
open Ieee
def WhC (z : Cx) (a b : Int) : Prop := Wh z.1 a ∧ Wh z.2 b
def B44 (a : Int) : Prop := -17592186044416 ≤ a ∧ a ≤ 17592186044416
theorem sm_of {a : Int} (h1 : -1000000000000000 ≤ a) (h2 : a ≤ 1000000000000000) : Sm a := by unfold Sm; omega
theorem WhC.plus {x y : Cx} {a b c d : Int} (hx : WhC x a b) (hy : WhC y c d) (ha : -100000000000000 ≤ a ∧ a ≤ 100000000000000) (hb : -100000000000000 ≤ b ∧ b ≤ 100000000000000) (hc : -100000000000000 ≤ c ∧ c ≤ 100000000000000) (hd : -100000000000000 ≤ d ∧ d ≤ 100000000000000) : WhC (plusC x y) (a + c) (b + d) :=
  ⟨hx.1.add hy.1 (sm_of (by omega) (by omega)) (sm_of (by omega) (by omega)) (sm_of (by omega) (by omega)), hx.2.add hy.2 (sm_of (by omega) (by omega)) (sm_of (by omega) (by omega)) (sm_of (by omega) (by omega))⟩
theorem WhC.less {x y : Cx} {a b c d : Int} (hx : WhC x a b) (hy : WhC y c d) (ha : -100000000000000 ≤ a ∧ a ≤ 100000000000000) (hb : -100000000000000 ≤ b ∧ b ≤ 100000000000000) (hc : -100000000000000 ≤ c ∧ c ≤ 100000000000000) (hd : -100000000000000 ≤ d ∧ d ≤ 100000000000000) : WhC (lessC x y) (a - c) (b - d) :=
  ⟨hx.1.sub hy.1 (sm_of (by omega) (by omega)) (sm_of (by omega) (by omega)) (sm_of (by omega) (by omega)), hx.2.sub hy.2 (sm_of (by omega) (by omega)) (sm_of (by omega) (by omega)) (sm_of (by omega) (by omega))⟩
theorem WhC.minusI {x : Cx} {a b : Int} (hx : WhC x a b) (ha : -100000000000000 ≤ a ∧ a ≤ 100000000000000) : WhC (minusI x) b (-a) := ⟨hx.2, hx.1.neg (sm_of (by omega) (by omega))⟩
theorem WhC.timesI {x : Cx} {a b : Int} (hx : WhC x a b) (hb : -100000000000000 ≤ b ∧ b ≤ 100000000000000) : WhC (timesI x) (-b) a := ⟨hx.2.neg (sm_of (by omega) (by omega)), hx.1⟩
theorem WhC.conj {x : Cx} {a b : Int} (hx : WhC x a b) (hb : -100000000000000 ≤ b ∧ b ≤ 100000000000000) : WhC (conjC x) a (-b) := ⟨hx.1, hx.2.neg (sm_of (by omega) (by omega))⟩
theorem WhC.mul {z w : Cx} {a b c s : Int} (hz : WhC z a b) (hw : WhC w c s) (ha : B44 a) (hb : B44 b) (hc : c = -1 ∨ c = 0 ∨ c = 1) (hs : s = -1 ∨ s = 0 ∨ s = 1) : WhC (mulC z w) (a * c - b * s) (a * s + b * c) := by
  obtain ⟨a1, a2⟩ := ha
  obtain ⟨b1, b2⟩ := hb
  rcases hc with rfl | rfl | rfl <;> rcases hs with rfl | rfl | rfl <;>
    exact ⟨(hz.1.mul hw.1 (sm_of (by omega) (by omega)) (sm_of (by omega) (by omega)) (sm_of (by omega) (by omega))).sub (hz.2.mul hw.2 (sm_of (by omega) (by omega)) (sm_of (by omega) (by omega)) (sm_of (by omega) (by omega))) (sm_of (by omega) (by omega)) (sm_of (by omega) (by omega)) (sm_of (by omega) (by omega)),
      (hz.1.mul hw.2 (sm_of (by omega) (by omega)) (sm_of (by omega) (by omega)) (sm_of (by omega) (by omega))).add (hz.2.mul hw.1 (sm_of (by omega) (by omega)) (sm_of (by omega) (by omega)) (sm_of (by omega) (by omega))) (sm_of (by omega) (by omega)) (sm_of (by omega) (by omega)) (sm_of (by omega) (by omega))⟩
theorem cn_wd (s : Bool) {c : Nat} (h : c < 2 ^ 53) : cn (wd s c) = some (wd s c) := by
  rw [cn_eq, if_neg]
  unfold wd
  by_cases h0 : c = 0
  · subst h0; cases s <;> simp
  · obtain ⟨h1, h2, h3⟩ := log2_bd h0 h
    rw [if_neg h0]
    generalize c * 2 ^ (52 - c.log2) = K at *
    generalize c.log2 = L at *
    cases s <;> simp <;> omega
theorem Wh.cn_int {a : Int} (ha : Sm a) : Wh (fi a) a := by
  obtain ⟨s, e, h⟩ := Wh.of_int ha
  injection e with e
  refine ⟨s, ?_, h⟩
  show cn (FloatKind.f64.nearest a) = _
  rw [e, cn_wd s ha]
theorem WhC.over {z : Cx} {a b n p q : Int} (hz : WhC z a b) (hn : 0 < n ∧ n ≤ 16) (ha : a = p * n) (hb : b = q * n) (h1 : -1000000000000000 ≤ a ∧ a ≤ 1000000000000000) (h2 : -1000000000000000 ≤ b ∧ b ≤ 1000000000000000) (h3 : Sm p) (h4 : Sm q) : WhC (overC z n) p q :=
  have hf := Wh.cn_int (a := n) (sm_of (by omega) (by omega))
  ⟨hz.1.quo hf (sm_of (by omega) (by omega)) (sm_of (by omega) (by omega)) hn.1 ha h3, hz.2.quo hf (sm_of (by omega) (by omega)) (sm_of (by omega) (by omega)) hn.1 hb h4⟩
def uvS (n k j : Nat) (a b : Int) (x : Int × Int) : Int × Int :=
  if 4 * (j * k) / n % 4 = 0 then (x.1 + a, x.2 + b) else if 4 * (j * k) / n % 4 = 1 then (x.1 + b, x.2 - a) else if 4 * (j * k) / n % 4 = 2 then (x.1 - a, x.2 - b) else (x.1 - b, x.2 + a)
def uvL (n k : Nat) (us bs : Nat → Int) : Nat → Int × Int
  | 0 => (0, 0)
  | j + 1 => uvS n k j (us j) (bs j) (uvL n k us bs j)
theorem uv_bd {n k : Nat} {us bs : Nat → Int} {B : Int} (h : ∀ j, (-B ≤ us j ∧ us j ≤ B) ∧ -B ≤ bs j ∧ bs j ≤ B) : ∀ j : Nat, j ≤ 4 → (-(4 * B) ≤ (uvL n k us bs j).1 ∧ (uvL n k us bs j).1 ≤ 4 * B) ∧ -(4 * B) ≤ (uvL n k us bs j).2 ∧ (uvL n k us bs j).2 ≤ 4 * B := by
  have hB : 0 ≤ B := by have := h 0; omega
  have key : ∀ j : Nat, j ≤ 4 → ∃ c : Int, c ≤ 4 * B ∧ c = j * B ∧ (-c ≤ (uvL n k us bs j).1 ∧ (uvL n k us bs j).1 ≤ c) ∧ -c ≤ (uvL n k us bs j).2 ∧ (uvL n k us bs j).2 ≤ c := by
    intro j
    induction j with
    | zero => intro _; exact ⟨0, by omega, by simp, by simp [uvL], by simp [uvL]⟩
    | succ j ih =>
      intro hj
      obtain ⟨c, h1, h2, h3, h4⟩ := ih (by omega)
      have e : (((j + 1 : Nat) : Int)) * B = c + B := by rw [h2]; push_cast; rw [Int.add_mul, Int.one_mul]
      have hle : c + B ≤ 4 * B := by
        rw [← e]
        exact Int.mul_le_mul_of_nonneg_right (by omega) hB
      have := h j
      refine ⟨c + B, hle, e.symm, ?_⟩
      simp only [uvL, uvS]
      split
      · simp only; omega
      · split
        · simp only; omega
        · split <;> simp only <;> omega
  intro j hj
  obtain ⟨c, h1, h2, h3, h4⟩ := key j hj
  omega
def rB (q : Nat) : CB := (pzB (tur q).1, pzB (Op.negFloat .f64 (pzB (tur q).2)))
theorem root_wh (q : Nat) (h : q < 4) : WhC (cx (rB q)) (if q = 0 then 1 else if q = 2 then -1 else 0) (if q = 1 then -1 else if q = 3 then 1 else 0) := by
  match q, h with
  | 0, _ => exact ⟨⟨false, by kernel_rfl, by decide⟩, ⟨false, by kernel_rfl, by decide⟩⟩
  | 1, _ => exact ⟨⟨false, by kernel_rfl, by decide⟩, ⟨true, by kernel_rfl, by decide⟩⟩
  | 2, _ => exact ⟨⟨true, by kernel_rfl, by decide⟩, ⟨false, by kernel_rfl, by decide⟩⟩
  | 3, _ => exact ⟨⟨false, by kernel_rfl, by decide⟩, ⟨false, by kernel_rfl, by decide⟩⟩
theorem term_wh {n m : Nat} (hn : n = 1 ∨ n = 2 ∨ n = 4) {z : Cx} {a b : Int} (hz : WhC z a b) (ha : B44 a) (hb : B44 b) :
    WhC (if m % n = 0 then z else mulC z (cx (rootB n (m % n)))) (if 4 * m / n % 4 = 0 then a else if 4 * m / n % 4 = 1 then b else if 4 * m / n % 4 = 2 then -a else -b) (if 4 * m / n % 4 = 0 then b else if 4 * m / n % 4 = 1 then -a else if 4 * m / n % 4 = 2 then -b else a) := by
  have one : WhC (mulC z (cx (rB 1))) b (-a) := by have := hz.mul (root_wh 1 (by decide)) ha hb (by decide) (by decide); simpa using this
  have two : WhC (mulC z (cx (rB 2))) (-a) (-b) := by have := hz.mul (root_wh 2 (by decide)) ha hb (by decide) (by decide); simpa using this
  have three : WhC (mulC z (cx (rB 3))) (-b) a := by have := hz.mul (root_wh 3 (by decide)) ha hb (by decide) (by decide); simpa using this
  rcases hn with rfl | rfl | rfl
  · rw [if_pos (Nat.mod_one m), if_pos (by omega), if_pos (by omega)]; exact hz
  · by_cases h : m % 2 = 0
    · rw [if_pos h, if_pos (by omega), if_pos (by omega)]; exact hz
    · have e : m % 2 = 1 := by omega
      have q : 4 * m / 2 % 4 = 2 := by omega
      rw [if_neg h, q, e]; exact two
  · have q : 4 * m / 4 % 4 = m % 4 := by omega
    rw [q]
    have : m % 4 < 4 := Nat.mod_lt _ (by decide)
    match m % 4, this with
    | 0, _ => exact hz
    | 1, _ => exact one
    | 2, _ => exact two
    | 3, _ => exact three
theorem uvS_eq (n k j : Nat) (a b : Int) (x : Int × Int) : uvS n k j a b x = (x.1 + (if 4 * (j * k) / n % 4 = 0 then a else if 4 * (j * k) / n % 4 = 1 then b else if 4 * (j * k) / n % 4 = 2 then -a else -b), x.2 + (if 4 * (j * k) / n % 4 = 0 then b else if 4 * (j * k) / n % 4 = 1 then -a else if 4 * (j * k) / n % 4 = 2 then -b else a)) := by
  unfold uvS
  split
  · rfl
  · split
    · rw [Int.sub_eq_add_neg]
    · split
      · rw [Int.sub_eq_add_neg, Int.sub_eq_add_neg]
      · rw [Int.sub_eq_add_neg]
theorem sum_whC {n k : Nat} (hn : n = 1 ∨ n = 2 ∨ n = 4) {X : Nat → Cx} {us bs : Nat → Int} (hb : ∀ j, B44 (us j) ∧ B44 (bs j)) (hX : ∀ j, j < n → WhC (X j) (us j) (bs j)) : ∀ j, j < n → WhC (sumC n k X j) (uvL n k us bs (j + 1)).1 (uvL n k us bs (j + 1)).2 := by
  intro j
  induction j with
  | zero =>
    intro hj
    have := hX 0 hj
    simp only [sumC, uvL, uvS, Nat.zero_mul, Nat.mul_zero, Nat.zero_div, Nat.zero_mod, if_true, Int.zero_add]
    exact this
  | succ j ih =>
    intro hj
    have h1 := ih (by omega)
    have h2 := term_wh (m := (j + 1) * k) hn (hX (j + 1) hj) (hb _).1 (hb _).2
    have bd := uv_bd (n := n) (k := k) (us := us) (bs := bs) (B := 17592186044416) hb (j + 1) (by omega)
    have b1 := hb (j + 1)
    unfold B44 at b1
    have e : uvL n k us bs (j + 1 + 1) = uvS n k (j + 1) (us (j + 1)) (bs (j + 1)) (uvL n k us bs (j + 1)) := rfl
    rw [e, uvS_eq]
    show WhC (plusC (sumC n k X j) _) _ _
    refine h1.plus h2 (by omega) (by omega) ?_ ?_
    · split
      · omega
      · split
        · omega
        · split <;> omega
    · split
      · omega
      · split
        · omega
        · split <;> omega
theorem direct_whC {n k : Nat} (hn : n = 1 ∨ n = 2 ∨ n = 4) {X : Nat → Cx} {us bs : Nat → Int} (hb : ∀ j, B44 (us j) ∧ B44 (bs j)) (hX : ∀ j, j < n → WhC (X j) (us j) (bs j)) : WhC (directC n k X) (uvL n k us bs n).1 (uvL n k us bs n).2 := by
  have := sum_whC (k := k) hn hb hX (n - 1) (by omega)
  rw [show n - 1 + 1 = n by omega] at this
  exact this
def WhL (zs : List Cx) (n : Nat) (us bs : Nat → Int) : Prop := zs.length = n ∧ ∀ k, k < n → WhC (zs.getD k z0) (us k) (bs k)
def bD (n : Nat) : Bld := ⟨n, 2 * n, 0, n, [⟨6, n, 0, 1, n, n, 0⟩], n, 2 * n⟩
def bF (n : Nat) : Bld := ⟨n, 2 * n, 0, n, [⟨1, n, 0, 1, n, 0, 0⟩, ⟨5, n, 0, 1, 1, n, 0⟩], n + 1, 2 * n⟩
theorem sum_congr {n k : Nat} {X Y : Nat → Cx} : ∀ m, (∀ j, j ≤ m → X j = Y j) → sumC n k X m = sumC n k Y m
  | 0, h => h 0 (Nat.le_refl 0)
  | m + 1, h => by
    rw [sumC, sumC, sum_congr m (fun j hj => h j (by omega)), h (m + 1) (Nat.le_refl _)]
theorem direct_acts {n : Nat} {zs : List Cx} (h : zs.length = n) : ∀ i, i ≤ n → actsC ⟨6, n, 0, 1, n, n, 0⟩ (zs ++ List.replicate n z0) i = zs ++ ((List.range i).map (fun i => directC n i (fun j => zs.getD j z0)) ++ List.replicate (n - i) z0)
  | 0, _ => by simp [actsC]
  | i + 1, hi => by
    rw [actsC, direct_acts h i (by omega)]
    unfold actC
    rw [if_neg (show ¬ (6 : Int) = 1 by decide), if_neg (show ¬ (6 : Int) = 5 by decide), if_pos (show (6 : Int) = 6 from rfl)]
    simp only [Int.toNat_natCast, Int.toNat_zero, Nat.zero_add]
    have e1 : (1 : Int).toNat = 1 := rfl
    have e : directC n i (fun j => (zs ++ ((List.range i).map (fun i => directC n i (fun j => zs.getD j z0)) ++ List.replicate (n - i) z0)).getD (j * (1 : Int).toNat) z0) = directC n i (fun j => zs.getD j z0) := by
      refine sum_congr _ fun j hj => ?_
      rw [e1, Nat.mul_one]
      simp only [List.getD]
      rw [List.getElem?_append_left (by omega)]
    rw [e]
    obtain ⟨m, hm⟩ : ∃ m, n - i = m + 1 := ⟨n - i - 1, by omega⟩
    rw [hm, show n - (i + 1) = m by omega, List.set_append_right _ _ (by omega), List.set_append_right _ _ (by simp; omega), List.range_succ, List.map_append]
    simp [h, List.replicate_succ]
theorem load_zero {n : Nat} {zs : List Cx} (h : zs.length = n) : loadC (2 * n) 0 zs = zs ++ List.replicate n z0 := by
  simp [loadC, h]; omega
theorem fwd_direct {n : Nat} {zs : List Cx} (h : zs.length = n) : fwdC (bD n) zs = (List.range n).map (fun i => directC n i (fun j => zs.getD j z0)) := by
  have e1 : ((2 : Int) * (n : Int)).toNat = 2 * n := by omega
  unfold fwdC
  simp only [bD, e1, Int.toNat_zero, Int.toNat_natCast]
  rw [load_zero h]
  simp only [runC, List.foldl_cons, List.foldl_nil, Int.toNat_natCast]
  rw [direct_acts h n (Nat.le_refl n)]
  simp [h]
  exact List.take_of_length_le (by simp)
theorem fwd_fly2 (x y : Cx) : fwdC (bF 2) [x, y] = flyC [x, y] := rfl
theorem fwd_fly4 (x y u v : Cx) : fwdC (bF 4) [x, y, u, v] = flyC [x, y, u, v] := rfl
inductive Leaf : Nat → Bld → Prop
  | d1 : Leaf 1 (bD 1)
  | d2 : Leaf 2 (bD 2)
  | d4 : Leaf 4 (bD 4)
  | f2 : Leaf 2 (bF 2)
  | f4 : Leaf 4 (bF 4)
theorem Leaf.n {n : Nat} {b : Bld} (h : Leaf n b) : n = 1 ∨ n = 2 ∨ n = 4 := by cases h <;> simp
theorem Leaf.ln {n : Nat} {b : Bld} (h : Leaf n b) : b.ln = n := by cases h <;> rfl
theorem fwd_leaf {n : Nat} {b : Bld} (h : Leaf n b) {zs : List Cx} {us bs : Nat → Int} (hz : WhL zs n us bs) (hb : ∀ j, B44 (us j) ∧ B44 (bs j)) : WhL (fwdC b zs) n (fun k => (uvL n k us bs n).1) (fun k => (uvL n k us bs n).2) := by
  have D : ∀ {n : Nat}, (n = 1 ∨ n = 2 ∨ n = 4) → WhL zs n us bs → WhL (fwdC (bD n) zs) n (fun k => (uvL n k us bs n).1) (fun k => (uvL n k us bs n).2) := by
    intro n hn hz
    rw [fwd_direct hz.1]
    refine ⟨by simp, fun k hk => ?_⟩
    have e : ((List.range n).map (fun i => directC n i (fun j => zs.getD j z0))).getD k z0 = directC n k (fun j => zs.getD j z0) := by simp [List.getD, hk]
    rw [e]
    exact direct_whC hn hb hz.2
  have bd := fun j => (hb j)
  unfold B44 at bd
  cases h with
  | d1 => exact D (by decide) hz
  | d2 => exact D (by decide) hz
  | d4 => exact D (by decide) hz
  | f2 =>
    obtain ⟨hl, hz⟩ := hz
    match zs, hl with
    | [x, y], _ =>
      have h0 := hz 0 (by decide)
      have h1 := hz 1 (by decide)
      have b0 := bd 0
      have b1 := bd 1
      rw [fwd_fly2]
      refine ⟨rfl, fun k hk => ?_⟩
      match k, hk with
      | 0, _ =>
        have := h0.plus h1 (by omega) (by omega) (by omega) (by omega)
        show WhC (plusC x y) (uvL 2 0 us bs 2).1 (uvL 2 0 us bs 2).2
        simpa [uvL, uvS] using this
      | 1, _ =>
        have := h0.less h1 (by omega) (by omega) (by omega) (by omega)
        show WhC (lessC x y) (uvL 2 1 us bs 2).1 (uvL 2 1 us bs 2).2
        simpa [uvL, uvS] using this
  | f4 =>
    obtain ⟨hl, hz⟩ := hz
    match zs, hl with
    | [x, y, u, v], _ =>
      have h0 : WhC x (us 0) (bs 0) := hz 0 (by decide)
      have h1 : WhC y (us 1) (bs 1) := hz 1 (by decide)
      have h2 : WhC u (us 2) (bs 2) := hz 2 (by decide)
      have h3 : WhC v (us 3) (bs 3) := hz 3 (by decide)
      have b0 := bd 0
      have b1 := bd 1
      have b2 := bd 2
      have b3 := bd 3
      have p := h0.plus h2 (by omega) (by omega) (by omega) (by omega)
      have q := h0.less h2 (by omega) (by omega) (by omega) (by omega)
      have s := h1.plus h3 (by omega) (by omega) (by omega) (by omega)
      have t := h1.less h3 (by omega) (by omega) (by omega) (by omega)
      rw [fwd_fly4]
      refine ⟨rfl, fun k hk => ?_⟩
      match k, hk with
      | 0, _ =>
        have := p.plus s (by omega) (by omega) (by omega) (by omega)
        have e : uvL 4 0 us bs 4 = (us 0 + us 2 + (us 1 + us 3), bs 0 + bs 2 + (bs 1 + bs 3)) := by simp [uvL, uvS]; omega
        show WhC _ (uvL 4 0 us bs 4).1 (uvL 4 0 us bs 4).2
        rw [e]; exact this
      | 1, _ =>
        have := q.plus (t.minusI (by omega)) (by omega) (by omega) (by omega) (by omega)
        have e : uvL 4 1 us bs 4 = (us 0 - us 2 + (bs 1 - bs 3), bs 0 - bs 2 + -(us 1 - us 3)) := by simp [uvL, uvS]; omega
        show WhC _ (uvL 4 1 us bs 4).1 (uvL 4 1 us bs 4).2
        rw [e]; exact this
      | 2, _ =>
        have := p.less s (by omega) (by omega) (by omega) (by omega)
        have e : uvL 4 2 us bs 4 = (us 0 + us 2 - (us 1 + us 3), bs 0 + bs 2 - (bs 1 + bs 3)) := by simp [uvL, uvS]; omega
        show WhC _ (uvL 4 2 us bs 4).1 (uvL 4 2 us bs 4).2
        rw [e]; exact this
      | 3, _ =>
        have := q.plus (t.timesI (by omega)) (by omega) (by omega) (by omega) (by omega)
        have e : uvL 4 3 us bs 4 = (us 0 - us 2 + -(bs 1 - bs 3), bs 0 - bs 2 + (us 1 - us 3)) := by simp [uvL, uvS]; omega
        show WhC _ (uvL 4 3 us bs 4).1 (uvL 4 3 us bs 4).2
        rw [e]; exact this
theorem uv_back {n : Nat} (hn : n = 1 ∨ n = 2 ∨ n = 4) (us bs : Nat → Int) {k : Nat} (hk : k < n) : uvL n k (fun j => (uvL n j us bs n).1) (fun j => -(uvL n j us bs n).2) n = (us k * n, -(bs k * n)) := by
  rcases hn with rfl | rfl | rfl
  · match k, hk with
    | 0, _ => simp [uvL, uvS]
  · match k, hk with
    | 0, _ => simp [uvL, uvS]; omega
    | 1, _ => simp [uvL, uvS]; omega
  · match k, hk with
    | 0, _ => simp [uvL, uvS]; omega
    | 1, _ => simp [uvL, uvS]; omega
    | 2, _ => simp [uvL, uvS]; omega
    | 3, _ => simp [uvL, uvS]; omega
theorem mapC_getD {f : Cx → Cx} {l : List Cx} {k : Nat} (h : k < l.length) : (l.map f).getD k z0 = f (l.getD k z0) := by
  simp [List.getD, h]
theorem WhL.conj {zs : List Cx} {n : Nat} {us bs : Nat → Int} (h : WhL zs n us bs) (hb : ∀ j, -100000000000000 ≤ bs j ∧ bs j ≤ 100000000000000) : WhL (zs.map conjC) n us (fun j => -bs j) :=
  ⟨by rw [List.length_map]; exact h.1, fun k hk => by rw [mapC_getD (by rw [h.1]; exact hk)]; exact (h.2 k hk).conj (hb k)⟩
structure LeafOk (n : Nat) (b : Bld) : Prop where
  ok : PrgOk b (2 * n)
  okb : okB b
  ne : 1 ≤ b.steps.length
  ac : 1 ≤ cntS b.steps
  nf : b.full = false
theorem Leaf.ok {n : Nat} {b : Bld} (h : Leaf n b) : LeafOk n b := by
  cases h <;> exact ⟨⟨by decide, by decide, by decide, by decide, by decide, by decide, by decide, by decide⟩, ⟨by decide, by decide, by decide⟩, by decide, by decide, by decide⟩
theorem leaf_of {kd : Int} {n : Nat} (hn : n = 1 ∨ n = 2 ∨ n = 4) (h : kd = 1 ∨ (kd = 2 ∧ 1 < n)) : Leaf n (buildM (.mk kd n [])) ∧ (Ord.mk kd n []).len = n := by
  rcases hn with rfl | rfl | rfl <;> rcases h with rfl | ⟨rfl, h⟩
  · exact ⟨by rw [show buildM (.mk 1 ((1 : Nat) : Int) []) = bD 1 by kernel_rfl]; exact .d1, by kernel_rfl⟩
  · omega
  · exact ⟨by rw [show buildM (.mk 1 ((2 : Nat) : Int) []) = bD 2 by kernel_rfl]; exact .d2, by kernel_rfl⟩
  · exact ⟨by rw [show buildM (.mk 2 ((2 : Nat) : Int) []) = bF 2 by kernel_rfl]; exact .f2, by kernel_rfl⟩
  · exact ⟨by rw [show buildM (.mk 1 ((4 : Nat) : Int) []) = bD 4 by kernel_rfl]; exact .d4, by kernel_rfl⟩
  · exact ⟨by rw [show buildM (.mk 2 ((4 : Nat) : Int) []) = bF 4 by kernel_rfl]; exact .f4, by kernel_rfl⟩
theorem best4 {r : Ord × Int} (h : Best PU 4 r) : r.1 = .mk 2 ((4 : Nat) : Int) [] := by
  have e : (bestF PU 30 4).map (·.1) = some (.mk 2 ((4 : Nat) : Int) []) := by kernel_rfl
  cases hb : bestF PU 30 4 with
  | none => rw [hb] at e; cases e
  | some r' =>
    rw [hb] at e
    rw [h.unique ⟨30, hb⟩]
    exact Option.some.inj e
theorem Wh.of_cn {u : Nat} {a : Int} (h : Wh (cn u) a) : Wh (some u) a := by
  obtain ⟨s, e, hs⟩ := h
  unfold cn at e
  split at e
  · cases e
  · exact ⟨s, e, hs⟩
theorem Wh.eq_true {u v : Nat} {a : Int} (hx : Wh (cn u) a) (hy : Wh (cn v) a) (ha : Sm a) : (Ieee.double.order u v == some .eq) = true := by
  rw [Wh.order hx.of_cn hy.of_cn ha ha]; simp
theorem ceq_true {x y : CB} {a b : Int} (hx : WhC (cx x) a b) (hy : WhC (cx y) a b) (ha : Sm a) (hb : Sm b) : ceq x y = true := by
  unfold ceq
  rw [Wh.eq_true hx.1 hy.1 ha, Wh.eq_true hx.2 hy.2 hb]; rfl
theorem whC_int {a b : Int} (ha : Sm a) (hb : Sm b) : WhC (cx (FloatKind.f64.nearest a, FloatKind.f64.nearest b)) a b := ⟨Wh.cn_int ha, Wh.cn_int hb⟩
end Go.Tm
namespace Go.Tm
def hal : Fl := cn 4602678819172646912
theorem hal_some : hal = some 4602678819172646912 := by kernel_rfl
theorem hal_read : Ieee.double.read 4602678819172646912 = .number false 4503599627370496 (-53) := by kernel_rfl
theorem Wh.half {x : Fl} {a : Int} (hx : Wh x (2 * a)) (ha : Sm (2 * a)) : Wh (fmul x hal) a := by
  obtain ⟨u, rfl, hu⟩ := hx.dw ha
  obtain ⟨s, k, e, hs, -, -⟩ := hu
  rw [hal_some]
  show Wh (((Ieee.double.read u).product (Ieee.double.read 4602678819172646912)).map Ieee.double.write) _
  rw [e, hal_read]
  refine ⟨s ^^ false, ?_, fun h => ?_⟩
  · show some (Ieee.double.nearest (s ^^ false) ((2 * a).natAbs * 2 ^ k * 4503599627370496) (-(k : Int) + -53)) = _
    rw [show (-(k : Int) + -53) = -((k + 53 : Nat) : Int) by omega, nearest_wd (c := a.natAbs) _ (by unfold Sm at ha; omega)]
    rw [Int.natAbs_mul, Nat.pow_add, show (2 : Nat) ^ 53 = 2 * 4503599627370496 from rfl, show (2 : Int).natAbs = 2 from rfl]
    ac_rfl
  · rw [hs (by omega)]
    by_cases p : a < 0
    · simp [p]; omega
    · simp [p]; omega
def timesR (z : Cx) : Cx := (fmul z.1 hal, fmul z.2 hal)
theorem WhC.cast {z : Cx} {a b a' b' : Int} (h : WhC z a b) (e1 : a = a') (e2 : b = b') : WhC z a' b' := by subst e1 e2; exact h
def B46 (a : Int) : Prop := -70368744177664 ≤ a ∧ a ≤ 70368744177664
theorem WhC.half {z : Cx} {a b : Int} (hz : WhC z (2 * a) (2 * b)) (ha : B46 a) (hb : B46 b) : WhC (timesR z) a b :=
  ⟨hz.1.half (sm_of (by unfold B46 at ha; omega) (by unfold B46 at ha; omega)), hz.2.half (sm_of (by unfold B46 at hb; omega) (by unfold B46 at hb; omega))⟩
def evenC (a b : Cx) : Cx := timesR (plusC a b)
def oddC (a b : Cx) : Cx := timesR (lessC a b)
def moddC (x y : Cx) : Cx := timesR (minusI (lessC x y))
def rotI (m : Nat) (a b : Int) : Int × Int := if m = 0 then (a, b) else if m = 1 then (b, -a) else if m = 2 then (-a, -b) else (-b, a)
abbrev no0 : Nat → Int := fun _ => 0
def U40 (us : Nat → Int) : Prop := ∀ j, -1099511627776 ≤ us j ∧ us j ≤ 1099511627776
def fwdH (h : Nat) (z : Nat → Cx) (k : Nat) : Cx :=
  plusC (evenC (z (k % h)) (conjC (z ((h - k) % h)))) (twistF (moddC (z (k % h)) (conjC (z ((h - k) % h)))) (2 * h) k)
def invZ (h : Nat) (f : Nat → Cx) (k : Nat) : Cx :=
  plusC (evenC (f k) (conjC (f (h - k)))) (timesI (twistF (oddC (f k) (conjC (f (h - k)))) (2 * h) ((2 * h - k) % (2 * h))))
theorem inv_leafG {n : Nat} {b : Bld} (h : Leaf n b) {zs : List Cx} {us bs : Nat → Int} (h1 : WhL zs n (fun k => (uvL n k us bs n).1) (fun k => (uvL n k us bs n).2)) (hb : ∀ j, (-1099511627776 ≤ us j ∧ us j ≤ 1099511627776) ∧ -1099511627776 ≤ bs j ∧ bs j ≤ 1099511627776) : WhL (invC b zs) n us bs := by
  have hn := h.n
  have h2 := h1.conj (fun j => by have := uv_bd (n := n) (k := j) hb n (by omega); omega)
  have h3 := fwd_leaf h h2 (fun j => by have := uv_bd (n := n) (k := j) hb n (by omega); unfold B44; omega)
  refine ⟨by simp only [invC, List.length_map]; exact h3.1, fun k hk => ?_⟩
  have h4 := h3.2 k hk
  simp only at h4
  rw [uv_back hn us bs hk] at h4
  have hk2 := hb k
  unfold invC
  rw [mapC_getD (by rw [List.length_map, h3.1]; exact hk), mapC_getD (by rw [h3.1]; exact hk), h.ln]
  have hnn : (n : Int) = 1 ∨ (n : Int) = 2 ∨ (n : Int) = 4 := by omega
  have b1 : -100000000000000 ≤ us k * (n : Int) ∧ us k * (n : Int) ≤ 100000000000000 := by rcases hnn with e | e | e <;> rw [e] <;> omega
  have b2 : -100000000000000 ≤ bs k * (n : Int) ∧ bs k * (n : Int) ≤ 100000000000000 := by rcases hnn with e | e | e <;> rw [e] <;> omega
  have h5 := h4.conj (by omega)
  rw [Int.neg_neg] at h5
  exact h5.over (by omega) rfl rfl (by omega) (by omega) (sm_of (by omega) (by omega)) (sm_of (by omega) (by omega))
theorem best1 {r : Ord × Int} (h : Best PU 1 r) : r.1 = .mk 1 ((1 : Nat) : Int) [] := by
  have e : (bestF PU 30 1).map (·.1) = some (.mk 1 ((1 : Nat) : Int) []) := by kernel_rfl
  cases hb : bestF PU 30 1 with
  | none => rw [hb] at e; cases e
  | some r' =>
    rw [hb] at e
    rw [h.unique ⟨30, hb⟩]
    exact Option.some.inj e
theorem best2 {r : Ord × Int} (h : Best PU 2 r) : r.1 = .mk 2 ((2 : Nat) : Int) [] := by
  have e : (bestF PU 30 2).map (·.1) = some (.mk 2 ((2 : Nat) : Int) []) := by kernel_rfl
  cases hb : bestF PU 30 2 with
  | none => rw [hb] at e; cases e
  | some r' =>
    rw [hb] at e
    rw [h.unique ⟨30, hb⟩]
    exact Option.some.inj e
theorem best_leaf {n : Nat} (hn : n = 1 ∨ n = 2 ∨ n = 4) {r : Ord × Int} (h : Best PU n r) : Leaf n (plnM r.1).b := by
  rcases hn with rfl | rfl | rfl
  · rw [best1 h]; exact (leaf_of (kd := 1) (.inl rfl) (.inl rfl)).1
  · rw [best2 h]; exact (leaf_of (kd := 2) (.inr (.inl rfl)) (.inr ⟨rfl, by decide⟩)).1
  · rw [best4 h]; exact (leaf_of (kd := 2) (.inr (.inr rfl)) (.inr ⟨rfl, by decide⟩)).1
end Go.Tm
namespace Go.Tm
open Go.RowKit Go.Proofs
theorem plan_NewL (n : Nat) (hn : n = 1 ∨ n = 2 ∨ n = 4) (w : World) (st : StT w) (tab : TabB w.heap.size w) (hG : 12 ≤ w.heap.size) :
    Calls Tryz.prog 69 #[.int .i64 n] w (Ret fun v w' => ∃ p P, v = .tuple #[.pointer (some ⟨p, 0, none⟩), .nilIface] ∧ PlnR w.heap.size w'.heap.size w' p P ∧ Leaf n P.b ∧ Ch No w w') := by
  refine (plan_New n (by omega) (by omega) (hasP24 n (by omega) (by omega)) w st tab hG).mono ?_
  rintro e w' ⟨v, rfl, p, rr, rfl, hr, h1, h2⟩
  exact ⟨_, rfl, p, _, rfl, h1, best_leaf hn hr, h2⟩
structure N3 (n : Nat) : Prop where
  h : n = 1 ∨ n = 2 ∨ n = 4
structure HalfOk (n : Nat) (us : Nat → Int) (zs : List CB) : Prop where
  len : zs.length = n / 2 + 1
  get : ∀ k, k ≤ n / 2 → WhC (cx (zs.getD k (0, 0))) (uvL n k us no0 n).1 (uvL n k us no0 n).2
structure FlsOk (n : Nat) (us : Nat → Int) (xs : List Nat) : Prop where
  len : xs.length = n
  get : ∀ k, k < n → Wh (cn (xs.getD k 0)) (us k)
structure CxsOk (n : Nat) (us : Nat → Int) (zs : List CB) : Prop where
  len : zs.length = n
  get : ∀ k, k < n → WhC (cx (zs.getD k (0, 0))) (uvL n k us no0 n).1 (uvL n k us no0 n).2
structure CxU (n : Nat) (us : Nat → Int) (m k : Nat) (zs : List CB) : Prop where
  len : zs.length = m
  get : ∀ i, i < k → WhC (cx (zs.getD i (0, 0))) (uvL n i us no0 n).1 (uvL n i us no0 n).2
theorem CxU.zero (n : Nat) (us : Nat → Int) (m : Nat) : CxU n us m 0 (List.replicate m (0, 0)) := ⟨by simp, fun i h => absurd h (by omega)⟩
theorem CxU.step {n m k : Nat} {us : Nat → Int} {zs : List CB} {z : CB} (h : CxU n us m k zs) (hk : k < m) (hz : WhC (cx z) (uvL n k us no0 n).1 (uvL n k us no0 n).2) : CxU n us m (k + 1) (zs.set k z) := by
  refine ⟨by rw [List.length_set]; exact h.len, fun i hi => ?_⟩
  rw [set_getD (by rw [h.len]; exact hk)]
  by_cases e : i = k
  · subst e; rw [if_pos rfl]; exact hz
  · rw [if_neg e]; exact h.get i (by omega)
theorem append_getD {α : Type} {zs : List α} {z d : α} {m i : Nat} (h : zs.length = m) : (zs ++ [z]).getD i d = if i = m then z else zs.getD i d := by
  subst h
  simp only [List.getD]
  by_cases e : i = zs.length
  · subst e; simp
  · rw [if_neg e, List.getElem?_append]
    by_cases l : i < zs.length
    · rw [if_pos l]
    · rw [if_neg l, List.getElem?_eq_none (by simp; omega), List.getElem?_eq_none (by omega)]
theorem CxU.push {n k : Nat} {us : Nat → Int} {zs : List CB} {z : CB} (h : CxU n us k k zs) (hz : WhC (cx z) (uvL n k us no0 n).1 (uvL n k us no0 n).2) : CxU n us (k + 1) (k + 1) (zs ++ [z]) := by
  refine ⟨by simp [h.len], fun i hi => ?_⟩
  rw [append_getD h.len]
  by_cases e : i = k
  · subst e; rw [if_pos rfl]; exact hz
  · rw [if_neg e]; exact h.get i (by omega)
structure PairU (h : Nat) (us : Nat → Int) (k : Nat) (zs : List CB) : Prop where
  len : zs.length = h
  get : ∀ i, i < k → WhC (cx (zs.getD i (0, 0))) (uvL h i (fun j => us (2 * j)) (fun j => us (2 * j + 1)) h).1 (uvL h i (fun j => us (2 * j)) (fun j => us (2 * j + 1)) h).2
theorem PairU.zero (h : Nat) (us : Nat → Int) : PairU h us 0 (List.replicate h (0, 0)) := ⟨by simp, fun i h => absurd h (by omega)⟩
theorem PairU.step {h k : Nat} {us : Nat → Int} {zs : List CB} {z : CB} (p : PairU h us k zs) (hk : k < h) (hz : WhC (cx z) (uvL h k (fun j => us (2 * j)) (fun j => us (2 * j + 1)) h).1 (uvL h k (fun j => us (2 * j)) (fun j => us (2 * j + 1)) h).2) : PairU h us (k + 1) (zs.set k z) := by
  refine ⟨by rw [List.length_set]; exact p.len, fun i hi => ?_⟩
  rw [set_getD (by rw [p.len]; exact hk)]
  by_cases e : i = k
  · subst e; rw [if_pos rfl]; exact hz
  · rw [if_neg e]; exact p.get i (by omega)
abbrev prC (xs : List Nat) : Nat → CB := fun j => (xs.getD (2 * (j : Int)).toNat 0, xs.getD (2 * (j : Int) + 1).toNat 0)
end Go.Tm
namespace Go.Tm
open Go.RowKit Go.Proofs
section
variable {P : Program} {n : Fr} {k : K} {w : World} {d : Option Tmp} {ty : TypeId} {pos : String} {aft : Array Edge} {g : Option (Nat × Bool)}
end
structure FlU (us : Nat → Int) (m : Nat) (os : List Nat) : Prop where
  len : os.length = m
  get : ∀ i, i < m → Wh (cn (os.getD i 0)) (us i)
theorem FlU.two {us : Nat → Int} {j : Nat} {os : List Nat} {a b : Nat} (h : FlU us (2 * j) os) (hz : WhC (cx (a, b)) (us (2 * j)) (us (2 * j + 1))) : FlU us (2 * (j + 1)) (os ++ [a, b]) := by
  refine ⟨by simp [h.len]; omega, fun i hi => ?_⟩
  have e : os ++ [a, b] = (os ++ [a]) ++ [b] := by simp
  rw [e, append_getD (m := 2 * j + 1) (by simp [h.len]), append_getD h.len]
  by_cases p : i = 2 * j + 1
  · subst p; rw [if_pos rfl]; exact hz.2
  · rw [if_neg p]
    by_cases q : i = 2 * j
    · subst q; rw [if_pos rfl]; exact hz.1
    · rw [if_neg q]; exact h.get i (by omega)
structure FullU (h : Nat) (us : Nat → Int) (j : Nat) (os : List CB) : Prop where
  len : os.length = h + 1 + j
  get : ∀ i, i < h + 1 + j → WhC (cx (os.getD i (0, 0))) (uvL (2 * h) i us no0 (2 * h)).1 (uvL (2 * h) i us no0 (2 * h)).2
theorem FullU.push {h j : Nat} {us : Nat → Int} {os : List CB} {z : CB} (f : FullU h us j os) (hz : WhC (cx z) (uvL (2 * h) (h + 1 + j) us no0 (2 * h)).1 (uvL (2 * h) (h + 1 + j) us no0 (2 * h)).2) : FullU h us (j + 1) (os ++ [z]) := by
  refine ⟨by simp [f.len]; omega, fun i hi => ?_⟩
  rw [append_getD f.len]
  by_cases e : i = h + 1 + j
  · subst e; rw [if_pos rfl]; exact hz
  · rw [if_neg e]; exact f.get i (by omega)
abbrev xyC (xs ys : List Nat) : Nat → CB := fun j => (xs.getD j 0, ys.getD j 0)
end Go.Tm
namespace Go.Tm
open Go.RowKit Go.Proofs
abbrev uI (al : List Int) : Nat → Int := fun j => al.getD j 0
theorem U40.no0 {us : Nat → Int} (h : U40 us) (j : Nat) : (-1099511627776 ≤ us j ∧ us j ≤ 1099511627776) ∧ -1099511627776 ≤ no0 j ∧ no0 j ≤ 1099511627776 := ⟨h j, by simp, by simp⟩
set_option maxRecDepth 100000 in
theorem hand_Equal (SA SB : Nat → Prop) (A B : Option Addr) (la lb ca cb : Nat) (xs ys : List CB) (w : World) (sa : SlR SA w A la 1 (xs.map cxV)) (sb : SlR SB w B lb 1 (ys.map cxV)) (hl : la = lb) (hl2 : la ≤ 1000000) (he : ∀ j, j < la → ceq (xs.getD j (0, 0)) (ys.getD j (0, 0)) = true) :
  Calls Tryz.prog 19 #[.slice A la ca, .slice B lb cb] w (Ret (fun v w' => v = .bool true ∧ Ch No w w')) := by
 refine calls_of_VC (args := [.slice A la ca, .slice B lb cb]) Tryz.func19 rfl Tryz.ntmps19 rfl (VC.seq (VC.region (VO.mv (Rn.assign rfl) rfl rfl rfl (VO.nil (VQ.then_code (VC.seq (VC.seq ?_)))))))
 refine VC.region (VO.mv (Rn.move rfl) rfl rfl rfl (VO.mv (Rn.len Tryz.underlying39 rfl) rfl rfl rfl (VO.mv (Rn.move rfl) rfl rfl rfl (VO.mv (Rn.len Tryz.underlying39 rfl) rfl rfl rfl (VO.mv (Rn.neq rfl rfl) rfl rfl rfl (VO.nil (VQ.then_code ?_)))))))
 refine VC.cond_if rfl (fun hc1 => ?_) (fun hc1 => ?_)
 ·
  omega
 ·
  refine VC.skip (VQ.then_code (VC.seq (VC.seq (VC.region (VO.mv (Rn.move rfl) rfl rfl rfl (VO.mv (Rn.len Tryz.underlying39 rfl) rfl rfl rfl (VO.mv (Rn.move rfl) rfl rfl rfl ?_)))))))
  refine VO.nil (VQ.then_code (VC.block (VC.loopS (σ := Nat) (fun j => [(0, .slice A la ca), (1, .slice B lb cb), (12, .int .i64 la), (13, .int .i64 j)]) (fun j w' => j ≤ la ∧ w.heap.size ≤ w'.heap.size ∧ SlR SA w' A la 1 (xs.map cxV) ∧ SlR SB w' B lb 1 (ys.map cxV) ∧ Ch (No) w w') (fun j => la - j) 0 ?_ ⟨rfl, rfl, rfl, rfl, trivial⟩ ?_)))
  · exact ⟨(by omega), (Nat.le_refl _), sa, sb, (Ch.refl (No) w)⟩
  rintro j w1 ⟨hj, hsz1, sa_1, sb_1, CH_1⟩
  show VC _ _ _ _ [(0, .slice A la ca), (1, .slice B lb cb), (12, .int .i64 la), (13, .int .i64 j)] _
  refine VC.seq (VC.region (VO.mv (Rn.lss rfl rfl) rfl rfl rfl (VO.nil (VQ.then_code (VC.seq (VC.cond_if rfl (fun hc2 => ?_) (fun hc2 => ?_)))))))
  ·
   refine VC.skip (VQ.then_code (VC.seq (VC.block (VC.seq (VC.region (VO.mv (Rn.move rfl) rfl rfl rfl (VO.mv (Rn.assign rfl) rfl rfl rfl ?_)))))))
   refine VO.nil (VQ.then_code (VC.seq (VC.draws 9 [(0, true), (1, true), (2, true), (3, true), (4, true), (5, true), (6, true), (7, true), (8, true)] (fun w1 w' => Ch (No) w1 w') mixed (by kernel_rfl) (fun _ _ => Ch.refl _ _) ?_)))
   intro w2 D2
   have c2 := Ch.of_drew D2; have z2 := c2.size
   have sa_2 := sa_1.keep c2
   have sb_2 := sb_1.keep c2
   refine VH.mv (fun w' hS => Rn.move rfl) rfl rfl rfl rfl (VH.mv (fun w' hS => Rn.move rfl) rfl rfl rfl rfl (VH.mv (fun w' hS => Rn.indexS Tryz.underlying39 Tryz.sizeOf53 rfl rfl ((sa_2.keep hS).ne (by omega)) (by omega) (by omega)) rfl rfl rfl rfl (VH.mv (fun w' hS => Rn.load Tryz.isAgg53 rfl ((sa_2.keep hS).getC (by omega) (by omega))) rfl rfl rfl rfl (VH.mv (fun w' hS => Rn.move rfl) rfl rfl rfl rfl (VH.mv (fun w' hS => Rn.move rfl) rfl rfl rfl rfl (VH.mv (fun w' hS => Rn.indexS Tryz.underlying39 Tryz.sizeOf53 rfl rfl ((sb_2.keep hS).ne (by omega)) (by omega) (by omega)) rfl rfl rfl rfl (VH.mv (fun w' hS => Rn.load Tryz.isAgg53 rfl ((sb_2.keep hS).getC (by omega) (by omega))) rfl rfl rfl rfl ?_)))))))
   refine VH.mv (fun w' hS => Rn.cneqF rfl rfl (he j (by omega))) rfl rfl rfl rfl (VH.done (VO.nil (VQ.noPanic (VQ.then_code (VC.cond_false rfl (VC.skip (VQ.block_normal ?_)))))))
   refine VQ.then_code (VC.region ?_)
   refine VO.mv (Rn.add rfl rfl (by rw [IntKind.wrap_i64]; omega)) rfl rfl rfl ?_
   refine VO.mv (Rn.move rfl) rfl rfl rfl (VO.nil ?_)
   refine VQ.round (j + 1) (by first | omega | (dsimp only; omega)) ?_ ⟨rfl, rfl, rfl, rfl, trivial⟩
   have CH_2 := CH_1.and c2
   exact ⟨(by omega), (by omega), sa_2, sb_2, CH_2⟩
  ·
   refine VC.exit (VQ.then_exit (VQ.then_exit (VQ.block_exit (VQ.then_code (VC.seq (VC.region (VO.mv (Rn.assign rfl) rfl rfl rfl ?_)))))))
   refine VO.nil (VQ.then_code (VC.ret (VQ.ret1 rfl rfl (Ret.mk ?_))))
   exact ⟨rfl, CH_1⟩
end Go.Tm
namespace Go.Tm
open Go.RowKit
abbrev Gs := Int × Int
def gV (g : Gs) : List Value := [.int .i64 g.1, .int .i64 g.2]
def gVs : List Gs → List Value
  | [] => []
  | g :: gs => .int .i64 g.1 :: .int .i64 g.2 :: gVs gs
theorem gVs_len : ∀ gs : List Gs, (gVs gs).length = gs.length * 2
  | [] => rfl
  | _ :: gs => by simp only [gVs, List.length_cons, gVs_len gs]; omega
abbrev GR (e : TypeId) (w : World) (r : Nat) (A : Option Addr) (l c : Nat) (gs : List Gs) : Prop := Ow w r e 2 A l c (gVs gs)
theorem GR.len {e : TypeId} {w : World} {r : Nat} {A : Option Addr} {l c : Nat} {gs : List Gs} (h : GR e w r A l c gs) : gs.length = l := by
  have := Ow.len h
  rw [gVs_len] at this; omega
section
variable {S : Nat → Prop} {w : World} {A : Option Addr} {l : Nat} {gs : List Gs}
end
section
variable {P : Program} {n : Fr} {k : K} {w : World} {d : Option Tmp} {ty : TypeId} {pos : String} {aft : Array Edge} {g : Option (Nat × Bool)}
theorem Rn.maxI {t t' : TypeId} {x y : Operand} {q : IntKind} {a b : Int} (hx : ev k x = some (.int q a)) (hy : ev k y = some (.int q b)) :
    Rn P n k w { dst := d, op := .call { callee := .builtin .max, args := #[x, y], argTypes := #[t, t'] }, type := ty, pos := pos, after := aft, guard := g } (.int q (if a < b then b else a)) :=
  fun ac ha => by simp [execOp, resolve, invoke, builtin, ha.eval hx, ha.eval hy, Builtin.max_, Builtin.max2]
end
end Go.Tm
namespace Go.Tm
def isum (f : Nat → Int) : Nat → Int
  | 0 => 0
  | n + 1 => isum f n + f n
def nsum (f : Nat → Nat) : Nat → Nat
  | 0 => 0
  | n + 1 => nsum f n + f n
theorem isum_congr {f g : Nat → Int} : ∀ n, (∀ i, i < n → f i = g i) → isum f n = isum g n
  | 0, _ => rfl
  | n + 1, h => by rw [isum, isum, isum_congr n (fun i hi => h i (by omega)), h n (by omega)]
theorem isum_win (h : Nat → Int) (lo hi : Nat) : ∀ n, isum (fun i => if lo ≤ i ∧ i < hi then h i else 0) n = isum (fun i => h (lo + i)) (min n hi - lo)
  | 0 => by rw [show min 0 hi - lo = 0 by omega]; rfl
  | n + 1 => by
    rw [isum, isum_win h lo hi n]
    by_cases c : lo ≤ n ∧ n < hi
    · rw [if_pos c, show min (n + 1) hi - lo = (min n hi - lo) + 1 by omega, isum, show lo + (min n hi - lo) = n by omega]
    · rw [if_neg c, show min (n + 1) hi - lo = min n hi - lo by omega]; omega
theorem isum_bd {f : Nat → Int} : ∀ n, (isum f n).natAbs ≤ nsum (fun i => (f i).natAbs) n
  | 0 => by simp [isum, nsum]
  | n + 1 => by have := isum_bd (f := f) n; rw [isum, nsum]; omega
theorem nsum_mono {f : Nat → Nat} {m : Nat} : ∀ n, m ≤ n → nsum f m ≤ nsum f n
  | 0, h => by rw [show m = 0 by omega]; exact Nat.le_refl _
  | n + 1, h => by
    by_cases c : m = n + 1
    · rw [c]; exact Nat.le_refl _
    · have := nsum_mono (f := f) (m := m) n (by omega)
      show _ ≤ nsum f n + f n; omega
theorem nsum_le {f g : Nat → Nat} {M : Nat} : ∀ n, (∀ i, i < n → f i ≤ g i * M) → nsum f n ≤ nsum g n * M
  | 0, _ => Nat.zero_le _
  | n + 1, h => by
    have h1 := nsum_le (f := f) (g := g) (M := M) n (fun i hi => h i (by omega))
    have h2 := h n (by omega)
    rw [nsum, nsum, Nat.add_mul]; omega
theorem nsum_shift {f : Nat → Nat} (lo : Nat) : ∀ n, nsum f lo + nsum (fun i => f (lo + i)) n = nsum f (lo + n)
  | 0 => by simp [nsum]
  | n + 1 => by
    have := nsum_shift (f := f) lo n
    show nsum f lo + (nsum (fun i => f (lo + i)) n + f (lo + n)) = nsum f (lo + n) + f (lo + n)
    omega
theorem nsum_el {f : Nat → Nat} {i n : Nat} (h : i < n) : f i ≤ nsum f n := by
  have := nsum_mono (f := f) (m := i + 1) n (by omega)
  rw [nsum] at this; omega
abbrev gRe (a b c d : Int) : Int := a * c - b * d
abbrev gIm (a b c d : Int) : Int := a * d + b * c
theorem g_bd (a b c d : Int) : (gRe a b c d).natAbs ≤ (a.natAbs + b.natAbs) * (c.natAbs + d.natAbs) ∧ (gIm a b c d).natAbs ≤ (a.natAbs + b.natAbs) * (c.natAbs + d.natAbs) := by
  have e : (a.natAbs + b.natAbs) * (c.natAbs + d.natAbs) = (a * c).natAbs + (a * d).natAbs + ((b * c).natAbs + (b * d).natAbs) := by
    rw [Nat.add_mul, Nat.mul_add, Nat.mul_add, Int.natAbs_mul, Int.natAbs_mul, Int.natAbs_mul, Int.natAbs_mul]
  rw [e]
  unfold gRe gIm
  constructor <;> omega
structure GB (us vs : Nat → Int) (n : Nat) : Prop where
  le : nsum (fun j => (us j).natAbs + (vs j).natAbs) n ≤ 33554432
theorem GB.el {us vs : Nat → Int} {n j : Nat} (h : GB us vs n) (hj : j < n) : (us j).natAbs + (vs j).natAbs ≤ 33554432 :=
  Nat.le_trans (nsum_el (f := fun j => (us j).natAbs + (vs j).natAbs) hj) h.le
structure Tame (f : Nat → Int) (n : Nat) : Prop where
  le : nsum (fun j => (f j).natAbs) n ≤ 1125899906842624
theorem Tame.el {f : Nat → Int} {n j : Nat} (h : Tame f n) (hj : j < n) : (f j).natAbs ≤ 1125899906842624 := Nat.le_trans (nsum_el (f := fun j => (f j).natAbs) hj) h.le
theorem Tame.sum {f : Nat → Int} {n j : Nat} (h : Tame f n) (hj : j ≤ n) : (isum f j).natAbs ≤ 1125899906842624 := Nat.le_trans (isum_bd j) (Nat.le_trans (nsum_mono n hj) h.le)
theorem Tame.sm {f : Nat → Int} {n : Nat} (h : Tame f n) : Sm (isum f n) := by have := h.sum (Nat.le_refl n); unfold Sm; omega
theorem GB.tame {us vs xs ys : Nat → Int} {n m lo : Nat} (h : GB us vs n) (hm : lo + m ≤ n) {c d : Nat → Int} (hc : ∀ i, i < m → (c i).natAbs + (d i).natAbs ≤ 33554432) : Tame (fun i => gRe (us (lo + i)) (vs (lo + i)) (c i) (d i)) m ∧ Tame (fun i => gIm (us (lo + i)) (vs (lo + i)) (c i) (d i)) m := by
  have h1 := nsum_shift (f := fun j => (us j).natAbs + (vs j).natAbs) lo m
  have h2 := nsum_mono (f := fun j => (us j).natAbs + (vs j).natAbs) (m := lo + m) n hm
  have h3 := h.le
  have h4 : nsum (fun i => (us (lo + i)).natAbs + (vs (lo + i)).natAbs) m * 33554432 ≤ 33554432 * 33554432 := Nat.mul_le_mul_right _ (by omega)
  refine ⟨⟨Nat.le_trans (nsum_le (g := fun i => (us (lo + i)).natAbs + (vs (lo + i)).natAbs) (M := 33554432) m fun i hi => ?_) h4⟩, ⟨Nat.le_trans (nsum_le (g := fun i => (us (lo + i)).natAbs + (vs (lo + i)).natAbs) (M := 33554432) m fun i hi => ?_) h4⟩⟩
  · exact Nat.le_trans (g_bd _ _ _ _).1 (Nat.mul_le_mul_left _ (hc i hi))
  · exact Nat.le_trans (g_bd _ _ _ _).2 (Nat.mul_le_mul_left _ (hc i hi))
def linT (lb : Nat) (F : Nat → Nat → Int) (k i : Nat) : Int := if i ≤ k ∧ k - i < lb then F i (k - i) else 0
def lin (lb : Nat) (F : Nat → Nat → Int) (m k : Nat) : Int := isum (linT lb F k) m
def linS (lb : Nat) (F : Nat → Nat → Int) (i j k : Nat) : Int := lin lb F i k + if i ≤ k ∧ k - i < j then F i (k - i) else 0
theorem lin_win {la lb k : Nat} (F : Nat → Nat → Int) (hb : 0 < lb) (ha : 0 < la) : isum (fun i => F ((k + 1 - lb) + i) (k - ((k + 1 - lb) + i))) (min (k + 1) la - (k + 1 - lb)) = lin lb F la k := by
  have h := isum_win (fun i => F i (k - i)) (k + 1 - lb) (k + 1) la
  rw [show min la (k + 1) = min (k + 1) la by omega] at h
  rw [← h]
  unfold lin
  refine isum_congr la fun i hi => ?_
  unfold linT
  by_cases c : i ≤ k ∧ k - i < lb
  · rw [if_pos c, if_pos (by omega)]
  · rw [if_neg c, if_neg (by omega)]
def cyc (n : Nat) (F : Nat → Nat → Int) (k : Nat) : Int := isum (fun j => F j ((k + n - j) % n)) n
def fold (n : Nat) (L : Nat → Int) (i k : Nat) : Int := (if k < i then L k else 0) + if k + n < i then L (k + n) else 0
structure WhU (n : Nat) (us vs : Nat → Int) (k : Nat) (zs : List CB) : Prop where
  len : zs.length = n
  get : ∀ i, i < k → WhC (cx (zs.getD i (0, 0))) (us i) (vs i)
theorem WhU.zero (n : Nat) (us vs : Nat → Int) : WhU n us vs 0 (List.replicate n (0, 0)) := ⟨by simp, fun i h => absurd h (by omega)⟩
theorem WhU.step {n k : Nat} {us vs : Nat → Int} {zs : List CB} {z : CB} (h : WhU n us vs k zs) (hk : k < n) (hz : WhC (cx z) (us k) (vs k)) : WhU n us vs (k + 1) (zs.set k z) := by
  refine ⟨by rw [List.length_set]; exact h.len, fun i hi => ?_⟩
  have hl := h.len
  by_cases c : k = i
  · subst c
    simp only [List.getD, List.getElem?_set]
    simpa [show k < zs.length by omega] using hz
  · have := h.get i (by omega)
    simp only [List.getD, List.getElem?_set] at this ⊢
    simpa [c] using this
theorem WhU.push {k : Nat} {us vs : Nat → Int} {zs : List CB} {z : CB} (h : WhU k us vs k zs) (hz : WhC (cx z) (us k) (vs k)) : WhU (k + 1) us vs (k + 1) (zs ++ [z]) := by
  have hl := h.len
  refine ⟨by simp [hl], fun i hi => ?_⟩
  by_cases c : i = k
  · subst c
    simp only [List.getD]
    rw [List.getElem?_append_right (by omega), hl]
    simpa using hz
  · have := h.get i (by omega)
    simp only [List.getD] at this ⊢
    rw [List.getElem?_append_left (by omega)]
    exact this
theorem WhU.cast {n k : Nat} {us vs us' vs' : Nat → Int} {zs : List CB} (h : WhU n us vs k zs) (e : ∀ i, i < k → us i = us' i ∧ vs i = vs' i) : WhU n us' vs' k zs :=
  ⟨h.len, fun i hi => by have := h.get i hi; rwa [(e i hi).1, (e i hi).2] at this⟩
theorem WhC.mulG {z w : Cx} {a b c d : Int} (hz : WhC z a b) (hw : WhC w c d) (h1 : a.natAbs + b.natAbs ≤ 33554432) (h2 : c.natAbs + d.natAbs ≤ 33554432) : WhC (mulC z w) (gRe a b c d) (gIm a b c d) := by
  have key : ∀ p q : Int, p.natAbs ≤ 33554432 → q.natAbs ≤ 33554432 → (p * q).natAbs ≤ 1125899906842624 := fun p q hp hq => by
    rw [Int.natAbs_mul]; exact Nat.mul_le_mul hp hq
  have k1 := key a c (by omega) (by omega)
  have k2 := key b d (by omega) (by omega)
  have k3 := key a d (by omega) (by omega)
  have k4 := key b c (by omega) (by omega)
  have sa : Sm a := by unfold Sm; omega
  have sb : Sm b := by unfold Sm; omega
  have sc : Sm c := by unfold Sm; omega
  have sd : Sm d := by unfold Sm; omega
  exact ⟨(hz.1.mul hw.1 sa sc (by unfold Sm; omega)).sub (hz.2.mul hw.2 sb sd (by unfold Sm; omega)) (by unfold Sm; omega) (by unfold Sm; omega) (by unfold Sm; omega), (hz.1.mul hw.2 sa sd (by unfold Sm; omega)).add (hz.2.mul hw.1 sb sc (by unfold Sm; omega)) (by unfold Sm; omega) (by unfold Sm; omega) (by unfold Sm; omega)⟩
theorem wh_zero : Wh (cn 0) 0 := ⟨false, by kernel_rfl, by decide⟩
theorem Wh.zero (a : Int) (h : a = 0) : Wh (cn 0) a := by subst h; exact wh_zero
abbrev fR (us vs xs ys : Nat → Int) (i j : Nat) : Int := gRe (us i) (vs i) (xs j) (ys j)
abbrev fI (us vs xs ys : Nat → Int) (i j : Nat) : Int := gIm (us i) (vs i) (xs j) (ys j)
theorem conv_uv {n k : Nat} (hn : n = 1 ∨ n = 2 ∨ n = 4) (us vs xs ys : Nat → Int) (hk : k < n) :
    gRe (uvL n k us vs n).1 (uvL n k us vs n).2 (uvL n k xs ys n).1 (uvL n k xs ys n).2 = (uvL n k (cyc n (fR us vs xs ys)) (cyc n (fI us vs xs ys)) n).1 ∧
    gIm (uvL n k us vs n).1 (uvL n k us vs n).2 (uvL n k xs ys n).1 (uvL n k xs ys n).2 = (uvL n k (cyc n (fR us vs xs ys)) (cyc n (fI us vs xs ys)) n).2 := by
  rcases hn with rfl | rfl | rfl
  · obtain rfl : k = 0 := by omega
    simp [uvL, uvS, cyc, isum]
  · match k, hk with
    | 0, _ => simp only [uvL, uvS, cyc, isum, fR, fI, gRe, gIm, Nat.reduceMul, Nat.reduceDiv, Nat.reduceMod, Nat.reduceAdd, Nat.reduceSub, Nat.reduceEqDiff, if_true, if_false, Int.add_mul, Int.mul_add, Int.sub_mul, Int.mul_sub, Int.neg_mul, Int.mul_neg, Int.zero_mul, Int.mul_zero]; constructor <;> omega
    | 1, _ => simp only [uvL, uvS, cyc, isum, fR, fI, gRe, gIm, Nat.reduceMul, Nat.reduceDiv, Nat.reduceMod, Nat.reduceAdd, Nat.reduceSub, Nat.reduceEqDiff, if_true, if_false, Int.add_mul, Int.mul_add, Int.sub_mul, Int.mul_sub, Int.neg_mul, Int.mul_neg, Int.zero_mul, Int.mul_zero]; constructor <;> omega
  · match k, hk with
    | 0, _ => simp only [uvL, uvS, cyc, isum, fR, fI, gRe, gIm, Nat.reduceMul, Nat.reduceDiv, Nat.reduceMod, Nat.reduceAdd, Nat.reduceSub, Nat.reduceEqDiff, if_true, if_false, Int.add_mul, Int.mul_add, Int.sub_mul, Int.mul_sub, Int.neg_mul, Int.mul_neg, Int.zero_mul, Int.mul_zero]; constructor <;> omega
    | 1, _ => simp only [uvL, uvS, cyc, isum, fR, fI, gRe, gIm, Nat.reduceMul, Nat.reduceDiv, Nat.reduceMod, Nat.reduceAdd, Nat.reduceSub, Nat.reduceEqDiff, if_true, if_false, Int.add_mul, Int.mul_add, Int.sub_mul, Int.mul_sub, Int.neg_mul, Int.mul_neg, Int.zero_mul, Int.mul_zero]; constructor <;> omega
    | 2, _ => simp only [uvL, uvS, cyc, isum, fR, fI, gRe, gIm, Nat.reduceMul, Nat.reduceDiv, Nat.reduceMod, Nat.reduceAdd, Nat.reduceSub, Nat.reduceEqDiff, if_true, if_false, Int.add_mul, Int.mul_add, Int.sub_mul, Int.mul_sub, Int.neg_mul, Int.mul_neg, Int.zero_mul, Int.mul_zero]; constructor <;> omega
    | 3, _ => simp only [uvL, uvS, cyc, isum, fR, fI, gRe, gIm, Nat.reduceMul, Nat.reduceDiv, Nat.reduceMod, Nat.reduceAdd, Nat.reduceSub, Nat.reduceEqDiff, if_true, if_false, Int.add_mul, Int.mul_add, Int.sub_mul, Int.mul_sub, Int.neg_mul, Int.mul_neg, Int.zero_mul, Int.mul_zero]; constructor <;> omega
abbrev cyR (n : Nat) (us vs xs ys : Nat → Int) (k j : Nat) : Int := fR us vs xs ys j ((k + n - j) % n)
abbrev cyI (n : Nat) (us vs xs ys : Nat → Int) (k j : Nat) : Int := fI us vs xs ys j ((k + n - j) % n)
abbrev coR (n : Nat) (us vs xs ys : Nat → Int) (k j : Nat) : Int := gRe (us ((j + k) % n)) (vs ((j + k) % n)) (xs j) (-ys j)
abbrev coI (n : Nat) (us vs xs ys : Nat → Int) (k j : Nat) : Int := gIm (us ((j + k) % n)) (vs ((j + k) % n)) (xs j) (-ys j)
theorem GB.conj {us vs : Nat → Int} {n : Nat} (h : GB us vs n) : GB us (fun j => -vs j) n := ⟨by simpa using h.le⟩
end Go.Tm
namespace Go.Tm
open Go.RowKit Go.Proofs
def rowN (n : Nat) (f : Nat → Nat) (j : Nat) : List Nat := (List.range j).map f ++ List.replicate (n - j) 0
theorem rowN_zero (n : Nat) (f : Nat → Nat) : rowN n f 0 = List.replicate n 0 := by simp [rowN]
theorem rowN_set {n j : Nat} {f : Nat → Nat} (h : j < n) : (rowN n f j).set j (f j) = rowN n f (j + 1) := by
  unfold rowN
  obtain ⟨m, hm⟩ : ∃ m, n - j = m + 1 := ⟨n - j - 1, by omega⟩
  rw [hm, show n - (j + 1) = m by omega, List.set_append_right _ _ (by simp), List.range_succ, List.map_append]
  simp [List.replicate_succ]
theorem rowN_get {n i j : Nat} {f : Nat → Nat} (h : i < j) : (rowN n f j).getD i 0 = f i := by
  simp only [rowN, List.getD]
  rw [List.getElem?_append_left (by simpa using h)]
  simp [h]
theorem left_step {n j : Nat} {u : Nat → Int} {xs : List Nat} {s r : Nat} (ht : Tame u n) (hw : ∀ j, j < n → Wh (cn (xs.getD j 0)) (u j)) (hj : j + 1 < n) (hs : Wh (cn s) (isum u (j + 1))) (hr : cn r = fop .add (cn s) (cn (((xs.drop 1).take (n - 1)).getD j 0))) : Wh (cn r) (isum u (j + 1 + 1)) := by
  rw [hr, sub_getD (by omega), Nat.add_comm 1 j]
  have h1 := ht.sum (j := j + 1) (by omega)
  have h2 := ht.el hj
  have h3 := ht.sum (j := j + 1 + 1) (by omega)
  exact hs.add (hw _ hj) (by unfold Sm; omega) (by unfold Sm; omega) (by show Sm (isum u (j + 1 + 1)); unfold Sm; omega)
set_option maxRecDepth 100000 in
theorem inf25w62 : Inf Tryz.prog 25 (.float .f64 0) 1 8 := ⟨Tryz.t25, Tryz.type25, rfl, rfl, rfl⟩
set_option maxHeartbeats 1000000 in
set_option maxRecDepth 100000 in
theorem sums_parts (SX : Nat → Prop) (X : Option Addr) (n xc : Nat) (zs : List CB) (w : World) (sx : SlR SX w X n 1 (zs.map cxV)) (hX : ∀ q, SX q → q < w.heap.size) (hn : n ≤ 1000000) :
  Calls Tryz.prog 98 #[.slice X n xc] w (Ret (fun v w' => ∃ q1 q2, v = .tuple #[.slice (some ⟨q1, 0, none⟩) n n, .slice (some ⟨q2, 0, none⟩) n n] ∧ FR 25 w' (q1 + 1) (some ⟨q1, 0, none⟩) n n (rowN n (fun i => (zs.getD i (0, 0)).1) n) ∧ FR 25 w' (q2 + 1) (some ⟨q2, 0, none⟩) n n (rowN n (fun i => (zs.getD i (0, 0)).2) n) ∧ w.heap.size ≤ q1 ∧ w.heap.size ≤ q2 ∧ Ch No w w')) := by
 refine calls_of_VC (args := [.slice X n xc]) Tryz.func98 rfl Tryz.ntmps98 rfl (VC.seq (VC.region (VO.mv (Rn.assign rfl) rfl rfl rfl (VO.mv (Rn.assign rfl) rfl rfl rfl (VO.nil (VQ.then_code (VC.seq ?_)))))))
 refine VC.drawsT 7 (.mv 0 (.mv 1 (.mv 3 (.mv 4 (.two 2 (.mv 6 (.wk 5 .nil)) 5 (.wk 2 (.mv 6 .nil))))))) (fun w1 w' => Ch (No) w1 w') mixed (by kernel_rfl) (fun _ _ => Ch.refl _ _) ?_
 intro w1 D1
 have c1 := Ch.of_drew D1; have z1 := c1.size
 refine VT.mv (fun w' hS => Rn.move rfl) rfl rfl rfl rfl (VT.mv (fun w' hS => Rn.len Tryz.underlying39 rfl) rfl rfl rfl rfl (VT.mv (fun w' hS => Rn.move rfl) rfl rfl rfl rfl (VT.mv (fun w' hS => Rn.len Tryz.underlying39 rfl) rfl rfl rfl rfl (VT.two ?_ ?_))))
 ·
  refine VT.wk (Wk.mkF Tryz.underlying27 inf25w62 rfl rfl (by omega) (by omega) (by omega)) rfl rfl rfl rfl ?_
  rintro _ w2 ⟨p2, rfl, o2, c2, e2, z2⟩
  have RD_2 := (Ch.refl (No) w1).and c2
  refine ⟨RD_2, ?_⟩
  refine VT.mv (fun w' hS => Rn.assign rfl) rfl rfl rfl rfl (VT.wk (Wk.mkF Tryz.underlying27 inf25w62 rfl rfl (by omega) (by omega) (by omega)) rfl rfl rfl rfl ?_)
  rintro _ w3 ⟨p3, rfl, o3, c3, e3, z3⟩
  have RD_3 := RD_2.and c3
  refine ⟨RD_3, ?_⟩
  refine VT.done (VO.mv (Rn.assign rfl) rfl rfl rfl (VO.nil (VQ.noPanic (VQ.then_code (VC.seq (VC.seq (VC.region ?_)))))))
  refine VO.mv (Rn.move rfl) rfl rfl rfl (VO.mv (Rn.len Tryz.underlying39 rfl) rfl rfl rfl (VO.mv (Rn.move rfl) rfl rfl rfl (VO.nil (VQ.then_code (VC.block ?_)))))
  have ra_3 := o2.keep c3
  have sx_3 := sx.keep (c1.trans (c2.trans c3))
  have CH_3 := (Ch.refl (No) w).and (c1.trans (c2.trans c3))
  refine VC.loopS (σ := Nat) (fun j => [(4, .slice (some ⟨p2, 0, none⟩) n n), (5, .slice (some ⟨p3, 0, none⟩) n n), (14, .slice X n xc), (15, .int .i64 n), (16, .int .i64 j)]) (fun j w' => j ≤ n ∧ w3.heap.size ≤ w'.heap.size ∧ FR 25 w' (p2 + 1) (some ⟨p2, 0, none⟩) n n (rowN n (fun i => (zs.getD i (0, 0)).1) j) ∧ FR 25 w' (p3 + 1) (some ⟨p3, 0, none⟩) n n (rowN n (fun i => (zs.getD i (0, 0)).2) j) ∧ SlR SX w' X n 1 (zs.map cxV) ∧ Ch (No) w w') (fun j => n - j) 0 ?_ ⟨rfl, rfl, rfl, rfl, rfl, trivial⟩ ?_
  · exact ⟨(by omega), (Nat.le_refl _), (by rw [rowN_zero]; exact ra_3), (by rw [rowN_zero]; exact o3), sx_3, CH_3⟩
  rintro j w4 ⟨hj, hsz4, ra_4, rb_4, sx_4, CH_4⟩
  show VC _ _ _ _ [(4, .slice (some ⟨p2, 0, none⟩) n n), (5, .slice (some ⟨p3, 0, none⟩) n n), (14, .slice X n xc), (15, .int .i64 n), (16, .int .i64 j)] _
  refine VC.seq (VC.region (VO.mv (Rn.lss rfl rfl) rfl rfl rfl (VO.nil (VQ.then_code (VC.seq (VC.cond_if rfl (fun hc1 => ?_) (fun hc1 => ?_)))))))
  ·
   refine VC.skip (VQ.then_code (VC.seq (VC.block (VC.seq (VC.region (VO.mv (Rn.move rfl) rfl rfl rfl (VO.mv (Rn.indexS Tryz.underlying39 Tryz.sizeOf53 rfl rfl (sx_4.ne (by omega)) (by omega) (by omega)) rfl rfl rfl ?_)))))))
   refine VO.mv (Rn.load Tryz.isAgg53 rfl (sx_4.getC (by omega) (by omega))) rfl rfl rfl (VO.mv (Rn.assign rfl) rfl rfl rfl (VO.mv (Rn.assign rfl) rfl rfl rfl (VO.nil (VQ.then_code (VC.region (VO.mv (Rn.move rfl) rfl rfl rfl (VO.mv (Rn.move rfl) rfl rfl rfl ?_)))))))
   refine VO.mv (Rn.move rfl) rfl rfl rfl (VO.mv (Rn.move rfl) rfl rfl rfl (VO.mv (Rn.move rfl) rfl rfl rfl (VO.mv (Rn.real rfl) rfl rfl rfl (VO.mv (Rn.move rfl) rfl rfl rfl (VO.mv (Rn.imag rfl) rfl rfl rfl (VO.mv (Rn.indexS Tryz.underlying27 Tryz.sizeOf25 rfl rfl (ra_4.sl.ne (by omega)) (by omega) (by omega)) rfl rfl rfl (VO.wk0 (Wk.putF Tryz.sizeOf25 rfl rfl (by omega) ra_4) rfl rfl ?_)))))))
   rintro _ w5 ⟨o5, c5, z5⟩
   have y5 := o5.lt
   have rb_5 := rb_4.to c5 (by first | exact fun _ _ _ _ => id | (intro q h1 h2 hx h3; omega))
   refine VO.mv (Rn.indexS Tryz.underlying27 Tryz.sizeOf25 rfl rfl (rb_5.sl.ne (by omega)) (by omega) (by omega)) rfl rfl rfl (VO.wk0 (Wk.putF Tryz.sizeOf25 rfl rfl (by omega) rb_5) rfl rfl ?_)
   rintro _ w6 ⟨o6, c6, z6⟩
   have y6 := o6.lt
   refine VO.nil (VQ.block_normal (VQ.then_code (VC.region ?_)))
   refine VO.mv (Rn.add rfl rfl (by rw [IntKind.wrap_i64]; omega)) rfl rfl rfl ?_
   refine VO.mv (Rn.move rfl) rfl rfl rfl (VO.nil ?_)
   refine VQ.round (j + 1) (by first | omega | (dsimp only; omega)) ?_ ⟨rfl, rfl, rfl, rfl, rfl, trivial⟩
   have ra_6 := o5.to c6 (by first | exact fun _ _ _ _ => id | (intro q h1 h2 hx h3; omega))
   have sx_5 := sx_4.to c5 (by first | exact fun _ _ _ _ => id | (intro q h1 h2 hx h3; have := hX q h2; omega))
   have sx_6 := sx_5.to c6 (by first | exact fun _ _ _ _ => id | (intro q h1 h2 hx h3; have := hX q h2; omega))
   have CH_5 : Ch (No) w w5 := CH_4.then c5 (by intro q h1 h2; rcases h2 with h2 | h2 <;> first | exact h2 | (exfalso; omega) | omega)
   have CH_6 : Ch (No) w w6 := CH_5.then c6 (by intro q h1 h2; rcases h2 with h2 | h2 <;> first | exact h2 | (exfalso; omega) | omega)
   exact ⟨(by omega), (by omega), (by have h9 := ra_6; rw [Int.toNat_natCast] at h9; rw [← rowN_set (by omega)]; exact h9), (by have h9 := o6; rw [Int.toNat_natCast] at h9; rw [← rowN_set (by omega)]; exact h9), sx_6, CH_6⟩
  ·
   refine VC.exit (VQ.then_exit (VQ.then_exit (VQ.block_exit (VQ.then_code (VC.seq (VC.region (VO.mv (Rn.move rfl) rfl rfl rfl ?_)))))))
   refine VO.mv (Rn.move rfl) rfl rfl rfl (VO.mv (Rn.assign rfl) rfl rfl rfl (VO.mv (Rn.assign rfl) rfl rfl rfl (VO.nil (VQ.then_code (VC.ret (VQ.ret2 rfl rfl rfl (Ret.mk ?_)))))))
   obtain rfl : j = n := by omega
   exact ⟨_, _, rfl, ra_4, rb_4, by omega, by omega, CH_4⟩
 ·
  refine VT.wk (Wk.mkF Tryz.underlying27 inf25w62 rfl rfl (by omega) (by omega) (by omega)) rfl rfl rfl rfl ?_
  rintro _ w7 ⟨p7, rfl, o7, c7, e7, z7⟩
  have RD_7 := (Ch.refl (No) w1).and c7
  refine ⟨RD_7, ?_⟩
  refine VT.wk (Wk.mkF Tryz.underlying27 inf25w62 rfl rfl (by omega) (by omega) (by omega)) rfl rfl rfl rfl ?_
  rintro _ w8 ⟨p8, rfl, o8, c8, e8, z8⟩
  have RD_8 := RD_7.and c8
  refine ⟨RD_8, ?_⟩
  refine VT.mv (fun w' hS => Rn.assign rfl) rfl rfl rfl rfl (VT.done (VO.mv (Rn.assign rfl) rfl rfl rfl (VO.nil (VQ.noPanic (VQ.then_code (VC.seq (VC.seq ?_)))))))
  refine VC.region (VO.mv (Rn.move rfl) rfl rfl rfl (VO.mv (Rn.len Tryz.underlying39 rfl) rfl rfl rfl (VO.mv (Rn.move rfl) rfl rfl rfl (VO.nil (VQ.then_code (VC.block ?_))))))
  have rb_8 := o7.keep c8
  have sx_8 := sx.keep (c1.trans (c7.trans c8))
  have CH_8 := (Ch.refl (No) w).and (c1.trans (c7.trans c8))
  refine VC.loopS (σ := Nat) (fun j => [(4, .slice (some ⟨p8, 0, none⟩) n n), (5, .slice (some ⟨p7, 0, none⟩) n n), (14, .slice X n xc), (15, .int .i64 n), (16, .int .i64 j)]) (fun j w' => j ≤ n ∧ w8.heap.size ≤ w'.heap.size ∧ FR 25 w' (p8 + 1) (some ⟨p8, 0, none⟩) n n (rowN n (fun i => (zs.getD i (0, 0)).1) j) ∧ FR 25 w' (p7 + 1) (some ⟨p7, 0, none⟩) n n (rowN n (fun i => (zs.getD i (0, 0)).2) j) ∧ SlR SX w' X n 1 (zs.map cxV) ∧ Ch (No) w w') (fun j => n - j) 0 ?_ ⟨rfl, rfl, rfl, rfl, rfl, trivial⟩ ?_
  · exact ⟨(by omega), (Nat.le_refl _), (by rw [rowN_zero]; exact o8), (by rw [rowN_zero]; exact rb_8), sx_8, CH_8⟩
  rintro j w9 ⟨hj, hsz9, ra_9, rb_9, sx_9, CH_9⟩
  show VC _ _ _ _ [(4, .slice (some ⟨p8, 0, none⟩) n n), (5, .slice (some ⟨p7, 0, none⟩) n n), (14, .slice X n xc), (15, .int .i64 n), (16, .int .i64 j)] _
  refine VC.seq (VC.region (VO.mv (Rn.lss rfl rfl) rfl rfl rfl (VO.nil (VQ.then_code (VC.seq (VC.cond_if rfl (fun hc2 => ?_) (fun hc2 => ?_)))))))
  ·
   refine VC.skip (VQ.then_code (VC.seq (VC.block (VC.seq (VC.region (VO.mv (Rn.move rfl) rfl rfl rfl (VO.mv (Rn.indexS Tryz.underlying39 Tryz.sizeOf53 rfl rfl (sx_9.ne (by omega)) (by omega) (by omega)) rfl rfl rfl ?_)))))))
   refine VO.mv (Rn.load Tryz.isAgg53 rfl (sx_9.getC (by omega) (by omega))) rfl rfl rfl (VO.mv (Rn.assign rfl) rfl rfl rfl (VO.mv (Rn.assign rfl) rfl rfl rfl (VO.nil (VQ.then_code (VC.region (VO.mv (Rn.move rfl) rfl rfl rfl (VO.mv (Rn.move rfl) rfl rfl rfl ?_)))))))
   refine VO.mv (Rn.move rfl) rfl rfl rfl (VO.mv (Rn.move rfl) rfl rfl rfl (VO.mv (Rn.move rfl) rfl rfl rfl (VO.mv (Rn.real rfl) rfl rfl rfl (VO.mv (Rn.move rfl) rfl rfl rfl (VO.mv (Rn.imag rfl) rfl rfl rfl (VO.mv (Rn.indexS Tryz.underlying27 Tryz.sizeOf25 rfl rfl (ra_9.sl.ne (by omega)) (by omega) (by omega)) rfl rfl rfl (VO.wk0 (Wk.putF Tryz.sizeOf25 rfl rfl (by omega) ra_9) rfl rfl ?_)))))))
   rintro _ w10 ⟨o10, c10, z10⟩
   have y10 := o10.lt
   have rb_10 := rb_9.to c10 (by first | exact fun _ _ _ _ => id | (intro q h1 h2 hx h3; omega))
   refine VO.mv (Rn.indexS Tryz.underlying27 Tryz.sizeOf25 rfl rfl (rb_10.sl.ne (by omega)) (by omega) (by omega)) rfl rfl rfl (VO.wk0 (Wk.putF Tryz.sizeOf25 rfl rfl (by omega) rb_10) rfl rfl ?_)
   rintro _ w11 ⟨o11, c11, z11⟩
   have y11 := o11.lt
   refine VO.nil (VQ.block_normal (VQ.then_code (VC.region ?_)))
   refine VO.mv (Rn.add rfl rfl (by rw [IntKind.wrap_i64]; omega)) rfl rfl rfl ?_
   refine VO.mv (Rn.move rfl) rfl rfl rfl (VO.nil ?_)
   refine VQ.round (j + 1) (by first | omega | (dsimp only; omega)) ?_ ⟨rfl, rfl, rfl, rfl, rfl, trivial⟩
   have ra_11 := o10.to c11 (by first | exact fun _ _ _ _ => id | (intro q h1 h2 hx h3; omega))
   have sx_10 := sx_9.to c10 (by first | exact fun _ _ _ _ => id | (intro q h1 h2 hx h3; have := hX q h2; omega))
   have sx_11 := sx_10.to c11 (by first | exact fun _ _ _ _ => id | (intro q h1 h2 hx h3; have := hX q h2; omega))
   have CH_10 : Ch (No) w w10 := CH_9.then c10 (by intro q h1 h2; rcases h2 with h2 | h2 <;> first | exact h2 | (exfalso; omega) | omega)
   have CH_11 : Ch (No) w w11 := CH_10.then c11 (by intro q h1 h2; rcases h2 with h2 | h2 <;> first | exact h2 | (exfalso; omega) | omega)
   exact ⟨(by omega), (by omega), (by have h9 := ra_11; rw [Int.toNat_natCast] at h9; rw [← rowN_set (by omega)]; exact h9), (by have h9 := o11; rw [Int.toNat_natCast] at h9; rw [← rowN_set (by omega)]; exact h9), sx_11, CH_11⟩
  ·
   refine VC.exit (VQ.then_exit (VQ.then_exit (VQ.block_exit (VQ.then_code (VC.seq (VC.region (VO.mv (Rn.move rfl) rfl rfl rfl ?_)))))))
   refine VO.mv (Rn.move rfl) rfl rfl rfl (VO.mv (Rn.assign rfl) rfl rfl rfl (VO.mv (Rn.assign rfl) rfl rfl rfl (VO.nil (VQ.then_code (VC.ret (VQ.ret2 rfl rfl rfl (Ret.mk ?_)))))))
   obtain rfl : j = n := by omega
   exact ⟨_, _, rfl, ra_9, rb_9, by omega, by omega, CH_9⟩
set_option maxHeartbeats 1000000 in
set_option maxRecDepth 100000 in
theorem sums_Left (SX : Nat → Prop) (X : Option Addr) (n xc : Nat) (xs : List Nat) (u : Nat → Int) (w : World) (sx : SlR SX w X n 1 (xs.map flV)) (hX : ∀ q, SX q → q < w.heap.size) (hn : n ≤ 1000000) (hc : n ≤ xc) (hw : ∀ j, j < n → Wh (cn (xs.getD j 0)) (u j)) (ht : Tame u n) :
  Calls Tryz.prog 84 #[.slice X n xc] w (Ret (fun v w' => ∃ r, v = .float .f64 r ∧ Wh (cn r) (isum u n) ∧ Ch No w w')) := by
 refine calls_of_VC (args := [.slice X n xc]) Tryz.func84 rfl Tryz.ntmps84 rfl (VC.seq (VC.region (VO.mv (Rn.assign rfl) rfl rfl rfl (VO.nil (VQ.then_code (VC.seq (VC.seq ?_)))))))
 refine VC.region (VO.mv (Rn.move rfl) rfl rfl rfl (VO.mv (Rn.len Tryz.underlying27 rfl) rfl rfl rfl (VO.mv (Rn.eql rfl rfl) rfl rfl rfl (VO.nil (VQ.then_code (VC.cond_if rfl (fun hc1 => ?_) (fun hc1 => ?_)))))))
 ·
  refine VC.seq (VC.region (VO.mv (Rn.assign rfl) rfl rfl rfl (VO.nil (VQ.then_code (VC.ret (VQ.then_ret (VQ.ret1 rfl rfl ?_)))))))
  refine Ret.mk ?_
  obtain rfl : n = 0 := by omega
  exact ⟨_, rfl, wh_zero, (Ch.refl (No) w)⟩
 ·
  refine VC.skip (VQ.then_code (VC.seq (VC.region (VO.mv (Rn.move rfl) rfl rfl rfl (VO.mv (Rn.indexS Tryz.underlying27 Tryz.sizeOf25 rfl rfl (sx.ne (by omega)) (by omega) (by omega)) rfl rfl rfl (VO.mv (Rn.load Tryz.isAgg25 rfl (sx.getF (by omega) (by omega))) rfl rfl rfl (VO.mv (Rn.assign rfl) rfl rfl rfl ?_)))))))
  refine VO.nil (VQ.then_code (VC.seq (VC.seq ?_)))
  have sb := SlR.subF (sx) (c := xc) (i := 1) (j := n) (by omega) (Nat.le_refl _) hc
  refine VC.region (VO.mv (Rn.move rfl) rfl rfl rfl (VO.mv (Rn.sliceLo Tryz.underlying27 Tryz.sizeOf25 rfl rfl (by omega) (by omega) (by omega)) rfl rfl rfl (VO.mv (Rn.len Tryz.underlying27 rfl) rfl rfl rfl (VO.mv (Rn.move rfl) rfl rfl rfl (VO.nil (VQ.then_code (VC.block ?_)))))))
  refine VC.loopS (σ := Nat × Nat) (fun (j, s) => [(3, .float .f64 s), (13, .slice (if xc = 1 then X else X.map (·.add (1 * 1))) (n - 1) (xc - 1)), (14, .int .i64 (n - 1 : Nat)), (15, .int .i64 j)]) (fun (j, s) w' => j ≤ n - 1 ∧ Wh (cn s) (isum u (j + 1)) ∧ w.heap.size ≤ w'.heap.size ∧ SlR SX w' (if xc = 1 then X else X.map (·.add (1 * 1))) (n - 1) 1 (((xs.drop 1).take (n - 1)).map flV) ∧ Ch (No) w w') (fun (j, s) => n - 1 - j) (0, xs.getD 0 0) ?_ ⟨rfl, rfl, rfl, rfl, trivial⟩ ?_
  · exact ⟨(by omega), (by have h9 := hw 0 (by omega); simpa [isum] using h9), (Nat.le_refl _), sb, (Ch.refl (No) w)⟩
  rintro ⟨j, s⟩ w1 ⟨hj, hs, hsz1, sb_1, CH_1⟩
  show VC _ _ _ _ [(3, .float .f64 s), (13, .slice (if xc = 1 then X else X.map (·.add (1 * 1))) (n - 1) (xc - 1)), (14, .int .i64 (n - 1 : Nat)), (15, .int .i64 j)] _
  refine VC.seq (VC.region (VO.mv (Rn.lss rfl rfl) rfl rfl rfl (VO.nil (VQ.then_code (VC.seq (VC.cond_if rfl (fun hc2 => ?_) (fun hc2 => ?_)))))))
  ·
   refine VC.skip (VQ.then_code (VC.seq (VC.block (VC.seq (VC.region (VO.mv (Rn.indexS Tryz.underlying27 Tryz.sizeOf25 rfl rfl (sb_1.ne (by omega)) (by omega) (by omega)) rfl rfl rfl (VO.mv (Rn.load Tryz.isAgg25 rfl (sb_1.getF (by omega) (by omega))) rfl rfl rfl ?_)))))))
   refine VO.mv (Rn.assign rfl) rfl rfl rfl (VO.nil (VQ.then_code (VC.region (VO.mv (Rn.move rfl) rfl rfl rfl (VO.mv (Rn.move rfl) rfl rfl rfl (VO.wk (Wk.fbin (.inl rfl) rfl rfl) rfl rfl rfl ?_))))))
   rintro _ w2 ⟨r2, rfl, f2, c2⟩
   have z2 := c2.size
   refine VO.mv (Rn.assign rfl) rfl rfl rfl (VO.nil (VQ.block_normal (VQ.then_code (VC.region ?_))))
   refine VO.mv (Rn.add rfl rfl (by rw [IntKind.wrap_i64]; omega)) rfl rfl rfl ?_
   refine VO.mv (Rn.move rfl) rfl rfl rfl (VO.nil ?_)
   refine VQ.round (j + 1, r2) (by first | omega | (dsimp only; omega)) ?_ ⟨rfl, rfl, rfl, rfl, trivial⟩
   have sb_2 := sb_1.keep c2
   have CH_2 := CH_1.and c2
   exact ⟨(by omega), (left_step ht hw (by omega) hs f2), (by omega), sb_2, CH_2⟩
  ·
   refine VC.exit (VQ.then_exit (VQ.then_exit (VQ.block_exit (VQ.then_code (VC.seq (VC.region (VO.mv (Rn.move rfl) rfl rfl rfl ?_)))))))
   refine VO.mv (Rn.assign rfl) rfl rfl rfl (VO.nil (VQ.then_code (VC.ret (VQ.ret1 rfl rfl (Ret.mk ?_)))))
   have e9 : n = j + 1 := by omega
   exact ⟨_, rfl, by rw [e9]; exact hs, CH_1⟩
set_option maxRecDepth 100000 in
theorem sums_byParts (SX : Nat → Prop) (X : Option Addr) (n xc : Nat) (zs : List CB) (ur ui : Nat → Int) (w : World) (sx : SlR SX w X n 1 (zs.map cxV)) (hX : ∀ q, SX q → q < w.heap.size) (hn : n ≤ 1000000) (hz : ∀ j, j < n → WhC (cx (zs.getD j (0, 0))) (ur j) (ui j)) (hr : Tame ur n) (hi : Tame ui n) :
  Calls Tryz.prog 83 #[.slice X n xc, .func (.func 84) #[] #[]] w (Ret (fun v w' => ∃ p q, v = .complex .f64 p q ∧ WhC (cx (p, q)) (isum ur n) (isum ui n) ∧ Ch No w w')) := by
 refine calls_of_VC (args := [.slice X n xc, .func (.func 84) #[] #[]]) Tryz.func83 rfl Tryz.ntmps83 rfl (VC.seq (VC.region (VO.mv (Rn.assign rfl) rfl rfl rfl (VO.nil (VQ.then_code (VC.seq (VC.region ?_)))))))
 refine VO.mv (Rn.move rfl) rfl rfl rfl (VO.wk (Wk.call Tryz.call98 rfl (sums_parts _ _ _ _ _ _ sx hX hn)) rfl rfl rfl ?_)
 rintro _ w1 ⟨qa1, qb1, rfl, fa1, fb1, ea1, eb1, c1⟩
 have ya1 := Ow.lt fa1; have yb1 := Ow.lt fb1
 have z1 := c1.size
 refine VO.mv (Rn.move rfl) rfl rfl rfl (VO.mv (Rn.extract rfl rfl) rfl rfl rfl (VO.mv (Rn.extract rfl rfl) rfl rfl rfl (VO.mv (Rn.assign rfl) rfl rfl rfl (VO.mv (Rn.assign rfl) rfl rfl rfl (VO.nil (VQ.then_code (VC.seq ?_)))))))
 refine VC.region (VO.mv (Rn.move rfl) rfl rfl rfl (VO.mv (Rn.move rfl) rfl rfl rfl ?_))
 refine VO.wk (Wk.callv Tryz.call84 rfl rfl (by rfl) (sums_Left _ _ n n _ ur _ (fa1).sl (fun q hq => by omega) hn (Nat.le_refl _) (fun j hj => by rw [rowN_get hj]; exact (hz j hj).1) hr)) rfl rfl rfl ?_
 rintro _ w2 ⟨r2, rfl, hs2, c2⟩
 have z2 := c2.size
 refine VO.mv (Rn.move rfl) rfl rfl rfl (VO.mv (Rn.move rfl) rfl rfl rfl ?_)
 have fb_2 := fb1.keep c2
 refine VO.wk (Wk.callv Tryz.call84 rfl rfl (by rfl) (sums_Left _ _ n n _ ui _ (fb_2).sl (fun q hq => by omega) hn (Nat.le_refl _) (fun j hj => by rw [rowN_get hj]; exact (hz j hj).2) hi)) rfl rfl rfl ?_
 rintro _ w3 ⟨r3, rfl, hs3, c3⟩
 have z3 := c3.size
 refine VO.mv (Rn.complex rfl rfl) rfl rfl rfl (VO.mv (Rn.assign rfl) rfl rfl rfl (VO.nil (VQ.then_code (VC.ret (VQ.ret1 rfl rfl (Ret.mk ?_))))))
 have CH_3 := (Ch.refl (No) w).and (c1.trans (c2.trans c3))
 exact ⟨_, _, rfl, ⟨hs2, hs3⟩, CH_3⟩
set_option maxRecDepth 100000 in
theorem sums_LeftC (SX : Nat → Prop) (X : Option Addr) (n xc : Nat) (zs : List CB) (ur ui : Nat → Int) (w : World) (sx : SlR SX w X n 1 (zs.map cxV)) (hX : ∀ q, SX q → q < w.heap.size) (hn : n ≤ 1000000) (hz : ∀ j, j < n → WhC (cx (zs.getD j (0, 0))) (ur j) (ui j)) (hr : Tame ur n) (hi : Tame ui n) :
  Calls Tryz.prog 60 #[.slice X n xc] w (Ret (fun v w' => ∃ p q, v = .complex .f64 p q ∧ WhC (cx (p, q)) (isum ur n) (isum ui n) ∧ Ch No w w')) := by
 refine calls_of_VC (args := [.slice X n xc]) Tryz.func60 rfl Tryz.ntmps60 rfl (VC.seq (VC.region (VO.mv (Rn.assign rfl) rfl rfl rfl (VO.nil (VQ.then_code (VC.seq (VC.region ?_)))))))
 refine VO.mv (Rn.move rfl) rfl rfl rfl (VO.wk (Wk.call Tryz.call83 rfl (sums_byParts _ _ _ _ _ _ _ _ sx hX hn hz hr hi)) rfl rfl rfl ?_)
 rintro _ w1 ⟨p1, q1, rfl, F1, c1⟩
 have z1 := c1.size
 refine VO.mv (Rn.assign rfl) rfl rfl rfl (VO.nil (VQ.then_code (VC.ret (VQ.ret1 rfl rfl (Ret.mk ?_)))))
 have CH_1 := (Ch.refl (No) w).and c1
 exact ⟨_, _, rfl, F1, CH_1⟩
end Go.Tm
namespace Go.Tm
open Go.RowKit
section
variable {P : Program} {n : Fr} {k : K} {w : World} {d : Option Tmp} {ty : TypeId} {pos : String} {aft : Array Edge} {g : Option (Nat × Bool)}
end
end Go.Tm
namespace Go.Tm
open Go.RowKit Go.Proofs
theorem getD_mapC {zs : List CB} {k : Nat} (h : k < zs.length) : (zs.map cx).getD k z0 = cx (zs.getD k (0, 0)) := by
  simp [List.getD, List.getElem?_eq_getElem h]
theorem WhU.toL {n : Nat} {us vs : Nat → Int} {zs : List CB} (h : WhU n us vs n zs) : WhL (zs.map cx) n us vs :=
  ⟨by simp [h.len], fun k hk => by rw [getD_mapC (by rw [h.len]; exact hk)]; exact h.get k hk⟩
theorem WhU.ofL {n : Nat} {us vs : Nat → Int} {zs : List CB} {ws : List Cx} (e : zs.map cx = ws) (h : WhL ws n us vs) : WhU n us vs n zs := by
  subst e
  have hl : zs.length = n := by simpa using h.1
  exact ⟨hl, fun k hk => by have := h.2 k hk; rwa [getD_mapC (by rw [hl]; exact hk)] at this⟩
theorem plan_FwdL (n lo hi p : Nat) (PP : Pln) (SX : Nat → Prop) (X : Option Addr) (xc : Nat) (zs : List CB) (us vs : Nat → Int) (w : World) (sx : SlR SX w X n 1 (zs.map cxV)) (hX : ∀ q, SX q → q < w.heap.size) (pl : PlnR lo hi w p PP) (hh : hi ≤ w.heap.size) (hL : Leaf n PP.b) (hz : WhU n us vs n zs) (hb : ∀ j, B44 (us j) ∧ B44 (vs j)) (st : StT w) (hG : 12 ≤ w.heap.size) :
    Calls Tryz.prog 41 #[.pointer (some ⟨p, 0, none⟩), .slice X n xc] w (Ret fun v w' => ∃ r A k os, v = .tuple #[.slice A n k, .nilIface] ∧ CR 53 w' r A n k os ∧ WhU n (fun k => (uvL n k us vs n).1) (fun k => (uvL n k us vs n).2) n os ∧ w.heap.size < r ∧ Ch No w w') := by
  refine (p_Forward _ _ _ _ _ _ n xc zs _ sx hX pl hh _ hL.ok.ok hL.ok.okb hL.ok.ne (by rw [hL.ln]) st hG hL.ok.ac).mono ?_
  rintro e w' ⟨v, rfl, r, A, c, os, rfl, h1, h2, h3, h4⟩
  have e4 : PP.b.ln.toNat = n := by rw [hL.ln]; rfl
  rw [e4] at h1 ⊢
  exact ⟨_, rfl, r, A, c, os, rfl, h1, WhU.ofL h2 (fwd_leaf hL hz.toL hb), h3, h4⟩
theorem plan_InvL (n lo hi p : Nat) (PP : Pln) (SX : Nat → Prop) (X : Option Addr) (xc : Nat) (zs : List CB) (us vs : Nat → Int) (w : World) (sx : SlR SX w X n 1 (zs.map cxV)) (hX : ∀ q, SX q → q < w.heap.size) (pl : PlnR lo hi w p PP) (hh : hi ≤ w.heap.size) (hL : Leaf n PP.b) (hz : WhU n (fun k => (uvL n k us vs n).1) (fun k => (uvL n k us vs n).2) n zs) (hb : ∀ j, (-1099511627776 ≤ us j ∧ us j ≤ 1099511627776) ∧ -1099511627776 ≤ vs j ∧ vs j ≤ 1099511627776) (st : StT w) (hG : 12 ≤ w.heap.size) :
    Calls Tryz.prog 43 #[.pointer (some ⟨p, 0, none⟩), .slice X n xc] w (Ret fun v w' => ∃ r A k os, v = .tuple #[.slice A n k, .nilIface] ∧ CR 53 w' r A n k os ∧ WhU n us vs n os ∧ w.heap.size < r ∧ Ch No w w') := by
  refine (p_Inverse _ _ _ _ _ _ n xc zs _ sx hX pl hh _ hL.ok.ok hL.ok.okb hL.ok.ne (by rw [hL.ln]) st hG hL.ok.ac).mono ?_
  rintro e w' ⟨v, rfl, r, A, c, os, rfl, h1, h2, h3, h4⟩
  have e4 : PP.b.ln.toNat = n := by rw [hL.ln]; rfl
  rw [e4] at h1 ⊢
  exact ⟨_, rfl, r, A, c, os, rfl, h1, WhU.ofL h2 (inv_leafG hL hz.toL hb), h3, h4⟩
def B17 (us vs : Nat → Int) : Prop := ∀ j, (-131072 ≤ us j ∧ us j ≤ 131072) ∧ -131072 ≤ vs j ∧ vs j ≤ 131072
theorem B17.b44 {us vs : Nat → Int} (h : B17 us vs) (j : Nat) : B44 (us j) ∧ B44 (vs j) := by have := h j; unfold B44; omega
theorem isum_bdI {f : Nat → Int} {B : Nat} (h : ∀ j, (f j).natAbs ≤ B) : ∀ n : Nat, (isum f n).natAbs ≤ n * B
  | 0 => by simp [isum]
  | n + 1 => by have := isum_bdI h n; have := h n; rw [isum, Nat.succ_mul]; omega
theorem B17.prod {us vs xs ys : Nat → Int} (h : B17 us vs) (h2 : B17 xs ys) (i j : Nat) : (fR us vs xs ys i j).natAbs ≤ 68719476736 ∧ (fI us vs xs ys i j).natAbs ≤ 68719476736 := by
  have b := g_bd (us i) (vs i) (xs j) (ys j)
  have h1 := h i; have h3 := h2 j
  have : ((us i).natAbs + (vs i).natAbs) * ((xs j).natAbs + (ys j).natAbs) ≤ 262144 * 262144 := Nat.mul_le_mul (by omega) (by omega)
  show (gRe (us i) (vs i) (xs j) (ys j)).natAbs ≤ _ ∧ (gIm (us i) (vs i) (xs j) (ys j)).natAbs ≤ _
  omega
theorem B17.cyc {n : Nat} (hn : n ≤ 4) {us vs xs ys : Nat → Int} (h : B17 us vs) (h2 : B17 xs ys) (k : Nat) : (-1099511627776 ≤ cyc n (fR us vs xs ys) k ∧ cyc n (fR us vs xs ys) k ≤ 1099511627776) ∧ -1099511627776 ≤ cyc n (fI us vs xs ys) k ∧ cyc n (fI us vs xs ys) k ≤ 1099511627776 := by
  have a1 := isum_bdI (f := fun j => fR us vs xs ys j ((k + n - j) % n)) (fun j => (h.prod h2 _ _).1) n
  have a2 := isum_bdI (f := fun j => fI us vs xs ys j ((k + n - j) % n)) (fun j => (h.prod h2 _ _).2) n
  have : n * 68719476736 ≤ 4 * 68719476736 := Nat.mul_le_mul_right _ hn
  unfold Go.Tm.cyc
  omega
theorem B17.uv {n k : Nat} (hn : n ≤ 4) {us vs : Nat → Int} (h : B17 us vs) : (uvL n k us vs n).1.natAbs + (uvL n k us vs n).2.natAbs ≤ 33554432 := by
  have := uv_bd (n := n) (k := k) (us := us) (bs := vs) (B := 131072) (fun j => h j) n hn
  omega
def mixF (f us : Nat → Int) (j i : Nat) : Int := if i < j then f i else us i
theorem WhU.mix {n j : Nat} {f g us vs : Nat → Int} {zs : List CB} {z : CB} (h : WhU n (mixF f us j) (mixF g vs j) n zs) (hj : j < n) (hz : WhC (cx z) (f j) (g j)) : WhU n (mixF f us (j + 1)) (mixF g vs (j + 1)) n (zs.set j z) := by
  have hl := h.len
  refine ⟨by rw [List.length_set]; exact hl, fun i hi => ?_⟩
  by_cases c : j = i
  · subst c
    simp only [mixF, if_pos (Nat.lt_succ_self j), List.getD, List.getElem?_set]
    simpa [show j < zs.length by omega] using hz
  · have := h.get i hi
    simp only [mixF, List.getD, List.getElem?_set] at this ⊢
    by_cases d : i < j
    · rw [if_pos d, if_pos d] at this; rw [if_pos (show i < j + 1 by omega), if_pos (show i < j + 1 by omega)]; simpa [c] using this
    · rw [if_neg d, if_neg d] at this; rw [if_neg (show ¬ i < j + 1 by omega), if_neg (show ¬ i < j + 1 by omega)]; simpa [c] using this
theorem WhU.mix0 {n : Nat} {f g us vs : Nat → Int} {zs : List CB} (h : WhU n us vs n zs) : WhU n (mixF f us 0) (mixF g vs 0) n zs := h.cast fun i _ => by simp [mixF]
theorem WhU.mixAll {n : Nat} {f g us vs : Nat → Int} {zs : List CB} (h : WhU n (mixF f us n) (mixF g vs n) n zs) : WhU n f g n zs := h.cast fun i hi => by simp [mixF, hi]
theorem WhU.pad {a N : Nat} {us vs : Nat → Int} {zs : List CB} (h : WhU a us vs a zs) (ha : a ≤ N) (h0 : ∀ j, a ≤ j → us j = 0 ∧ vs j = 0) : WhU N us vs N (zs ++ List.replicate (N - a) (0, 0)) := by
  have hl := h.len
  refine ⟨by simp [hl]; omega, fun i hi => ?_⟩
  by_cases c : i < a
  · have := h.get i c
    simp only [List.getD] at this ⊢
    rwa [List.getElem?_append_left (by omega)]
  · obtain ⟨e1, e2⟩ := h0 i (by omega)
    have : (zs ++ List.replicate (N - a) ((0, 0) : CB)).getD i (0, 0) = (0, 0) := by
      simp only [List.getD]
      rw [List.getElem?_append_right (by omega), List.getElem?_replicate]
      split <;> rfl
    rw [this, e1, e2]
    exact ⟨wh_zero, wh_zero⟩
set_option maxRecDepth 100000 in
theorem inf53w63 : Inf Tryz.prog 53 (.complex .f64 0 0) 1 16 := ⟨Tryz.t53, Tryz.type53, rfl, rfl, rfl⟩
set_option maxHeartbeats 2000000 in
set_option maxRecDepth 100000 in
theorem ring_Linear (SX SY : Nat → Prop) (X Y : Option Addr) (la lb xc yc : Nat) (us vs us2 vs2 : Nat → Int) (zs ys : List CB) (w : World) (sx : SlR SX w X la 1 (zs.map cxV)) (sy : SlR SY w Y lb 1 (ys.map cxV)) (hX : ∀ q, SX q → q < w.heap.size) (hY : ∀ q, SY q → q < w.heap.size) (hl : 1 ≤ la ∧ 1 ≤ lb ∧ la ≤ 1024 ∧ lb ≤ 1024) (hz : WhU la us vs la zs) (hy : WhU lb us2 vs2 lb ys) (g1 : GB us vs la) (g2 : GB us2 vs2 lb) :
  Calls Tryz.prog 29 #[.slice X la xc, .slice Y lb yc] w (Ret (fun v w' => ∃ q os, v = .tuple #[.slice (some ⟨q, 0, none⟩) (la + lb - 1) (la + lb - 1), .nilIface] ∧ CR 53 w' (q + 1) (some ⟨q, 0, none⟩) (la + lb - 1) (la + lb - 1) os ∧ WhU (la + lb - 1) (lin lb (fR us vs us2 vs2) la) (lin lb (fI us vs us2 vs2) la) (la + lb - 1) os ∧ w.heap.size ≤ q ∧ Ch No w w')) := by
 have hq : (la : Int) ≤ 1048576 / (lb : Int) := by
  have hm : la * lb ≤ 1024 * 1024 := Nat.mul_le_mul hl.2.2.1 hl.2.2.2
  have h9 : ((la * lb : Nat) : Int) ≤ 1048576 := by omega
  rw [Int.natCast_mul] at h9
  exact Int.le_ediv_of_mul_le (by omega) h9
 refine calls_of_VC (args := [.slice X la xc, .slice Y lb yc]) Tryz.func29 rfl Tryz.ntmps29 rfl (VC.seq (VC.region (VO.mv (Rn.assign rfl) rfl rfl rfl (VO.mv (Rn.assign rfl) rfl rfl rfl (VO.nil (VQ.then_code (VC.seq ?_)))))))
 refine VC.seq (VC.region (VO.mv (Rn.move rfl) rfl rfl rfl (VO.mv (Rn.len Tryz.underlying39 rfl) rfl rfl rfl (VO.mv (Rn.eqlF rfl rfl (by omega)) rfl rfl rfl (VO.mv (Rn.move rfl) rfl rfl rfl (VO.mv (Rn.move rfl) rfl rfl rfl (VO.mv (Rn.len Tryz.underlying39 rfl) rfl rfl rfl ?_)))))))
 refine VO.mv (Rn.eqlF rfl rfl (by omega)) rfl rfl rfl (VO.mv (Rn.pick_false rfl rfl) rfl rfl rfl (VO.mv (Rn.move rfl) rfl rfl rfl (VO.mv (Rn.move rfl) rfl rfl rfl (VO.mv (Rn.len Tryz.underlying39 rfl) rfl rfl rfl (VO.mv (Rn.move rfl) rfl rfl rfl (VO.mv (Rn.len Tryz.underlying39 rfl) rfl rfl rfl (VO.mv (Rn.quo0 rfl rfl (by omega) (by omega) (by omega)) rfl rfl rfl ?_)))))))
 refine VO.mv (Rn.gtrF rfl rfl (by omega)) rfl rfl rfl (VO.mv (Rn.pick_false rfl rfl) rfl rfl rfl (VO.nil (VQ.then_code (VC.cond_false rfl (VC.skip (VQ.then_code (VC.seq ?_)))))))
 refine VC.region (VO.mv (Rn.move rfl) rfl rfl rfl (VO.mv (Rn.len Tryz.underlying39 rfl) rfl rfl rfl (VO.mv (Rn.move rfl) rfl rfl rfl (VO.mv (Rn.len Tryz.underlying39 rfl) rfl rfl rfl ?_))))
 refine VO.mv (Rn.add rfl rfl (by rw [IntKind.wrap_i64]; omega)) rfl rfl rfl ?_
 refine VO.mv (Rn.sub rfl rfl (by rw [IntKind.wrap_i64]; omega)) rfl rfl rfl ?_
 refine VO.wk (Wk.mkC Tryz.underlying39 inf53w63 rfl rfl (by omega) (by omega) (by omega)) rfl rfl rfl ?_
 rintro _ w1 ⟨p1, rfl, o1, c1, e1, z1⟩
 refine VO.mv (Rn.assign rfl) rfl rfl rfl (VO.nil (VQ.then_code (VC.seq (VC.seq (VC.region (VO.mv (Rn.move rfl) rfl rfl rfl (VO.mv (Rn.len Tryz.underlying39 rfl) rfl rfl rfl ?_)))))))
 refine VO.mv (Rn.move rfl) rfl rfl rfl (VO.nil (VQ.then_code (VC.block ?_)))
 have sx_1 := sx.keep c1
 have sy_1 := sy.keep c1
 have CH_1 := (Ch.refl (No) w).and c1
 refine VC.loopS (σ := Nat × List CB) (fun (k, os) => [(0, .slice X la xc), (1, .slice Y lb yc), (6, .slice (some ⟨p1, 0, none⟩) ((la : Int) + (lb : Int) - 1).toNat ((la : Int) + (lb : Int) - 1).toNat), (35, .int .i64 (((la : Int) + (lb : Int) - 1).toNat : Nat)), (36, .int .i64 k)]) (fun (k, os) w' => k ≤ ((la : Int) + (lb : Int) - 1).toNat ∧ WhU ((la : Int) + (lb : Int) - 1).toNat (lin lb (fR us vs us2 vs2) la) (lin lb (fI us vs us2 vs2) la) k os ∧ w1.heap.size ≤ w'.heap.size ∧ CR 53 w' (p1 + 1) (some ⟨p1, 0, none⟩) ((la : Int) + (lb : Int) - 1).toNat ((la : Int) + (lb : Int) - 1).toNat os ∧ SlR SX w' X la 1 (zs.map cxV) ∧ SlR SY w' Y lb 1 (ys.map cxV) ∧ Ch (No) w w') (fun (k, os) => ((la : Int) + (lb : Int) - 1).toNat - k) (0, List.replicate ((la : Int) + (lb : Int) - 1).toNat (0, 0)) ?_ ⟨rfl, rfl, rfl, rfl, rfl, trivial⟩ ?_
 · exact ⟨(by omega), (WhU.zero _ _ _), (Nat.le_refl _), o1, sx_1, sy_1, CH_1⟩
 rintro ⟨k, os⟩ w2 ⟨hk, ho, hsz2, ou_2, sx_2, sy_2, CH_2⟩
 show VC _ _ _ _ [(0, .slice X la xc), (1, .slice Y lb yc), (6, .slice (some ⟨p1, 0, none⟩) ((la : Int) + (lb : Int) - 1).toNat ((la : Int) + (lb : Int) - 1).toNat), (35, .int .i64 (((la : Int) + (lb : Int) - 1).toNat : Nat)), (36, .int .i64 k)] _
 refine VC.seq (VC.region (VO.mv (Rn.lss rfl rfl) rfl rfl rfl (VO.nil (VQ.then_code (VC.seq (VC.cond_if rfl (fun hc1 => ?_) (fun hc1 => ?_)))))))
 ·
  refine VC.skip (VQ.then_code (VC.seq (VC.block (VC.seq (VC.region (VO.mv (Rn.move rfl) rfl rfl rfl (VO.mv (Rn.assign rfl) rfl rfl rfl ?_)))))))
  refine VO.nil (VQ.then_code (VC.seq (VC.region (VO.mv (Rn.assign rfl) rfl rfl rfl (VO.nil (VQ.then_code (VC.seq ?_)))))))
  refine VC.seq (VC.region (VO.mv (Rn.move rfl) rfl rfl rfl (VO.mv (Rn.move rfl) rfl rfl rfl (VO.mv (Rn.len Tryz.underlying39 rfl) rfl rfl rfl ?_))))
  refine VO.mv (Rn.sub rfl rfl (by rw [IntKind.wrap_i64]; omega)) rfl rfl rfl ?_
  refine VO.mv (Rn.add rfl rfl (by rw [IntKind.wrap_i64]; omega)) rfl rfl rfl ?_
  refine VO.mv (Rn.maxI rfl rfl) rfl rfl rfl (VO.mv (Rn.assign rfl) rfl rfl rfl (VO.nil (VQ.then_code (VC.block (VC.loopS (σ := Nat × Int × List CB × Nat × Option Addr × Nat) (fun (i, j, qs, r2, A2, c2) => [(0, .slice X la xc), (1, .slice Y lb yc), (6, .slice (some ⟨p1, 0, none⟩) ((la : Int) + (lb : Int) - 1).toNat ((la : Int) + (lb : Int) - 1).toNat), (7, .int .i64 k), (8, .slice A2 i c2), (9, .int .i64 j), (35, .int .i64 (((la : Int) + (lb : Int) - 1).toNat : Nat)), (36, .int .i64 k)]) (fun (i, j, qs, r2, A2, c2) w' => j = ((k + 1 - lb : Nat) : Int) + (i : Int) ∧ i ≤ min (k + 1) la - (k + 1 - lb) ∧ WhU i (fun i => fR us vs us2 vs2 (k + 1 - lb + i) (k - (k + 1 - lb + i))) (fun i => fI us vs us2 vs2 (k + 1 - lb + i) (k - (k + 1 - lb + i))) i qs ∧ (r2 = 0 ∨ w.heap.size < r2) ∧ ¬ r2 = (p1 + 1) ∧ w2.heap.size ≤ w'.heap.size ∧ CR 53 w' (p1 + 1) (some ⟨p1, 0, none⟩) ((la : Int) + (lb : Int) - 1).toNat ((la : Int) + (lb : Int) - 1).toNat os ∧ CR 53 w' r2 A2 i c2 qs ∧ SlR SX w' X la 1 (zs.map cxV) ∧ SlR SY w' Y lb 1 (ys.map cxV) ∧ Ch (No) w w') (fun (i, j, qs, r2, A2, c2) => min (k + 1) la - (k + 1 - lb) - i) (0, if (0 : Int) < (k : Int) - lb + 1 then (k : Int) - lb + 1 else 0, [], 0, none, 0) ?_ ⟨rfl, rfl, rfl, rfl, rfl, rfl, rfl, rfl, trivial⟩ ?_)))))
  · exact ⟨(by split <;> omega), (by omega), ⟨rfl, fun i h => absurd h (by omega)⟩, (.inl rfl), (by omega), (Nat.le_refl _), ou_2, (Ow.nil _ _ _), sx_2, sy_2, CH_2⟩
  rintro ⟨i, j, qs, r2, A2, c2⟩ w3 ⟨hj, hi, hq2, hr2, hr3, hsz3, ou_3, row_3, sx_3, sy_3, CH_3⟩
  show VC _ _ _ _ [(0, .slice X la xc), (1, .slice Y lb yc), (6, .slice (some ⟨p1, 0, none⟩) ((la : Int) + (lb : Int) - 1).toNat ((la : Int) + (lb : Int) - 1).toNat), (7, .int .i64 k), (8, .slice A2 i c2), (9, .int .i64 j), (35, .int .i64 (((la : Int) + (lb : Int) - 1).toNat : Nat)), (36, .int .i64 k)] _
  refine VC.seq (VC.seq (VC.region (VO.mv (Rn.move rfl) rfl rfl rfl (VO.mv (Rn.move rfl) rfl rfl rfl (VO.mv (Rn.move rfl) rfl rfl rfl (VO.mv (Rn.len Tryz.underlying39 rfl) rfl rfl rfl ?_))))))
  refine VO.mv (Rn.sub rfl rfl (by rw [IntKind.wrap_i64]; omega)) rfl rfl rfl ?_
  refine VO.mv (Rn.minI rfl rfl) rfl rfl rfl (VO.mv (Rn.leq rfl rfl) rfl rfl rfl (VO.nil (VQ.then_code (VC.cond_if rfl (fun hc2 => ?_) (fun hc2 => ?_)))))
  ·
   have hle : j ≤ (k : Int) ∧ j ≤ (la : Int) - 1 := by split at hc2 <;> omega
   clear hc2
   refine VC.skip (VQ.then_code (VC.seq (VC.block (VC.draws 14 [(0, true), (1, true), (2, true), (3, true), (4, true), (5, true), (6, true), (7, true), (8, true), (9, true), (10, true), (11, false), (12, false), (13, false)] (fun w1 w' => Ch (At r2) w1 w') mixed (by kernel_rfl) (fun _ _ => Ch.refl _ _) ?_))))
   intro w4 D4
   have c4 := Ch.of_drew D4; have z4 := c4.size
   have sx_4 := sx_3.keep c4
   have sy_4 := sy_3.keep c4
   have ou_4 := ou_3.keep c4
   have row_4 := row_3.keep c4
   refine VH.mv (fun w' hS => Rn.move rfl) rfl rfl rfl rfl (VH.mv (fun w' hS => Rn.move rfl) rfl rfl rfl rfl (VH.mv (fun w' hS => Rn.move rfl) rfl rfl rfl rfl ?_))
   refine VH.mv (fun w' hS => Rn.indexS Tryz.underlying39 Tryz.sizeOf53 rfl rfl ((sx_4.to hS (by first | exact fun _ _ _ _ => id | (intro q h1 h2 hx h3; have := hX q h2; omega))).ne (by omega)) (by omega) (by omega)) rfl rfl rfl rfl ?_
   refine VH.mv (fun w' hS => Rn.load Tryz.isAgg53 rfl ((sx_4.to hS (by first | exact fun _ _ _ _ => id | (intro q h1 h2 hx h3; have := hX q h2; omega))).getC (by omega) (by omega))) rfl rfl rfl rfl ?_
   refine VH.mv (fun w' hS => Rn.move rfl) rfl rfl rfl rfl (VH.mv (fun w' hS => Rn.move rfl) rfl rfl rfl rfl (VH.mv (fun w' hS => Rn.move rfl) rfl rfl rfl rfl ?_))
   refine VH.mv (fun w' hS => Rn.sub rfl rfl (by rw [IntKind.wrap_i64]; omega)) rfl rfl rfl rfl ?_
   refine VH.mv (fun w' hS => Rn.indexS Tryz.underlying39 Tryz.sizeOf53 rfl rfl ((sy_4.to hS (by first | exact fun _ _ _ _ => id | (intro q h1 h2 hx h3; have := hY q h2; omega))).ne (by omega)) (by omega) (by omega)) rfl rfl rfl rfl ?_
   refine VH.mv (fun w' hS => Rn.load Tryz.isAgg53 rfl ((sy_4.to hS (by first | exact fun _ _ _ _ => id | (intro q h1 h2 hx h3; have := hY q h2; omega))).getC (by omega) (by omega))) rfl rfl rfl rfl ?_
   refine VH.wk (Wk.call Tryz.call59 rfl (cplx_Mul _ _ _ _ _)) rfl rfl rfl rfl ?_
   rintro _ w5 ⟨p5, q5, rfl, F5, c5⟩
   have z5 := c5.size
   have RD_5 := (Ch.refl (At r2) w4).and c5
   refine ⟨RD_5, ?_⟩
   refine VH.wk (Wk.lit Tryz.underlying39 inf53w63 (by decide) rfl rfl (by rfl) (by decide) (by decide) (by rfl)) rfl rfl rfl rfl ?_
   rintro _ w6 ⟨p6, rfl, N6⟩
   have c6 := N6.ch
   have e6 := N6.p; have z6 := N6.size
   have l66 := SlR.of_new (sz := 1) (l := 1) N6 rfl
   have l66o := Ow.of_new (sz := 1) (l := 1) N6 rfl (by decide)
   have RD_6 := RD_5.and c6
   refine ⟨RD_6, ?_⟩
   have row_6 := row_4.keep (c5.trans c6)
   refine VH.wk (Wk.append (S := _) Tryz.underlying39 inf53w63 rfl (by decide) rfl rfl row_6 l66 (by rfl) (fun h => by simp at h) (by omega) (by simp only [maxLen]; omega)) rfl rfl rfl rfl ?_
   rintro _ w7 ⟨r7, A7, k7, rfl, o7, c7, q7⟩
   have z7 := c7.size
   have y7 := o7.lt
   have RD_7 : Ch (At r2) w4 w7 := RD_6.then c7 (by intro q h1 h2; rcases h2 with h2 | h2 <;> first | exact h2 | (exfalso; omega) | omega)
   refine ⟨RD_7, ?_⟩
   refine VH.done (VO.mv (Rn.assign rfl) rfl rfl rfl (VO.nil (VQ.noPanic (VQ.block_normal (VQ.then_code (VC.region (VO.mv (Rn.move rfl) rfl rfl rfl ?_)))))))
   refine VO.mv (Rn.add rfl rfl (by rw [IntKind.wrap_i64]; omega)) rfl rfl rfl ?_
   refine VO.mv (Rn.assign rfl) rfl rfl rfl (VO.nil ?_)
   refine VQ.round (i + 1, j + 1, qs ++ [(p5, q5)], r7, A7, k7) (by first | omega | (dsimp only; omega)) ?_ ⟨rfl, rfl, rfl, rfl, rfl, rfl, rfl, rfl, trivial⟩
   have ou_6 := ou_4.keep (c5.trans c6)
   have ou_7 := ou_6.to c7 (by first | exact fun _ _ _ _ => id | (intro q h1 h2 hx h3; omega))
   have sx_6 := sx_4.keep (c5.trans c6)
   have sx_7 := sx_6.to c7 (by first | exact fun _ _ _ _ => id | (intro q h1 h2 hx h3; have := hX q h2; omega))
   have sy_6 := sy_4.keep (c5.trans c6)
   have sy_7 := sy_6.to c7 (by first | exact fun _ _ _ _ => id | (intro q h1 h2 hx h3; have := hY q h2; omega))
   have CH_6 := CH_3.and (c4.trans (c5.trans c6))
   have CH_7 : Ch (No) w w7 := CH_6.then c7 (by intro q h1 h2; rcases h2 with h2 | h2 <;> first | exact h2 | (exfalso; omega) | omega)
   exact ⟨(by omega), (by omega), (hq2.push (by rw [F5, show j.toNat = k + 1 - lb + i by omega, show ((k : Int) - j).toNat = k - (k + 1 - lb + i) by omega]; exact (hz.get _ (by omega)).mulG (hy.get _ (by omega)) (g1.el (by omega)) (g2.el (by omega)))), (by omega), (by omega), (by omega), ou_7, (by have h9 := o7; show Ow _ _ _ _ _ _ _ _; rw [List.map_append]; exact h9), sx_7, sy_7, CH_7⟩
  ·
   have hgt : i = min (k + 1) la - (k + 1 - lb) := by split at hc2 <;> omega
   clear hc2
   refine VC.exit (VQ.then_exit (VQ.then_exit (VQ.block_exit (VQ.then_code (VC.region (VO.mv (Rn.move rfl) rfl rfl rfl (VO.mv (Rn.move rfl) rfl rfl rfl ?_)))))))
   refine VO.mv (Rn.move rfl) rfl rfl rfl ?_
   refine VO.wk (Wk.call Tryz.call60 rfl (sums_LeftC _ _ i _ _ (fun i => fR us vs us2 vs2 (k + 1 - lb + i) (k - (k + 1 - lb + i))) (fun i => fI us vs us2 vs2 (k + 1 - lb + i) (k - (k + 1 - lb + i))) _ (row_3).sl (fun q hq => by have := Ow.lt row_3; omega) (by omega) (fun j hj => hq2.get j hj) (g1.tame (xs := us) (ys := us) (lo := k + 1 - lb) (m := i) (by omega) (fun j hj => g2.el (by omega))).1 (g1.tame (xs := us) (ys := us) (lo := k + 1 - lb) (m := i) (by omega) (fun j hj => g2.el (by omega))).2)) rfl rfl rfl ?_
   rintro _ w8 ⟨p8, q8, rfl, F8, c8⟩
   have z8 := c8.size
   rw [hgt, lin_win (fR us vs us2 vs2) (by omega) (by omega), lin_win (fI us vs us2 vs2) (by omega) (by omega)] at F8
   have ou_8 := ou_3.keep c8
   refine VO.mv (Rn.indexS Tryz.underlying39 Tryz.sizeOf53 rfl rfl (ou_8.sl.ne (by omega)) (by omega) (by omega)) rfl rfl rfl (VO.wk0 (Wk.putC Tryz.sizeOf53 rfl rfl (by omega) ou_8) rfl rfl ?_)
   rintro _ w9 ⟨o9, c9, z9⟩
   have y9 := o9.lt
   refine VO.nil (VQ.block_normal (VQ.then_code (VC.region ?_)))
   refine VO.mv (Rn.add rfl rfl (by rw [IntKind.wrap_i64]; omega)) rfl rfl rfl ?_
   refine VO.mv (Rn.move rfl) rfl rfl rfl (VO.nil ?_)
   refine VQ.round (k + 1, os.set k (p8, q8)) (by first | omega | (dsimp only; omega)) ?_ ⟨rfl, rfl, rfl, rfl, rfl, trivial⟩
   have sx_8 := sx_3.keep c8
   have sx_9 := sx_8.to c9 (by first | exact fun _ _ _ _ => id | (intro q h1 h2 hx h3; have := hX q h2; omega))
   have sy_8 := sy_3.keep c8
   have sy_9 := sy_8.to c9 (by first | exact fun _ _ _ _ => id | (intro q h1 h2 hx h3; have := hY q h2; omega))
   have CH_8 := CH_3.and c8
   have CH_9 : Ch (No) w w9 := CH_8.then c9 (by intro q h1 h2; rcases h2 with h2 | h2 <;> first | exact h2 | (exfalso; omega) | omega)
   exact ⟨(by omega), (ho.step (by omega) F8), (by omega), o9, sx_9, sy_9, CH_9⟩
 ·
  refine VC.exit (VQ.then_exit (VQ.then_exit (VQ.block_exit (VQ.then_code (VC.seq (VC.region (VO.mv (Rn.move rfl) rfl rfl rfl ?_)))))))
  refine VO.mv (Rn.assign rfl) rfl rfl rfl (VO.mv (Rn.assign rfl) rfl rfl rfl (VO.nil (VQ.then_code (VC.ret (VQ.ret2 rfl rfl rfl (Ret.mk ?_))))))
  obtain rfl : k = ((la : Int) + (lb : Int) - 1).toNat := by omega
  have e9 : ((la : Int) + (lb : Int) - 1).toNat = la + lb - 1 := by omega
  have o9 := ou_2; rw [e9] at o9 ho
  exact ⟨_, os, congrArg (fun m => Value.tuple #[.slice (some ⟨p1, 0, none⟩) m m, .nilIface]) e9, o9, ho, by omega, CH_2⟩
set_option maxRecDepth 100000 in
theorem ring_Size (a b : Nat) (w : World) (h : 1 ≤ a ∧ 1 ≤ b ∧ a + b ≤ 5) :
  Calls Tryz.prog 80 #[.int .i64 a, .int .i64 b] w (Ret (fun v w' => (∃ n : Nat, v = .tuple #[.int .i64 n, .nilIface] ∧ N3 n ∧ a + b ≤ n + 1) ∧ w = w')) := by
 refine calls_of_VC (args := [.int .i64 a, .int .i64 b]) Tryz.func80 rfl Tryz.ntmps80 rfl (VC.seq (VC.region (VO.mv (Rn.assign rfl) rfl rfl rfl (VO.mv (Rn.assign rfl) rfl rfl rfl (VO.nil (VQ.then_code (VC.seq ?_)))))))
 refine VC.seq (VC.region (VO.mv (Rn.move rfl) rfl rfl rfl (VO.mv (Rn.lssF rfl rfl (by omega)) rfl rfl rfl (VO.mv (Rn.move rfl) rfl rfl rfl (VO.mv (Rn.move rfl) rfl rfl rfl (VO.mv (Rn.lssF rfl rfl (by omega)) rfl rfl rfl (VO.mv (Rn.pick_false rfl rfl) rfl rfl rfl ?_)))))))
 refine VO.mv (Rn.move rfl) rfl rfl rfl (VO.mv (Rn.move rfl) rfl rfl rfl (VO.mv (Rn.gtrF rfl rfl (by omega)) rfl rfl rfl (VO.mv (Rn.pick_false rfl rfl) rfl rfl rfl (VO.mv (Rn.move rfl) rfl rfl rfl (VO.mv (Rn.move rfl) rfl rfl rfl (VO.mv (Rn.gtrF rfl rfl (by omega)) rfl rfl rfl (VO.mv (Rn.pick_false rfl rfl) rfl rfl rfl ?_)))))))
 refine VO.mv (Rn.move rfl) rfl rfl rfl (VO.mv (Rn.move rfl) rfl rfl rfl (VO.mv (Rn.move rfl) rfl rfl rfl ?_))
 refine VO.mv (Rn.add rfl rfl (by rw [IntKind.wrap_i64]; omega)) rfl rfl rfl ?_
 refine VO.mv (Rn.sub rfl rfl (by rw [IntKind.wrap_i64]; omega)) rfl rfl rfl ?_
 refine VO.mv (Rn.gtrF rfl rfl (by omega)) rfl rfl rfl (VO.mv (Rn.pick_false rfl rfl) rfl rfl rfl (VO.nil (VQ.then_code (VC.cond_false rfl (VC.skip (VQ.then_code (VC.seq ?_)))))))
 refine VC.region (VO.mv (Rn.assign rfl) rfl rfl rfl (VO.nil (VQ.then_code (VC.seq (VC.block (VC.loopS (σ := Nat) (fun n => [(0, .int .i64 a), (1, .int .i64 b), (6, .int .i64 n)]) (fun n w' => w = w' ∧ (n = 1 ∨ n = 2 ∨ n = 4)) (fun n => 5 - n) 1 ?_ ⟨rfl, rfl, rfl, trivial⟩ ?_))))))
 · exact ⟨rfl, .inl rfl⟩
 rintro n _ ⟨rfl, hd⟩
 show VC _ _ _ _ [(0, .int .i64 a), (1, .int .i64 b), (6, .int .i64 n)] _
 refine VC.seq (VC.seq (VC.region (VO.mv (Rn.move rfl) rfl rfl rfl (VO.mv (Rn.move rfl) rfl rfl rfl (VO.mv (Rn.move rfl) rfl rfl rfl ?_)))))
 refine VO.mv (Rn.add rfl rfl (by rw [IntKind.wrap_i64]; omega)) rfl rfl rfl ?_
 refine VO.mv (Rn.sub rfl rfl (by rw [IntKind.wrap_i64]; omega)) rfl rfl rfl ?_
 refine VO.mv (Rn.lss rfl rfl) rfl rfl rfl (VO.nil (VQ.then_code (VC.cond_if rfl (fun hc1 => ?_) (fun hc1 => ?_))))
 ·
  refine VC.skip (VQ.then_code (VC.block (VC.region (VO.mv (Rn.move rfl) rfl rfl rfl ?_))))
  refine VO.mv (Rn.mul rfl rfl (by rw [IntKind.wrap_i64]; omega)) rfl rfl rfl ?_
  refine VO.mv (Rn.assign rfl) rfl rfl rfl (VO.nil (VQ.block_normal ?_))
  refine VQ.round (n * 2) (by first | omega | (dsimp only; omega)) ?_ ⟨rfl, rfl, rfl, trivial⟩
  exact ⟨rfl, by omega⟩
 ·
  refine VC.exit (VQ.then_exit (VQ.then_exit (VQ.block_exit (VQ.then_code (VC.seq (VC.region (VO.mv (Rn.move rfl) rfl rfl rfl ?_)))))))
  refine VO.mv (Rn.assign rfl) rfl rfl rfl (VO.mv (Rn.assign rfl) rfl rfl rfl (VO.nil (VQ.then_code (VC.ret (VQ.ret2 rfl rfl rfl (Ret.mk ?_))))))
  exact ⟨⟨n, rfl, ⟨hd⟩, by omega⟩, rfl⟩
end Go.Tm
