/- Lemmas of this claim, joined by program. Leaves on whole numbers: what comes out is exact, and the inverse brings the list back. The half on whole numbers, in plain Lean: halves, twists by powers of minus i, there and back, two at once. Walks of functions: halves of 1, 2 and 4 whole numbers: Forward, Inverse. Walks of functions: halves of 1, 2 and 4 whole numbers: Inverse, Full, Two. Walks of functions: Full, Two; the law's own answer; lists held against each other. Rows of pairs of whole numbers (structs of two numbers). Convolutions of whole numbers, in plain Lean. Walks of functions: sums from the left; the convolutions by their sums, on whole numbers. append where there is room; append of a made row. Walks of functions: the linear convolution by its sum; convolutions by plans of 1, 2 and 4. Grids of whole numbers, in plain Lean: rows, turned grids, transforms of two dimensions. Walks of functions: grids of whole numbers, their rows, turned, transformed. Conditions: each lemma names its own. -/
import Derived.Test.YtdgiiehbbmfgoaaGreatDoorD14
import Derived.Test.YtdgiiehbbmfgoaaGreatDoorD10
set_option linter.all false
namespace Go.Tm
open Ieee
def WhC (z : Cx) (a b : Int) : Prop := Wh z.1 a ∧ Wh z.2 b
def B44 (a : Int) : Prop := -17592186044416 ≤ a ∧ a ≤ 17592186044416
theorem sm_of {a : Int} (h1 : -1000000000000000 ≤ a) (h2 : a ≤ 1000000000000000) : Sm a := by unfold Sm; omega
theorem WhC.plus {x y : Cx} {a b c d : Int} (hx : WhC x a b) (hy : WhC y c d) (ha : -100000000000000 ≤ a ∧ a ≤ 100000000000000) (hb : -100000000000000 ≤ b ∧ b ≤ 100000000000000) (hc : -100000000000000 ≤ c ∧ c ≤ 100000000000000) (hd : -100000000000000 ≤ d ∧ d ≤ 100000000000000) : WhC (plusC x y) (a + c) (b + d) :=
  ⟨hx.1.add hy.1 (sm_of (by omega) (by omega)) (sm_of (by omega) (by omega)) (sm_of (by omega) (by omega)), hx.2.add hy.2 (sm_of (by omega) (by omega)) (sm_of (by omega) (by omega)) (sm_of (by omega) (by omega))⟩
theorem WhC.less {x y : Cx} {a b c d : Int} (hx : WhC x a b) (hy : WhC y c d) (ha : -100000000000000 ≤ a ∧ a ≤ 100000000000000) (hb : -100000000000000 ≤ b ∧ b ≤ 100000000000000) (hc : -100000000000000 ≤ c ∧ c ≤ 100000000000000) (hd : -100000000000000 ≤ d ∧ d ≤ 100000000000000) : WhC (lessC x y) (a - c) (b - d) :=
  ⟨hx.1.sub hy.1 (sm_of (by omega) (by omega)) (sm_of (by omega) (by omega)) (sm_of (by omega) (by omega)), hx.2.sub hy.2 (sm_of (by omega) (by omega)) (sm_of (by omega) (by omega)) (sm_of (by omega) (by omega))⟩
theorem WhC.minusI {x : Cx} {a b : Int} (hx : WhC x a b) (ha : -100000000000000 ≤ a ∧ a ≤ 100000000000000) : WhC (minusI x) b (-a) := ⟨hx.2, hx.1.neg (sm_of (by omega) (by omega))⟩
theorem WhC.timesI {x : Cx} {a b : Int} (hx : WhC x a b) (hb : -100000000000000 ≤ b ∧ b ≤ 100000000000000) : WhC (timesI x) (-b) a := ⟨hx.2.neg (sm_of (by omega) (by omega)), hx.1⟩
theorem WhC.conj {x : Cx} {a b : Int} (hx : WhC x a b) (hb : -100000000000000 ≤ b ∧ b ≤ 100000000000000) : WhC (conjC x) a (-b) := ⟨hx.1, hx.2.neg (sm_of (by omega) (by omega))⟩
theorem WhC.mul {z w : Cx} {a b c s : Int} (hz : WhC z a b) (hw : WhC w c s) (ha : B44 a) (hb : B44 b) (hc : c = -1 ∨ c = 0 ∨ c = 1) (hs : s = -1 ∨ s = 0 ∨ s = 1) : WhC (mulC z w) (a * c - b * s) (a * s + b * c) := by
  obtain ⟨a1, a2⟩ := ha
  obtain ⟨b1, b2⟩ := hb
  rcases hc with rfl | rfl | rfl <;> rcases hs with rfl | rfl | rfl <;>
    exact ⟨(hz.1.mul hw.1 (sm_of (by omega) (by omega)) (sm_of (by omega) (by omega)) (sm_of (by omega) (by omega))).sub (hz.2.mul hw.2 (sm_of (by omega) (by omega)) (sm_of (by omega) (by omega)) (sm_of (by omega) (by omega))) (sm_of (by omega) (by omega)) (sm_of (by omega) (by omega)) (sm_of (by omega) (by omega)),
      (hz.1.mul hw.2 (sm_of (by omega) (by omega)) (sm_of (by omega) (by omega)) (sm_of (by omega) (by omega))).add (hz.2.mul hw.1 (sm_of (by omega) (by omega)) (sm_of (by omega) (by omega)) (sm_of (by omega) (by omega))) (sm_of (by omega) (by omega)) (sm_of (by omega) (by omega)) (sm_of (by omega) (by omega))⟩
theorem cn_wd (s : Bool) {c : Nat} (h : c < 2 ^ 53) : cn (wd s c) = some (wd s c) := by
  rw [cn_eq, if_neg]
  unfold wd
  by_cases h0 : c = 0
  · subst h0; cases s <;> simp
  · obtain ⟨h1, h2, h3⟩ := log2_bd h0 h
    rw [if_neg h0]
    generalize c * 2 ^ (52 - c.log2) = K at *
    generalize c.log2 = L at *
    cases s <;> simp <;> omega
theorem Wh.cn_int {a : Int} (ha : Sm a) : Wh (fi a) a := by
  obtain ⟨s, e, h⟩ := Wh.of_int ha
  injection e with e
  refine ⟨s, ?_, h⟩
  show cn (FloatKind.f64.nearest a) = _
  rw [e, cn_wd s ha]
theorem WhC.over {z : Cx} {a b n p q : Int} (hz : WhC z a b) (hn : 0 < n ∧ n ≤ 16) (ha : a = p * n) (hb : b = q * n) (h1 : -1000000000000000 ≤ a ∧ a ≤ 1000000000000000) (h2 : -1000000000000000 ≤ b ∧ b ≤ 1000000000000000) (h3 : Sm p) (h4 : Sm q) : WhC (overC z n) p q :=
  have hf := Wh.cn_int (a := n) (sm_of (by omega) (by omega))
  ⟨hz.1.quo hf (sm_of (by omega) (by omega)) (sm_of (by omega) (by omega)) hn.1 ha h3, hz.2.quo hf (sm_of (by omega) (by omega)) (sm_of (by omega) (by omega)) hn.1 hb h4⟩
def uvS (n k j : Nat) (a b : Int) (x : Int × Int) : Int × Int :=
  if 4 * (j * k) / n % 4 = 0 then (x.1 + a, x.2 + b) else if 4 * (j * k) / n % 4 = 1 then (x.1 + b, x.2 - a) else if 4 * (j * k) / n % 4 = 2 then (x.1 - a, x.2 - b) else (x.1 - b, x.2 + a)
def uvL (n k : Nat) (us bs : Nat → Int) : Nat → Int × Int
  | 0 => (0, 0)
  | j + 1 => uvS n k j (us j) (bs j) (uvL n k us bs j)
theorem uv_bd {n k : Nat} {us bs : Nat → Int} {B : Int} (h : ∀ j, (-B ≤ us j ∧ us j ≤ B) ∧ -B ≤ bs j ∧ bs j ≤ B) : ∀ j : Nat, j ≤ 4 → (-(4 * B) ≤ (uvL n k us bs j).1 ∧ (uvL n k us bs j).1 ≤ 4 * B) ∧ -(4 * B) ≤ (uvL n k us bs j).2 ∧ (uvL n k us bs j).2 ≤ 4 * B := by
  have hB : 0 ≤ B := by have := h 0; omega
  have key : ∀ j : Nat, j ≤ 4 → ∃ c : Int, c ≤ 4 * B ∧ c = j * B ∧ (-c ≤ (uvL n k us bs j).1 ∧ (uvL n k us bs j).1 ≤ c) ∧ -c ≤ (uvL n k us bs j).2 ∧ (uvL n k us bs j).2 ≤ c := by
    intro j
    induction j with
    | zero => intro _; exact ⟨0, by omega, by simp, by simp [uvL], by simp [uvL]⟩
    | succ j ih =>
      intro hj
      obtain ⟨c, h1, h2, h3, h4⟩ := ih (by omega)
      have e : (((j + 1 : Nat) : Int)) * B = c + B := by rw [h2]; push_cast; rw [Int.add_mul, Int.one_mul]
      have hle : c + B ≤ 4 * B := by
        rw [← e]
        exact Int.mul_le_mul_of_nonneg_right (by omega) hB
      have := h j
      refine ⟨c + B, hle, e.symm, ?_⟩
      simp only [uvL, uvS]
      split
      · simp only; omega
      · split
        · simp only; omega
        · split <;> simp only <;> omega
  intro j hj
  obtain ⟨c, h1, h2, h3, h4⟩ := key j hj
  omega
def rB (q : Nat) : CB := (pzB (tur q).1, pzB (Op.negFloat .f64 (pzB (tur q).2)))
theorem root_wh (q : Nat) (h : q < 4) : WhC (cx (rB q)) (if q = 0 then 1 else if q = 2 then -1 else 0) (if q = 1 then -1 else if q = 3 then 1 else 0) := by
  match q, h with
  | 0, _ => exact ⟨⟨false, by kernel_rfl, by decide⟩, ⟨false, by kernel_rfl, by decide⟩⟩
  | 1, _ => exact ⟨⟨false, by kernel_rfl, by decide⟩, ⟨true, by kernel_rfl, by decide⟩⟩
  | 2, _ => exact ⟨⟨true, by kernel_rfl, by decide⟩, ⟨false, by kernel_rfl, by decide⟩⟩
  | 3, _ => exact ⟨⟨false, by kernel_rfl, by decide⟩, ⟨false, by kernel_rfl, by decide⟩⟩
theorem term_wh {n m : Nat} (hn : n = 1 ∨ n = 2 ∨ n = 4) {z : Cx} {a b : Int} (hz : WhC z a b) (ha : B44 a) (hb : B44 b) :
    WhC (if m % n = 0 then z else mulC z (cx (rootB n (m % n)))) (if 4 * m / n % 4 = 0 then a else if 4 * m / n % 4 = 1 then b else if 4 * m / n % 4 = 2 then -a else -b) (if 4 * m / n % 4 = 0 then b else if 4 * m / n % 4 = 1 then -a else if 4 * m / n % 4 = 2 then -b else a) := by
  have one : WhC (mulC z (cx (rB 1))) b (-a) := by have := hz.mul (root_wh 1 (by decide)) ha hb (by decide) (by decide); simpa using this
  have two : WhC (mulC z (cx (rB 2))) (-a) (-b) := by have := hz.mul (root_wh 2 (by decide)) ha hb (by decide) (by decide); simpa using this
  have three : WhC (mulC z (cx (rB 3))) (-b) a := by have := hz.mul (root_wh 3 (by decide)) ha hb (by decide) (by decide); simpa using this
  rcases hn with rfl | rfl | rfl
  · rw [if_pos (Nat.mod_one m), if_pos (by omega), if_pos (by omega)]; exact hz
  · by_cases h : m % 2 = 0
    · rw [if_pos h, if_pos (by omega), if_pos (by omega)]; exact hz
    · have e : m % 2 = 1 := by omega
      have q : 4 * m / 2 % 4 = 2 := by omega
      rw [if_neg h, q, e]; exact two
  · have q : 4 * m / 4 % 4 = m % 4 := by omega
    rw [q]
    have : m % 4 < 4 := Nat.mod_lt _ (by decide)
    match m % 4, this with
    | 0, _ => exact hz
    | 1, _ => exact one
    | 2, _ => exact two
    | 3, _ => exact three
theorem uvS_eq (n k j : Nat) (a b : Int) (x : Int × Int) : uvS n k j a b x = (x.1 + (if 4 * (j * k) / n % 4 = 0 then a else if 4 * (j * k) / n % 4 = 1 then b else if 4 * (j * k) / n % 4 = 2 then -a else -b), x.2 + (if 4 * (j * k) / n % 4 = 0 then b else if 4 * (j * k) / n % 4 = 1 then -a else if 4 * (j * k) / n % 4 = 2 then -b else a)) := by
  unfold uvS
  split
  · rfl
  · split
    · rw [Int.sub_eq_add_neg]
    · split
      · rw [Int.sub_eq_add_neg, Int.sub_eq_add_neg]
      · rw [Int.sub_eq_add_neg]
theorem sum_whC {n k : Nat} (hn : n = 1 ∨ n = 2 ∨ n = 4) {X : Nat → Cx} {us bs : Nat → Int} (hb : ∀ j, B44 (us j) ∧ B44 (bs j)) (hX : ∀ j, j < n → WhC (X j) (us j) (bs j)) : ∀ j, j < n → WhC (sumC n k X j) (uvL n k us bs (j + 1)).1 (uvL n k us bs (j + 1)).2 := by
  intro j
  induction j with
  | zero =>
    intro hj
    have := hX 0 hj
    simp only [sumC, uvL, uvS, Nat.zero_mul, Nat.mul_zero, Nat.zero_div, Nat.zero_mod, if_true, Int.zero_add]
    exact this
  | succ j ih =>
    intro hj
    have h1 := ih (by omega)
    have h2 := term_wh (m := (j + 1) * k) hn (hX (j + 1) hj) (hb _).1 (hb _).2
    have bd := uv_bd (n := n) (k := k) (us := us) (bs := bs) (B := 17592186044416) hb (j + 1) (by omega)
    have b1 := hb (j + 1)
    unfold B44 at b1
    have e : uvL n k us bs (j + 1 + 1) = uvS n k (j + 1) (us (j + 1)) (bs (j + 1)) (uvL n k us bs (j + 1)) := rfl
    rw [e, uvS_eq]
    show WhC (plusC (sumC n k X j) _) _ _
    refine h1.plus h2 (by omega) (by omega) ?_ ?_
    · split
      · omega
      · split
        · omega
        · split <;> omega
    · split
      · omega
      · split
        · omega
        · split <;> omega
theorem direct_whC {n k : Nat} (hn : n = 1 ∨ n = 2 ∨ n = 4) {X : Nat → Cx} {us bs : Nat → Int} (hb : ∀ j, B44 (us j) ∧ B44 (bs j)) (hX : ∀ j, j < n → WhC (X j) (us j) (bs j)) : WhC (directC n k X) (uvL n k us bs n).1 (uvL n k us bs n).2 := by
  have := sum_whC (k := k) hn hb hX (n - 1) (by omega)
  rw [show n - 1 + 1 = n by omega] at this
  exact this
def WhL (zs : List Cx) (n : Nat) (us bs : Nat → Int) : Prop := zs.length = n ∧ ∀ k, k < n → WhC (zs.getD k z0) (us k) (bs k)
def bD (n : Nat) : Bld := ⟨n, 2 * n, 0, n, [⟨6, n, 0, 1, n, n, 0⟩], n, 2 * n⟩
def bF (n : Nat) : Bld := ⟨n, 2 * n, 0, n, [⟨1, n, 0, 1, n, 0, 0⟩, ⟨5, n, 0, 1, 1, n, 0⟩], n + 1, 2 * n⟩
theorem sum_congr {n k : Nat} {X Y : Nat → Cx} : ∀ m, (∀ j, j ≤ m → X j = Y j) → sumC n k X m = sumC n k Y m
  | 0, h => h 0 (Nat.le_refl 0)
  | m + 1, h => by
    rw [sumC, sumC, sum_congr m (fun j hj => h j (by omega)), h (m + 1) (Nat.le_refl _)]
theorem direct_acts {n : Nat} {zs : List Cx} (h : zs.length = n) : ∀ i, i ≤ n → actsC ⟨6, n, 0, 1, n, n, 0⟩ (zs ++ List.replicate n z0) i = zs ++ ((List.range i).map (fun i => directC n i (fun j => zs.getD j z0)) ++ List.replicate (n - i) z0)
  | 0, _ => by simp [actsC]
  | i + 1, hi => by
    rw [actsC, direct_acts h i (by omega)]
    unfold actC
    rw [if_neg (show ¬ (6 : Int) = 1 by decide), if_neg (show ¬ (6 : Int) = 5 by decide), if_pos (show (6 : Int) = 6 from rfl)]
    simp only [Int.toNat_natCast, Int.toNat_zero, Nat.zero_add]
    have e1 : (1 : Int).toNat = 1 := rfl
    have e : directC n i (fun j => (zs ++ ((List.range i).map (fun i => directC n i (fun j => zs.getD j z0)) ++ List.replicate (n - i) z0)).getD (j * (1 : Int).toNat) z0) = directC n i (fun j => zs.getD j z0) := by
      refine sum_congr _ fun j hj => ?_
      rw [e1, Nat.mul_one]
      simp only [List.getD]
      rw [List.getElem?_append_left (by omega)]
    rw [e]
    obtain ⟨m, hm⟩ : ∃ m, n - i = m + 1 := ⟨n - i - 1, by omega⟩
    rw [hm, show n - (i + 1) = m by omega, List.set_append_right _ _ (by omega), List.set_append_right _ _ (by simp; omega), List.range_succ, List.map_append]
    simp [h, List.replicate_succ]
theorem load_zero {n : Nat} {zs : List Cx} (h : zs.length = n) : loadC (2 * n) 0 zs = zs ++ List.replicate n z0 := by
  simp [loadC, h]; omega
theorem fwd_direct {n : Nat} {zs : List Cx} (h : zs.length = n) : fwdC (bD n) zs = (List.range n).map (fun i => directC n i (fun j => zs.getD j z0)) := by
  have e1 : ((2 : Int) * (n : Int)).toNat = 2 * n := by omega
  unfold fwdC
  simp only [bD, e1, Int.toNat_zero, Int.toNat_natCast]
  rw [load_zero h]
  simp only [runC, List.foldl_cons, List.foldl_nil, Int.toNat_natCast]
  rw [direct_acts h n (Nat.le_refl n)]
  simp [h]
  exact List.take_of_length_le (by simp)
theorem fwd_fly2 (x y : Cx) : fwdC (bF 2) [x, y] = flyC [x, y] := rfl
theorem fwd_fly4 (x y u v : Cx) : fwdC (bF 4) [x, y, u, v] = flyC [x, y, u, v] := rfl
inductive Leaf : Nat → Bld → Prop
  | d1 : Leaf 1 (bD 1)
  | d2 : Leaf 2 (bD 2)
  | d4 : Leaf 4 (bD 4)
  | f2 : Leaf 2 (bF 2)
  | f4 : Leaf 4 (bF 4)
theorem Leaf.n {n : Nat} {b : Bld} (h : Leaf n b) : n = 1 ∨ n = 2 ∨ n = 4 := by cases h <;> simp
theorem Leaf.ln {n : Nat} {b : Bld} (h : Leaf n b) : b.ln = n := by cases h <;> rfl
theorem fwd_leaf {n : Nat} {b : Bld} (h : Leaf n b) {zs : List Cx} {us bs : Nat → Int} (hz : WhL zs n us bs) (hb : ∀ j, B44 (us j) ∧ B44 (bs j)) : WhL (fwdC b zs) n (fun k => (uvL n k us bs n).1) (fun k => (uvL n k us bs n).2) := by
  have D : ∀ {n : Nat}, (n = 1 ∨ n = 2 ∨ n = 4) → WhL zs n us bs → WhL (fwdC (bD n) zs) n (fun k => (uvL n k us bs n).1) (fun k => (uvL n k us bs n).2) := by
    intro n hn hz
    rw [fwd_direct hz.1]
    refine ⟨by simp, fun k hk => ?_⟩
    have e : ((List.range n).map (fun i => directC n i (fun j => zs.getD j z0))).getD k z0 = directC n k (fun j => zs.getD j z0) := by simp [List.getD, hk]
    rw [e]
    exact direct_whC hn hb hz.2
  have bd := fun j => (hb j)
  unfold B44 at bd
  cases h with
  | d1 => exact D (by decide) hz
  | d2 => exact D (by decide) hz
  | d4 => exact D (by decide) hz
  | f2 =>
    obtain ⟨hl, hz⟩ := hz
    match zs, hl with
    | [x, y], _ =>
      have h0 := hz 0 (by decide)
      have h1 := hz 1 (by decide)
      have b0 := bd 0
      have b1 := bd 1
      rw [fwd_fly2]
      refine ⟨rfl, fun k hk => ?_⟩
      match k, hk with
      | 0, _ =>
        have := h0.plus h1 (by omega) (by omega) (by omega) (by omega)
        show WhC (plusC x y) (uvL 2 0 us bs 2).1 (uvL 2 0 us bs 2).2
        simpa [uvL, uvS] using this
      | 1, _ =>
        have := h0.less h1 (by omega) (by omega) (by omega) (by omega)
        show WhC (lessC x y) (uvL 2 1 us bs 2).1 (uvL 2 1 us bs 2).2
        simpa [uvL, uvS] using this
  | f4 =>
    obtain ⟨hl, hz⟩ := hz
    match zs, hl with
    | [x, y, u, v], _ =>
      have h0 : WhC x (us 0) (bs 0) := hz 0 (by decide)
      have h1 : WhC y (us 1) (bs 1) := hz 1 (by decide)
      have h2 : WhC u (us 2) (bs 2) := hz 2 (by decide)
      have h3 : WhC v (us 3) (bs 3) := hz 3 (by decide)
      have b0 := bd 0
      have b1 := bd 1
      have b2 := bd 2
      have b3 := bd 3
      have p := h0.plus h2 (by omega) (by omega) (by omega) (by omega)
      have q := h0.less h2 (by omega) (by omega) (by omega) (by omega)
      have s := h1.plus h3 (by omega) (by omega) (by omega) (by omega)
      have t := h1.less h3 (by omega) (by omega) (by omega) (by omega)
      rw [fwd_fly4]
      refine ⟨rfl, fun k hk => ?_⟩
      match k, hk with
      | 0, _ =>
        have := p.plus s (by omega) (by omega) (by omega) (by omega)
        have e : uvL 4 0 us bs 4 = (us 0 + us 2 + (us 1 + us 3), bs 0 + bs 2 + (bs 1 + bs 3)) := by simp [uvL, uvS]; omega
        show WhC _ (uvL 4 0 us bs 4).1 (uvL 4 0 us bs 4).2
        rw [e]; exact this
      | 1, _ =>
        have := q.plus (t.minusI (by omega)) (by omega) (by omega) (by omega) (by omega)
        have e : uvL 4 1 us bs 4 = (us 0 - us 2 + (bs 1 - bs 3), bs 0 - bs 2 + -(us 1 - us 3)) := by simp [uvL, uvS]; omega
        show WhC _ (uvL 4 1 us bs 4).1 (uvL 4 1 us bs 4).2
        rw [e]; exact this
      | 2, _ =>
        have := p.less s (by omega) (by omega) (by omega) (by omega)
        have e : uvL 4 2 us bs 4 = (us 0 + us 2 - (us 1 + us 3), bs 0 + bs 2 - (bs 1 + bs 3)) := by simp [uvL, uvS]; omega
        show WhC _ (uvL 4 2 us bs 4).1 (uvL 4 2 us bs 4).2
        rw [e]; exact this
      | 3, _ =>
        have := q.plus (t.timesI (by omega)) (by omega) (by omega) (by omega) (by omega)
        have e : uvL 4 3 us bs 4 = (us 0 - us 2 + -(bs 1 - bs 3), bs 0 - bs 2 + (us 1 - us 3)) := by simp [uvL, uvS]; omega
        show WhC _ (uvL 4 3 us bs 4).1 (uvL 4 3 us bs 4).2
        rw [e]; exact this
theorem uv_back {n : Nat} (hn : n = 1 ∨ n = 2 ∨ n = 4) (us bs : Nat → Int) {k : Nat} (hk : k < n) : uvL n k (fun j => (uvL n j us bs n).1) (fun j => -(uvL n j us bs n).2) n = (us k * n, -(bs k * n)) := by
  rcases hn with rfl | rfl | rfl
  · match k, hk with
    | 0, _ => simp [uvL, uvS]
  · match k, hk with
    | 0, _ => simp [uvL, uvS]; omega
    | 1, _ => simp [uvL, uvS]; omega
  · match k, hk with
    | 0, _ => simp [uvL, uvS]; omega
    | 1, _ => simp [uvL, uvS]; omega
    | 2, _ => simp [uvL, uvS]; omega
    | 3, _ => simp [uvL, uvS]; omega
theorem mapC_getD {f : Cx → Cx} {l : List Cx} {k : Nat} (h : k < l.length) : (l.map f).getD k z0 = f (l.getD k z0) := by
  simp [List.getD, h]
theorem WhL.conj {zs : List Cx} {n : Nat} {us bs : Nat → Int} (h : WhL zs n us bs) (hb : ∀ j, -100000000000000 ≤ bs j ∧ bs j ≤ 100000000000000) : WhL (zs.map conjC) n us (fun j => -bs j) :=
  ⟨by rw [List.length_map]; exact h.1, fun k hk => by rw [mapC_getD (by rw [h.1]; exact hk)]; exact (h.2 k hk).conj (hb k)⟩
structure LeafOk (n : Nat) (b : Bld) : Prop where
  ok : PrgOk b (2 * n)
  okb : okB b
  ne : 1 ≤ b.steps.length
  ac : 1 ≤ cntS b.steps
  nf : b.full = false
theorem Leaf.ok {n : Nat} {b : Bld} (h : Leaf n b) : LeafOk n b := by
  cases h <;> exact ⟨⟨by decide, by decide, by decide, by decide, by decide, by decide, by decide, by decide⟩, ⟨by decide, by decide, by decide⟩, by decide, by decide, by decide⟩
theorem leaf_of {kd : Int} {n : Nat} (hn : n = 1 ∨ n = 2 ∨ n = 4) (h : kd = 1 ∨ (kd = 2 ∧ 1 < n)) : Leaf n (buildM (.mk kd n [])) ∧ (Ord.mk kd n []).len = n := by
  rcases hn with rfl | rfl | rfl <;> rcases h with rfl | ⟨rfl, h⟩
  · exact ⟨by rw [show buildM (.mk 1 ((1 : Nat) : Int) []) = bD 1 by kernel_rfl]; exact .d1, by kernel_rfl⟩
  · omega
  · exact ⟨by rw [show buildM (.mk 1 ((2 : Nat) : Int) []) = bD 2 by kernel_rfl]; exact .d2, by kernel_rfl⟩
  · exact ⟨by rw [show buildM (.mk 2 ((2 : Nat) : Int) []) = bF 2 by kernel_rfl]; exact .f2, by kernel_rfl⟩
  · exact ⟨by rw [show buildM (.mk 1 ((4 : Nat) : Int) []) = bD 4 by kernel_rfl]; exact .d4, by kernel_rfl⟩
  · exact ⟨by rw [show buildM (.mk 2 ((4 : Nat) : Int) []) = bF 4 by kernel_rfl]; exact .f4, by kernel_rfl⟩
theorem best4 {r : Ord × Int} (h : Best PU 4 r) : r.1 = .mk 2 ((4 : Nat) : Int) [] := by
  have e : (bestF PU 30 4).map (·.1) = some (.mk 2 ((4 : Nat) : Int) []) := by kernel_rfl
  cases hb : bestF PU 30 4 with
  | none => rw [hb] at e; cases e
  | some r' =>
    rw [hb] at e
    rw [h.unique ⟨30, hb⟩]
    exact Option.some.inj e
theorem Wh.of_cn {u : Nat} {a : Int} (h : Wh (cn u) a) : Wh (some u) a := by
  obtain ⟨s, e, hs⟩ := h
  unfold cn at e
  split at e
  · cases e
  · exact ⟨s, e, hs⟩
theorem Wh.eq_true {u v : Nat} {a : Int} (hx : Wh (cn u) a) (hy : Wh (cn v) a) (ha : Sm a) : (Ieee.double.order u v == some .eq) = true := by
  rw [Wh.order hx.of_cn hy.of_cn ha ha]; simp
theorem ceq_true {x y : CB} {a b : Int} (hx : WhC (cx x) a b) (hy : WhC (cx y) a b) (ha : Sm a) (hb : Sm b) : ceq x y = true := by
  unfold ceq
  rw [Wh.eq_true hx.1 hy.1 ha, Wh.eq_true hx.2 hy.2 hb]; rfl
theorem whC_int {a b : Int} (ha : Sm a) (hb : Sm b) : WhC (cx (FloatKind.f64.nearest a, FloatKind.f64.nearest b)) a b := ⟨Wh.cn_int ha, Wh.cn_int hb⟩
end Go.Tm
namespace Go.Tm
def hal : Fl := cn 4602678819172646912
theorem hal_some : hal = some 4602678819172646912 := by kernel_rfl
theorem hal_read : Ieee.double.read 4602678819172646912 = .number false 4503599627370496 (-53) := by kernel_rfl
theorem Wh.half {x : Fl} {a : Int} (hx : Wh x (2 * a)) (ha : Sm (2 * a)) : Wh (fmul x hal) a := by
  obtain ⟨u, rfl, hu⟩ := hx.dw ha
  obtain ⟨s, k, e, hs, -, -⟩ := hu
  rw [hal_some]
  show Wh (((Ieee.double.read u).product (Ieee.double.read 4602678819172646912)).map Ieee.double.write) _
  rw [e, hal_read]
  refine ⟨s ^^ false, ?_, fun h => ?_⟩
  · show some (Ieee.double.nearest (s ^^ false) ((2 * a).natAbs * 2 ^ k * 4503599627370496) (-(k : Int) + -53)) = _
    rw [show (-(k : Int) + -53) = -((k + 53 : Nat) : Int) by omega, nearest_wd (c := a.natAbs) _ (by unfold Sm at ha; omega)]
    rw [Int.natAbs_mul, Nat.pow_add, show (2 : Nat) ^ 53 = 2 * 4503599627370496 from rfl, show (2 : Int).natAbs = 2 from rfl]
    ac_rfl
  · rw [hs (by omega)]
    by_cases p : a < 0
    · simp [p]; omega
    · simp [p]; omega
def timesR (z : Cx) : Cx := (fmul z.1 hal, fmul z.2 hal)
theorem WhC.cast {z : Cx} {a b a' b' : Int} (h : WhC z a b) (e1 : a = a') (e2 : b = b') : WhC z a' b' := by subst e1 e2; exact h
def B46 (a : Int) : Prop := -70368744177664 ≤ a ∧ a ≤ 70368744177664
theorem WhC.half {z : Cx} {a b : Int} (hz : WhC z (2 * a) (2 * b)) (ha : B46 a) (hb : B46 b) : WhC (timesR z) a b :=
  ⟨hz.1.half (sm_of (by unfold B46 at ha; omega) (by unfold B46 at ha; omega)), hz.2.half (sm_of (by unfold B46 at hb; omega) (by unfold B46 at hb; omega))⟩
def evenC (a b : Cx) : Cx := timesR (plusC a b)
def oddC (a b : Cx) : Cx := timesR (lessC a b)
def moddC (x y : Cx) : Cx := timesR (minusI (lessC x y))
def rotI (m : Nat) (a b : Int) : Int × Int := if m = 0 then (a, b) else if m = 1 then (b, -a) else if m = 2 then (-a, -b) else (-b, a)
abbrev no0 : Nat → Int := fun _ => 0
def U40 (us : Nat → Int) : Prop := ∀ j, -1099511627776 ≤ us j ∧ us j ≤ 1099511627776
def fwdH (h : Nat) (z : Nat → Cx) (k : Nat) : Cx :=
  plusC (evenC (z (k % h)) (conjC (z ((h - k) % h)))) (twistF (moddC (z (k % h)) (conjC (z ((h - k) % h)))) (2 * h) k)
def invZ (h : Nat) (f : Nat → Cx) (k : Nat) : Cx :=
  plusC (evenC (f k) (conjC (f (h - k)))) (timesI (twistF (oddC (f k) (conjC (f (h - k)))) (2 * h) ((2 * h - k) % (2 * h))))
theorem inv_leafG {n : Nat} {b : Bld} (h : Leaf n b) {zs : List Cx} {us bs : Nat → Int} (h1 : WhL zs n (fun k => (uvL n k us bs n).1) (fun k => (uvL n k us bs n).2)) (hb : ∀ j, (-1099511627776 ≤ us j ∧ us j ≤ 1099511627776) ∧ -1099511627776 ≤ bs j ∧ bs j ≤ 1099511627776) : WhL (invC b zs) n us bs := by
  have hn := h.n
  have h2 := h1.conj (fun j => by have := uv_bd (n := n) (k := j) hb n (by omega); omega)
  have h3 := fwd_leaf h h2 (fun j => by have := uv_bd (n := n) (k := j) hb n (by omega); unfold B44; omega)
  refine ⟨by simp only [invC, List.length_map]; exact h3.1, fun k hk => ?_⟩
  have h4 := h3.2 k hk
  simp only at h4
  rw [uv_back hn us bs hk] at h4
  have hk2 := hb k
  unfold invC
  rw [mapC_getD (by rw [List.length_map, h3.1]; exact hk), mapC_getD (by rw [h3.1]; exact hk), h.ln]
  have hnn : (n : Int) = 1 ∨ (n : Int) = 2 ∨ (n : Int) = 4 := by omega
  have b1 : -100000000000000 ≤ us k * (n : Int) ∧ us k * (n : Int) ≤ 100000000000000 := by rcases hnn with e | e | e <;> rw [e] <;> omega
  have b2 : -100000000000000 ≤ bs k * (n : Int) ∧ bs k * (n : Int) ≤ 100000000000000 := by rcases hnn with e | e | e <;> rw [e] <;> omega
  have h5 := h4.conj (by omega)
  rw [Int.neg_neg] at h5
  exact h5.over (by omega) rfl rfl (by omega) (by omega) (sm_of (by omega) (by omega)) (sm_of (by omega) (by omega))
theorem best1 {r : Ord × Int} (h : Best PU 1 r) : r.1 = .mk 1 ((1 : Nat) : Int) [] := by
  have e : (bestF PU 30 1).map (·.1) = some (.mk 1 ((1 : Nat) : Int) []) := by kernel_rfl
  cases hb : bestF PU 30 1 with
  | none => rw [hb] at e; cases e
  | some r' =>
    rw [hb] at e
    rw [h.unique ⟨30, hb⟩]
    exact Option.some.inj e
theorem best2 {r : Ord × Int} (h : Best PU 2 r) : r.1 = .mk 2 ((2 : Nat) : Int) [] := by
  have e : (bestF PU 30 2).map (·.1) = some (.mk 2 ((2 : Nat) : Int) []) := by kernel_rfl
  cases hb : bestF PU 30 2 with
  | none => rw [hb] at e; cases e
  | some r' =>
    rw [hb] at e
    rw [h.unique ⟨30, hb⟩]
    exact Option.some.inj e
theorem best_leaf {n : Nat} (hn : n = 1 ∨ n = 2 ∨ n = 4) {r : Ord × Int} (h : Best PU n r) : Leaf n (plnM r.1).b := by
  rcases hn with rfl | rfl | rfl
  · rw [best1 h]; exact (leaf_of (kd := 1) (.inl rfl) (.inl rfl)).1
  · rw [best2 h]; exact (leaf_of (kd := 2) (.inr (.inl rfl)) (.inr ⟨rfl, by decide⟩)).1
  · rw [best4 h]; exact (leaf_of (kd := 2) (.inr (.inr rfl)) (.inr ⟨rfl, by decide⟩)).1
end Go.Tm
namespace Go.Tm
open Go.RowKit Go.Proofs
theorem plan_NewL (n : Nat) (hn : n = 1 ∨ n = 2 ∨ n = 4) (w : World) (st : StT w) (tab : TabB w.heap.size w) (hG : 12 ≤ w.heap.size) :
    Calls Tryz.prog 69 #[.int .i64 n] w (Ret fun v w' => ∃ p P, v = .tuple #[.pointer (some ⟨p, 0, none⟩), .nilIface] ∧ PlnR w.heap.size w'.heap.size w' p P ∧ Leaf n P.b ∧ Ch No w w') := by
  refine (plan_New n (by omega) (by omega) (hasP24 n (by omega) (by omega)) w st tab hG).mono ?_
  rintro e w' ⟨v, rfl, p, rr, rfl, hr, h1, h2⟩
  exact ⟨_, rfl, p, _, rfl, h1, best_leaf hn hr, h2⟩
structure N3 (n : Nat) : Prop where
  h : n = 1 ∨ n = 2 ∨ n = 4
structure HalfOk (n : Nat) (us : Nat → Int) (zs : List CB) : Prop where
  len : zs.length = n / 2 + 1
  get : ∀ k, k ≤ n / 2 → WhC (cx (zs.getD k (0, 0))) (uvL n k us no0 n).1 (uvL n k us no0 n).2
structure FlsOk (n : Nat) (us : Nat → Int) (xs : List Nat) : Prop where
  len : xs.length = n
  get : ∀ k, k < n → Wh (cn (xs.getD k 0)) (us k)
structure CxsOk (n : Nat) (us : Nat → Int) (zs : List CB) : Prop where
  len : zs.length = n
  get : ∀ k, k < n → WhC (cx (zs.getD k (0, 0))) (uvL n k us no0 n).1 (uvL n k us no0 n).2
structure CxU (n : Nat) (us : Nat → Int) (m k : Nat) (zs : List CB) : Prop where
  len : zs.length = m
  get : ∀ i, i < k → WhC (cx (zs.getD i (0, 0))) (uvL n i us no0 n).1 (uvL n i us no0 n).2
theorem CxU.zero (n : Nat) (us : Nat → Int) (m : Nat) : CxU n us m 0 (List.replicate m (0, 0)) := ⟨by simp, fun i h => absurd h (by omega)⟩
theorem CxU.step {n m k : Nat} {us : Nat → Int} {zs : List CB} {z : CB} (h : CxU n us m k zs) (hk : k < m) (hz : WhC (cx z) (uvL n k us no0 n).1 (uvL n k us no0 n).2) : CxU n us m (k + 1) (zs.set k z) := by
  refine ⟨by rw [List.length_set]; exact h.len, fun i hi => ?_⟩
  rw [set_getD (by rw [h.len]; exact hk)]
  by_cases e : i = k
  · subst e; rw [if_pos rfl]; exact hz
  · rw [if_neg e]; exact h.get i (by omega)
theorem append_getD {α : Type} {zs : List α} {z d : α} {m i : Nat} (h : zs.length = m) : (zs ++ [z]).getD i d = if i = m then z else zs.getD i d := by
  subst h
  simp only [List.getD]
  by_cases e : i = zs.length
  · subst e; simp
  · rw [if_neg e, List.getElem?_append]
    by_cases l : i < zs.length
    · rw [if_pos l]
    · rw [if_neg l, List.getElem?_eq_none (by simp; omega), List.getElem?_eq_none (by omega)]
theorem CxU.push {n k : Nat} {us : Nat → Int} {zs : List CB} {z : CB} (h : CxU n us k k zs) (hz : WhC (cx z) (uvL n k us no0 n).1 (uvL n k us no0 n).2) : CxU n us (k + 1) (k + 1) (zs ++ [z]) := by
  refine ⟨by simp [h.len], fun i hi => ?_⟩
  rw [append_getD h.len]
  by_cases e : i = k
  · subst e; rw [if_pos rfl]; exact hz
  · rw [if_neg e]; exact h.get i (by omega)
structure PairU (h : Nat) (us : Nat → Int) (k : Nat) (zs : List CB) : Prop where
  len : zs.length = h
  get : ∀ i, i < k → WhC (cx (zs.getD i (0, 0))) (uvL h i (fun j => us (2 * j)) (fun j => us (2 * j + 1)) h).1 (uvL h i (fun j => us (2 * j)) (fun j => us (2 * j + 1)) h).2
theorem PairU.zero (h : Nat) (us : Nat → Int) : PairU h us 0 (List.replicate h (0, 0)) := ⟨by simp, fun i h => absurd h (by omega)⟩
theorem PairU.step {h k : Nat} {us : Nat → Int} {zs : List CB} {z : CB} (p : PairU h us k zs) (hk : k < h) (hz : WhC (cx z) (uvL h k (fun j => us (2 * j)) (fun j => us (2 * j + 1)) h).1 (uvL h k (fun j => us (2 * j)) (fun j => us (2 * j + 1)) h).2) : PairU h us (k + 1) (zs.set k z) := by
  refine ⟨by rw [List.length_set]; exact p.len, fun i hi => ?_⟩
  rw [set_getD (by rw [p.len]; exact hk)]
  by_cases e : i = k
  · subst e; rw [if_pos rfl]; exact hz
  · rw [if_neg e]; exact p.get i (by omega)
abbrev prC (xs : List Nat) : Nat → CB := fun j => (xs.getD (2 * (j : Int)).toNat 0, xs.getD (2 * (j : Int) + 1).toNat 0)
end Go.Tm
namespace Go.Tm
open Go.RowKit Go.Proofs
section
variable {P : Program} {n : Fr} {k : K} {w : World} {d : Option Tmp} {ty : TypeId} {pos : String} {aft : Array Edge} {g : Option (Nat × Bool)}
end
structure FlU (us : Nat → Int) (m : Nat) (os : List Nat) : Prop where
  len : os.length = m
  get : ∀ i, i < m → Wh (cn (os.getD i 0)) (us i)
theorem FlU.two {us : Nat → Int} {j : Nat} {os : List Nat} {a b : Nat} (h : FlU us (2 * j) os) (hz : WhC (cx (a, b)) (us (2 * j)) (us (2 * j + 1))) : FlU us (2 * (j + 1)) (os ++ [a, b]) := by
  refine ⟨by simp [h.len]; omega, fun i hi => ?_⟩
  have e : os ++ [a, b] = (os ++ [a]) ++ [b] := by simp
  rw [e, append_getD (m := 2 * j + 1) (by simp [h.len]), append_getD h.len]
  by_cases p : i = 2 * j + 1
  · subst p; rw [if_pos rfl]; exact hz.2
  · rw [if_neg p]
    by_cases q : i = 2 * j
    · subst q; rw [if_pos rfl]; exact hz.1
    · rw [if_neg q]; exact h.get i (by omega)
structure FullU (h : Nat) (us : Nat → Int) (j : Nat) (os : List CB) : Prop where
  len : os.length = h + 1 + j
  get : ∀ i, i < h + 1 + j → WhC (cx (os.getD i (0, 0))) (uvL (2 * h) i us no0 (2 * h)).1 (uvL (2 * h) i us no0 (2 * h)).2
theorem FullU.push {h j : Nat} {us : Nat → Int} {os : List CB} {z : CB} (f : FullU h us j os) (hz : WhC (cx z) (uvL (2 * h) (h + 1 + j) us no0 (2 * h)).1 (uvL (2 * h) (h + 1 + j) us no0 (2 * h)).2) : FullU h us (j + 1) (os ++ [z]) := by
  refine ⟨by simp [f.len]; omega, fun i hi => ?_⟩
  rw [append_getD f.len]
  by_cases e : i = h + 1 + j
  · subst e; rw [if_pos rfl]; exact hz
  · rw [if_neg e]; exact f.get i (by omega)
abbrev xyC (xs ys : List Nat) : Nat → CB := fun j => (xs.getD j 0, ys.getD j 0)
end Go.Tm
namespace Go.Tm
open Go.RowKit Go.Proofs
abbrev uI (al : List Int) : Nat → Int := fun j => al.getD j 0
theorem U40.no0 {us : Nat → Int} (h : U40 us) (j : Nat) : (-1099511627776 ≤ us j ∧ us j ≤ 1099511627776) ∧ -1099511627776 ≤ no0 j ∧ no0 j ≤ 1099511627776 := ⟨h j, by simp, by simp⟩
end Go.Tm
namespace Go.Tm
open Go.RowKit
abbrev Gs := Int × Int
def gV (g : Gs) : List Value := [.int .i64 g.1, .int .i64 g.2]
def gVs : List Gs → List Value
  | [] => []
  | g :: gs => .int .i64 g.1 :: .int .i64 g.2 :: gVs gs
theorem gVs_len : ∀ gs : List Gs, (gVs gs).length = gs.length * 2
  | [] => rfl
  | _ :: gs => by simp only [gVs, List.length_cons, gVs_len gs]; omega
abbrev GR (e : TypeId) (w : World) (r : Nat) (A : Option Addr) (l c : Nat) (gs : List Gs) : Prop := Ow w r e 2 A l c (gVs gs)
theorem GR.len {e : TypeId} {w : World} {r : Nat} {A : Option Addr} {l c : Nat} {gs : List Gs} (h : GR e w r A l c gs) : gs.length = l := by
  have := Ow.len h
  rw [gVs_len] at this; omega
section
variable {S : Nat → Prop} {w : World} {A : Option Addr} {l : Nat} {gs : List Gs}
end
section
variable {P : Program} {n : Fr} {k : K} {w : World} {d : Option Tmp} {ty : TypeId} {pos : String} {aft : Array Edge} {g : Option (Nat × Bool)}
end
end Go.Tm
namespace Go.Tm
def isum (f : Nat → Int) : Nat → Int
  | 0 => 0
  | n + 1 => isum f n + f n
def nsum (f : Nat → Nat) : Nat → Nat
  | 0 => 0
  | n + 1 => nsum f n + f n
theorem isum_congr {f g : Nat → Int} : ∀ n, (∀ i, i < n → f i = g i) → isum f n = isum g n
  | 0, _ => rfl
  | n + 1, h => by rw [isum, isum, isum_congr n (fun i hi => h i (by omega)), h n (by omega)]
theorem isum_add (f g : Nat → Int) : ∀ n, isum (fun i => f i + g i) n = isum f n + isum g n
  | 0 => rfl
  | n + 1 => by rw [isum, isum, isum, isum_add f g n]; omega
theorem isum_bd {f : Nat → Int} : ∀ n, (isum f n).natAbs ≤ nsum (fun i => (f i).natAbs) n
  | 0 => by simp [isum, nsum]
  | n + 1 => by have := isum_bd (f := f) n; rw [isum, nsum]; omega
theorem nsum_mono {f : Nat → Nat} {m : Nat} : ∀ n, m ≤ n → nsum f m ≤ nsum f n
  | 0, h => by rw [show m = 0 by omega]; exact Nat.le_refl _
  | n + 1, h => by
    by_cases c : m = n + 1
    · rw [c]; exact Nat.le_refl _
    · have := nsum_mono (f := f) (m := m) n (by omega)
      show _ ≤ nsum f n + f n; omega
abbrev gRe (a b c d : Int) : Int := a * c - b * d
abbrev gIm (a b c d : Int) : Int := a * d + b * c
theorem g_bd (a b c d : Int) : (gRe a b c d).natAbs ≤ (a.natAbs + b.natAbs) * (c.natAbs + d.natAbs) ∧ (gIm a b c d).natAbs ≤ (a.natAbs + b.natAbs) * (c.natAbs + d.natAbs) := by
  have e : (a.natAbs + b.natAbs) * (c.natAbs + d.natAbs) = (a * c).natAbs + (a * d).natAbs + ((b * c).natAbs + (b * d).natAbs) := by
    rw [Nat.add_mul, Nat.mul_add, Nat.mul_add, Int.natAbs_mul, Int.natAbs_mul, Int.natAbs_mul, Int.natAbs_mul]
  rw [e]
  unfold gRe gIm
  constructor <;> omega
structure GB (us vs : Nat → Int) (n : Nat) : Prop where
  le : nsum (fun j => (us j).natAbs + (vs j).natAbs) n ≤ 33554432
structure Tame (f : Nat → Int) (n : Nat) : Prop where
  le : nsum (fun j => (f j).natAbs) n ≤ 1125899906842624
theorem Tame.sum {f : Nat → Int} {n j : Nat} (h : Tame f n) (hj : j ≤ n) : (isum f j).natAbs ≤ 1125899906842624 := Nat.le_trans (isum_bd j) (Nat.le_trans (nsum_mono n hj) h.le)
theorem Tame.sm {f : Nat → Int} {n : Nat} (h : Tame f n) : Sm (isum f n) := by have := h.sum (Nat.le_refl n); unfold Sm; omega
def linT (lb : Nat) (F : Nat → Nat → Int) (k i : Nat) : Int := if i ≤ k ∧ k - i < lb then F i (k - i) else 0
def lin (lb : Nat) (F : Nat → Nat → Int) (m k : Nat) : Int := isum (linT lb F k) m
def linS (lb : Nat) (F : Nat → Nat → Int) (i j k : Nat) : Int := lin lb F i k + if i ≤ k ∧ k - i < j then F i (k - i) else 0
def cyc (n : Nat) (F : Nat → Nat → Int) (k : Nat) : Int := isum (fun j => F j ((k + n - j) % n)) n
def fold (n : Nat) (L : Nat → Int) (i k : Nat) : Int := (if k < i then L k else 0) + if k + n < i then L (k + n) else 0
structure WhU (n : Nat) (us vs : Nat → Int) (k : Nat) (zs : List CB) : Prop where
  len : zs.length = n
  get : ∀ i, i < k → WhC (cx (zs.getD i (0, 0))) (us i) (vs i)
theorem WhU.zero (n : Nat) (us vs : Nat → Int) : WhU n us vs 0 (List.replicate n (0, 0)) := ⟨by simp, fun i h => absurd h (by omega)⟩
theorem WhU.step {n k : Nat} {us vs : Nat → Int} {zs : List CB} {z : CB} (h : WhU n us vs k zs) (hk : k < n) (hz : WhC (cx z) (us k) (vs k)) : WhU n us vs (k + 1) (zs.set k z) := by
  refine ⟨by rw [List.length_set]; exact h.len, fun i hi => ?_⟩
  have hl := h.len
  by_cases c : k = i
  · subst c
    simp only [List.getD, List.getElem?_set]
    simpa [show k < zs.length by omega] using hz
  · have := h.get i (by omega)
    simp only [List.getD, List.getElem?_set] at this ⊢
    simpa [c] using this
theorem WhU.push {k : Nat} {us vs : Nat → Int} {zs : List CB} {z : CB} (h : WhU k us vs k zs) (hz : WhC (cx z) (us k) (vs k)) : WhU (k + 1) us vs (k + 1) (zs ++ [z]) := by
  have hl := h.len
  refine ⟨by simp [hl], fun i hi => ?_⟩
  by_cases c : i = k
  · subst c
    simp only [List.getD]
    rw [List.getElem?_append_right (by omega), hl]
    simpa using hz
  · have := h.get i (by omega)
    simp only [List.getD] at this ⊢
    rw [List.getElem?_append_left (by omega)]
    exact this
theorem WhU.cast {n k : Nat} {us vs us' vs' : Nat → Int} {zs : List CB} (h : WhU n us vs k zs) (e : ∀ i, i < k → us i = us' i ∧ vs i = vs' i) : WhU n us' vs' k zs :=
  ⟨h.len, fun i hi => by have := h.get i hi; rwa [(e i hi).1, (e i hi).2] at this⟩
theorem wh_zero : Wh (cn 0) 0 := ⟨false, by kernel_rfl, by decide⟩
theorem Wh.zero (a : Int) (h : a = 0) : Wh (cn 0) a := by subst h; exact wh_zero
abbrev fR (us vs xs ys : Nat → Int) (i j : Nat) : Int := gRe (us i) (vs i) (xs j) (ys j)
abbrev fI (us vs xs ys : Nat → Int) (i j : Nat) : Int := gIm (us i) (vs i) (xs j) (ys j)
abbrev cyR (n : Nat) (us vs xs ys : Nat → Int) (k j : Nat) : Int := fR us vs xs ys j ((k + n - j) % n)
abbrev cyI (n : Nat) (us vs xs ys : Nat → Int) (k j : Nat) : Int := fI us vs xs ys j ((k + n - j) % n)
abbrev coR (n : Nat) (us vs xs ys : Nat → Int) (k j : Nat) : Int := gRe (us ((j + k) % n)) (vs ((j + k) % n)) (xs j) (-ys j)
abbrev coI (n : Nat) (us vs xs ys : Nat → Int) (k j : Nat) : Int := gIm (us ((j + k) % n)) (vs ((j + k) % n)) (xs j) (-ys j)
theorem GB.conj {us vs : Nat → Int} {n : Nat} (h : GB us vs n) : GB us (fun j => -vs j) n := ⟨by simpa using h.le⟩
end Go.Tm
namespace Go.Tm
open Go.RowKit Go.Proofs
def rowN (n : Nat) (f : Nat → Nat) (j : Nat) : List Nat := (List.range j).map f ++ List.replicate (n - j) 0
end Go.Tm
namespace Go.Tm
open Go.RowKit
section
variable {P : Program} {n : Fr} {k : K} {w : World} {d : Option Tmp} {ty : TypeId} {pos : String} {aft : Array Edge} {g : Option (Nat × Bool)}
end
end Go.Tm
namespace Go.Tm
open Go.RowKit Go.Proofs
theorem getD_mapC {zs : List CB} {k : Nat} (h : k < zs.length) : (zs.map cx).getD k z0 = cx (zs.getD k (0, 0)) := by
  simp [List.getD, List.getElem?_eq_getElem h]
theorem WhU.toL {n : Nat} {us vs : Nat → Int} {zs : List CB} (h : WhU n us vs n zs) : WhL (zs.map cx) n us vs :=
  ⟨by simp [h.len], fun k hk => by rw [getD_mapC (by rw [h.len]; exact hk)]; exact h.get k hk⟩
theorem WhU.ofL {n : Nat} {us vs : Nat → Int} {zs : List CB} {ws : List Cx} (e : zs.map cx = ws) (h : WhL ws n us vs) : WhU n us vs n zs := by
  subst e
  have hl : zs.length = n := by simpa using h.1
  exact ⟨hl, fun k hk => by have := h.2 k hk; rwa [getD_mapC (by rw [hl]; exact hk)] at this⟩
theorem plan_FwdL (n lo hi p : Nat) (PP : Pln) (SX : Nat → Prop) (X : Option Addr) (xc : Nat) (zs : List CB) (us vs : Nat → Int) (w : World) (sx : SlR SX w X n 1 (zs.map cxV)) (hX : ∀ q, SX q → q < w.heap.size) (pl : PlnR lo hi w p PP) (hh : hi ≤ w.heap.size) (hL : Leaf n PP.b) (hz : WhU n us vs n zs) (hb : ∀ j, B44 (us j) ∧ B44 (vs j)) (st : StT w) (hG : 12 ≤ w.heap.size) :
    Calls Tryz.prog 41 #[.pointer (some ⟨p, 0, none⟩), .slice X n xc] w (Ret fun v w' => ∃ r A k os, v = .tuple #[.slice A n k, .nilIface] ∧ CR 53 w' r A n k os ∧ WhU n (fun k => (uvL n k us vs n).1) (fun k => (uvL n k us vs n).2) n os ∧ w.heap.size < r ∧ Ch No w w') := by
  refine (p_Forward _ _ _ _ _ _ n xc zs _ sx hX pl hh _ hL.ok.ok hL.ok.okb hL.ok.ne (by rw [hL.ln]) st hG hL.ok.ac).mono ?_
  rintro e w' ⟨v, rfl, r, A, c, os, rfl, h1, h2, h3, h4⟩
  have e4 : PP.b.ln.toNat = n := by rw [hL.ln]; rfl
  rw [e4] at h1 ⊢
  exact ⟨_, rfl, r, A, c, os, rfl, h1, WhU.ofL h2 (fwd_leaf hL hz.toL hb), h3, h4⟩
theorem plan_InvL (n lo hi p : Nat) (PP : Pln) (SX : Nat → Prop) (X : Option Addr) (xc : Nat) (zs : List CB) (us vs : Nat → Int) (w : World) (sx : SlR SX w X n 1 (zs.map cxV)) (hX : ∀ q, SX q → q < w.heap.size) (pl : PlnR lo hi w p PP) (hh : hi ≤ w.heap.size) (hL : Leaf n PP.b) (hz : WhU n (fun k => (uvL n k us vs n).1) (fun k => (uvL n k us vs n).2) n zs) (hb : ∀ j, (-1099511627776 ≤ us j ∧ us j ≤ 1099511627776) ∧ -1099511627776 ≤ vs j ∧ vs j ≤ 1099511627776) (st : StT w) (hG : 12 ≤ w.heap.size) :
    Calls Tryz.prog 43 #[.pointer (some ⟨p, 0, none⟩), .slice X n xc] w (Ret fun v w' => ∃ r A k os, v = .tuple #[.slice A n k, .nilIface] ∧ CR 53 w' r A n k os ∧ WhU n us vs n os ∧ w.heap.size < r ∧ Ch No w w') := by
  refine (p_Inverse _ _ _ _ _ _ n xc zs _ sx hX pl hh _ hL.ok.ok hL.ok.okb hL.ok.ne (by rw [hL.ln]) st hG hL.ok.ac).mono ?_
  rintro e w' ⟨v, rfl, r, A, c, os, rfl, h1, h2, h3, h4⟩
  have e4 : PP.b.ln.toNat = n := by rw [hL.ln]; rfl
  rw [e4] at h1 ⊢
  exact ⟨_, rfl, r, A, c, os, rfl, h1, WhU.ofL h2 (inv_leafG hL hz.toL hb), h3, h4⟩
def B17 (us vs : Nat → Int) : Prop := ∀ j, (-131072 ≤ us j ∧ us j ≤ 131072) ∧ -131072 ≤ vs j ∧ vs j ≤ 131072
theorem isum_bdI {f : Nat → Int} {B : Nat} (h : ∀ j, (f j).natAbs ≤ B) : ∀ n : Nat, (isum f n).natAbs ≤ n * B
  | 0 => by simp [isum]
  | n + 1 => by have := isum_bdI h n; have := h n; rw [isum, Nat.succ_mul]; omega
theorem B17.prod {us vs xs ys : Nat → Int} (h : B17 us vs) (h2 : B17 xs ys) (i j : Nat) : (fR us vs xs ys i j).natAbs ≤ 68719476736 ∧ (fI us vs xs ys i j).natAbs ≤ 68719476736 := by
  have b := g_bd (us i) (vs i) (xs j) (ys j)
  have h1 := h i; have h3 := h2 j
  have : ((us i).natAbs + (vs i).natAbs) * ((xs j).natAbs + (ys j).natAbs) ≤ 262144 * 262144 := Nat.mul_le_mul (by omega) (by omega)
  show (gRe (us i) (vs i) (xs j) (ys j)).natAbs ≤ _ ∧ (gIm (us i) (vs i) (xs j) (ys j)).natAbs ≤ _
  omega
theorem B17.cyc {n : Nat} (hn : n ≤ 4) {us vs xs ys : Nat → Int} (h : B17 us vs) (h2 : B17 xs ys) (k : Nat) : (-1099511627776 ≤ cyc n (fR us vs xs ys) k ∧ cyc n (fR us vs xs ys) k ≤ 1099511627776) ∧ -1099511627776 ≤ cyc n (fI us vs xs ys) k ∧ cyc n (fI us vs xs ys) k ≤ 1099511627776 := by
  have a1 := isum_bdI (f := fun j => fR us vs xs ys j ((k + n - j) % n)) (fun j => (h.prod h2 _ _).1) n
  have a2 := isum_bdI (f := fun j => fI us vs xs ys j ((k + n - j) % n)) (fun j => (h.prod h2 _ _).2) n
  have : n * 68719476736 ≤ 4 * 68719476736 := Nat.mul_le_mul_right _ hn
  unfold Go.Tm.cyc
  omega
def mixF (f us : Nat → Int) (j i : Nat) : Int := if i < j then f i else us i
theorem WhU.mix0 {n : Nat} {f g us vs : Nat → Int} {zs : List CB} (h : WhU n us vs n zs) : WhU n (mixF f us 0) (mixF g vs 0) n zs := h.cast fun i _ => by simp [mixF]
theorem WhU.mixAll {n : Nat} {f g us vs : Nat → Int} {zs : List CB} (h : WhU n (mixF f us n) (mixF g vs n) n zs) : WhU n f g n zs := h.cast fun i hi => by simp [mixF, hi]
end Go.Tm
namespace Go.Tm
theorem idx_lt {R C i j : Nat} (hi : i < R) (hj : j < C) : i * C + j < R * C := by
  have h : (i + 1) * C ≤ R * C := Nat.mul_le_mul_right _ hi
  rw [Nat.succ_mul] at h; omega
theorem idx_inj {R i i' j j' : Nat} (hi : i < R) (hi' : i' < R) (h : j' * R + i' = j * R + i) : j' = j ∧ i' = i := by
  rcases Nat.lt_trichotomy j' j with c | c | c
  · have h1 : (j' + 1) * R ≤ j * R := Nat.mul_le_mul_right _ c
    rw [Nat.succ_mul] at h1; omega
  · subst c; omega
  · have h1 : (j + 1) * R ≤ j' * R := Nat.mul_le_mul_right _ c
    rw [Nat.succ_mul] at h1; omega
structure GrU (R C : Nat) (f g : Nat → Nat → Int) (zs : List CB) : Prop where
  len : zs.length = R * C
  get : ∀ i j, i < R → j < C → WhC (cx (zs.getD (i * C + j) (0, 0))) (f i j) (g i j)
theorem GrU.row {R C : Nat} {f g : Nat → Nat → Int} {zs : List CB} (h : GrU R C f g zs) {i : Nat} (hi : i < R) : WhU C (f i) (g i) C ((zs.drop (i * C)).take C) := by
  have hl := h.len
  have h1 : (i + 1) * C ≤ R * C := Nat.mul_le_mul_right _ hi
  rw [Nat.succ_mul] at h1
  refine ⟨by rw [List.length_take, List.length_drop]; omega, fun j hj => ?_⟩
  have := h.get i j hi hj
  simp only [List.getD, List.getElem?_take, if_pos hj, List.getElem?_drop] at this ⊢
  exact this
theorem splice_getD {zs ys : List CB} {a C m : Nat} (hy : ys.length = C) (ha : a + C ≤ zs.length) : (zs.take a ++ ys ++ zs.drop (a + C)).getD m (0, 0) = if m < a then zs.getD m (0, 0) else if m < a + C then ys.getD (m - a) (0, 0) else zs.getD m (0, 0) := by
  have hta : (zs.take a).length = a := by rw [List.length_take]; omega
  simp only [List.getD]
  by_cases c : m < a
  · rw [if_pos c, List.append_assoc, List.getElem?_append_left (by omega), List.getElem?_take, if_pos c]
  · rw [if_neg c]
    by_cases d : m < a + C
    · rw [if_pos d, List.append_assoc, List.getElem?_append_right (by omega), hta, List.getElem?_append_left (by omega)]
    · rw [if_neg d, List.getElem?_append_right (by rw [List.length_append]; omega), List.getElem?_drop, List.length_append, hta, hy]
      congr 2; omega
def mixG (F f : Nat → Nat → Int) (i0 i j : Nat) : Int := if i < i0 then F i j else f i j
theorem GrU.put {R C i : Nat} {F G f g : Nat → Nat → Int} {zs ys : List CB} (h : GrU R C (mixG F f i) (mixG G g i) zs) (hi : i < R) (hy : WhU C (F i) (G i) C ys) : GrU R C (mixG F f (i + 1)) (mixG G g (i + 1)) (zs.take (i * C) ++ ys ++ zs.drop (i * C + C)) := by
  have hl := h.len; have hyl := hy.len
  have h1 : (i + 1) * C ≤ R * C := Nat.mul_le_mul_right _ hi
  rw [Nat.succ_mul] at h1
  refine ⟨by rw [List.length_append, List.length_append, List.length_take, List.length_drop]; omega, fun i' j hi' hj => ?_⟩
  rw [splice_getD hyl (by omega)]
  have h0 := h.get i' j hi' hj
  rcases Nat.lt_trichotomy i' i with c | c | c
  · have h2 : (i' + 1) * C ≤ i * C := Nat.mul_le_mul_right _ c
    rw [Nat.succ_mul] at h2
    rw [if_pos (by omega)]
    simp only [mixG, if_pos c] at h0
    simp only [mixG, if_pos (show i' < i + 1 by omega)]
    exact h0
  · subst c
    rw [if_neg (by omega), if_pos (by omega), show i' * C + j - i' * C = j by omega]
    simp only [mixG, if_pos (Nat.lt_succ_self i')]
    exact hy.get j hj
  · have h2 : (i + 1) * C ≤ i' * C := Nat.mul_le_mul_right _ c
    rw [Nat.succ_mul] at h2
    rw [if_neg (by omega), if_neg (by omega)]
    simp only [mixG, if_neg (show ¬ i' < i by omega)] at h0
    simp only [mixG, if_neg (show ¬ i' < i + 1 by omega)]
    exact h0
theorem GrU.cast {R C : Nat} {f g f' g' : Nat → Nat → Int} {zs : List CB} (h : GrU R C f g zs) (e : ∀ i j, i < R → j < C → f i j = f' i j ∧ g i j = g' i j) : GrU R C f' g' zs :=
  ⟨h.len, fun i j hi hj => by have := h.get i j hi hj; rwa [(e i j hi hj).1, (e i j hi hj).2] at this⟩
theorem GrU.mix0 {R C : Nat} {F G f g : Nat → Nat → Int} {zs : List CB} (h : GrU R C f g zs) : GrU R C (mixG F f 0) (mixG G g 0) zs := h.cast fun i j _ _ => by simp [mixG]
theorem GrU.mixAll {R C : Nat} {F G f g : Nat → Nat → Int} {zs : List CB} (h : GrU R C (mixG F f R) (mixG G g R) zs) : GrU R C F G zs := h.cast fun i j hi _ => by simp [mixG, hi]
theorem GrU.rowM {R C i : Nat} {F G f g : Nat → Nat → Int} {zs : List CB} (h : GrU R C (mixG F f i) (mixG G g i) zs) (hi : i < R) : WhU C (f i) (g i) C ((zs.drop (i * C)).take C) :=
  (h.row hi).cast fun j _ => by simp [mixG]
structure TurU (R C : Nat) (f g : Nat → Nat → Int) (i j : Nat) (zs : List CB) : Prop where
  len : zs.length = R * C
  get : ∀ i' j', i' < R → j' < C → (i' < i ∨ (i' = i ∧ j' < j)) → WhC (cx (zs.getD (j' * R + i') (0, 0))) (f i' j') (g i' j')
theorem TurU.zero (R C : Nat) (f g : Nat → Nat → Int) {n : Nat} (hn : n = R * C) : TurU R C f g 0 0 (List.replicate n (0, 0)) := ⟨by simp [hn], fun i' j' _ _ h => by omega⟩
theorem TurU.step {R C i j : Nat} {f g : Nat → Nat → Int} {zs : List CB} {z : CB} (h : TurU R C f g i j zs) (hi : i < R) (hj : j < C) (hz : WhC (cx z) (f i j) (g i j)) : TurU R C f g i (j + 1) (zs.set (j * R + i) z) := by
  have hl := h.len
  have hx := idx_lt hj hi
  rw [Nat.mul_comm C R] at hx
  refine ⟨by rw [List.length_set]; exact hl, fun i' j' hi' hj' hh => ?_⟩
  by_cases c : j * R + i = j' * R + i'
  · obtain ⟨rfl, rfl⟩ := idx_inj hi' hi c
    simp only [List.getD, List.getElem?_set]
    simpa [show j * R + i < zs.length by omega] using hz
  · have h0 : i' < i ∨ (i' = i ∧ j' < j) := by
      rcases hh with hh | ⟨rfl, hh⟩
      · exact .inl hh
      · refine .inr ⟨rfl, ?_⟩
        rcases Nat.lt_or_ge j' j with d | d
        · exact d
        · have : j' = j := by omega
          subst this; exact absurd rfl c
    have := h.get i' j' hi' hj' h0
    simp only [List.getD, List.getElem?_set] at this ⊢
    simpa [c] using this
theorem TurU.next {R C i : Nat} {f g : Nat → Nat → Int} {zs : List CB} (h : TurU R C f g i C zs) : TurU R C f g (i + 1) 0 zs :=
  ⟨h.len, fun i' j' hi' hj' hh => h.get i' j' hi' hj' (by omega)⟩
theorem TurU.all {R C : Nat} {f g : Nat → Nat → Int} {zs : List CB} (h : TurU R C f g R 0 zs) : GrU C R (fun j i => f i j) (fun j i => g i j) zs :=
  ⟨by rw [Nat.mul_comm]; exact h.len, fun j i hj hi => h.get i j hi hj (.inl hi)⟩
def rt : Nat → Int → Int → Int × Int
  | 0, a, b => (a, b)
  | t + 1, a, b => ((rt t a b).2, -(rt t a b).1)
theorem rt_add (t : Nat) (a b : Int) : ∀ s, rt (s + t) a b = rt s (rt t a b).1 (rt t a b).2
  | 0 => by rw [Nat.zero_add]; rfl
  | s + 1 => by rw [show s + 1 + t = (s + t) + 1 by omega, rt, rt, rt_add t a b s]
theorem rt4 (a b : Int) (t : Nat) : rt (t + 4) a b = rt t a b := by
  rw [rt_add 4]
  show rt t (- -a) (- -b) = _
  rw [Int.neg_neg, Int.neg_neg]
theorem rt_mod (a b : Int) (t : Nat) : rt (t % 4) a b = rt t a b := by
  have key : ∀ q r, rt (r + 4 * q) a b = rt r a b := fun q => by
    induction q with
    | zero => intro r; rfl
    | succ q ih => intro r; rw [show r + 4 * (q + 1) = (r + 4 * q) + 4 by omega, rt4, ih]
  have := key (t / 4) (t % 4)
  rw [show t % 4 + 4 * (t / 4) = t by omega] at this
  exact this.symm
theorem rt_bd {a b : Int} {B : Nat} (ha : a.natAbs ≤ B) (hb : b.natAbs ≤ B) : ∀ t, (rt t a b).1.natAbs ≤ B ∧ (rt t a b).2.natAbs ≤ B
  | 0 => ⟨ha, hb⟩
  | t + 1 => by have := rt_bd ha hb t; exact ⟨this.2, by show (-(rt t a b).1).natAbs ≤ B; rw [Int.natAbs_neg]; exact this.1⟩
theorem isum_negv (f : Nat → Int) : ∀ n, isum (fun j => -f j) n = -isum f n
  | 0 => rfl
  | n + 1 => by rw [isum, isum_negv f n, isum]; omega
theorem rt_isum (u v : Nat → Int) (n : Nat) : ∀ t, rt t (isum u n) (isum v n) = (isum (fun j => (rt t (u j) (v j)).1) n, isum (fun j => (rt t (u j) (v j)).2) n)
  | 0 => rfl
  | t + 1 => by
    rw [rt, rt_isum u v n t]
    show (_, -isum _ n) = (isum (fun j => (rt t (u j) (v j)).2) n, isum (fun j => -(rt t (u j) (v j)).1) n)
    rw [isum_negv]
theorem isum_swap (F : Nat → Nat → Int) (C : Nat) : ∀ R, isum (fun i => isum (F i) C) R = isum (fun j => isum (fun i => F i j) R) C
  | 0 => by
    show (0 : Int) = isum (fun _ => (0 : Int)) C
    induction C with
    | zero => rfl
    | succ C ih => rw [isum, ← ih]; rfl
  | R + 1 => by
    rw [isum, isum_swap F C R, ← isum_add]
    rfl
def tq (n j k : Nat) : Nat := 4 * (j * k) / n % 4
theorem uv_rt (n k : Nat) (us bs : Nat → Int) : ∀ m, uvL n k us bs m = (isum (fun j => (rt (tq n j k) (us j) (bs j)).1) m, isum (fun j => (rt (tq n j k) (us j) (bs j)).2) m)
  | 0 => rfl
  | m + 1 => by
    rw [uvL, uv_rt n k us bs m, uvS]
    have h : tq n m k < 4 := Nat.mod_lt _ (by decide)
    show (if tq n m k = 0 then _ else if tq n m k = 1 then _ else if tq n m k = 2 then _ else _) = (isum (fun j => (rt (tq n j k) (us j) (bs j)).1) m + (rt (tq n m k) (us m) (bs m)).1, isum (fun j => (rt (tq n j k) (us j) (bs j)).2) m + (rt (tq n m k) (us m) (bs m)).2)
    generalize tq n m k = t at h
    match t, h with
    | 0, _ => rfl
    | 1, _ => exact Prod.ext rfl (by show _ - us m = _ + -us m; omega)
    | 2, _ => exact Prod.ext (by show _ - us m = _ + -us m; omega) (by show _ - bs m = _ + -bs m; omega)
    | 3, _ => exact Prod.ext (by show _ - bs m = _ + -bs m; omega) (by show _ + us m = _ + - -us m; omega)
def X1 (C : Nat) (a b : Nat → Nat → Int) (l i : Nat) : Int := (uvL C l (a i) (b i) C).1
def Y1 (C : Nat) (a b : Nat → Nat → Int) (l i : Nat) : Int := (uvL C l (a i) (b i) C).2
def X2 (R C : Nat) (a b : Nat → Nat → Int) (k l : Nat) : Int := (uvL R k (X1 C a b l) (Y1 C a b l) R).1
def Y2 (R C : Nat) (a b : Nat → Nat → Int) (k l : Nat) : Int := (uvL R k (X1 C a b l) (Y1 C a b l) R).2
def V1 (R : Nat) (a b : Nat → Nat → Int) (j k : Nat) : Int := (uvL R k (fun i => a i j) (fun i => b i j) R).1
def W1 (R : Nat) (a b : Nat → Nat → Int) (j k : Nat) : Int := (uvL R k (fun i => a i j) (fun i => b i j) R).2
theorem X2_eq (R C : Nat) (a b : Nat → Nat → Int) (k l : Nat) : X2 R C a b k l = isum (fun i => isum (fun j => (rt (tq R i k + tq C j l) (a i j) (b i j)).1) C) R ∧ Y2 R C a b k l = isum (fun i => isum (fun j => (rt (tq R i k + tq C j l) (a i j) (b i j)).2) C) R := by
  have key : ∀ i, rt (tq R i k) (X1 C a b l i) (Y1 C a b l i) = (isum (fun j => (rt (tq R i k + tq C j l) (a i j) (b i j)).1) C, isum (fun j => (rt (tq R i k + tq C j l) (a i j) (b i j)).2) C) := fun i => by
    unfold X1 Y1
    rw [uv_rt, rt_isum]
    simp only [rt_add]
  unfold X2 Y2
  rw [uv_rt]
  exact ⟨isum_congr R fun i _ => by rw [key], isum_congr R fun i _ => by rw [key]⟩
theorem X2_swap (R C : Nat) (a b : Nat → Nat → Int) (k l : Nat) : X2 R C a b k l = (uvL C l (fun j => V1 R a b j k) (fun j => W1 R a b j k) C).1 ∧ Y2 R C a b k l = (uvL C l (fun j => V1 R a b j k) (fun j => W1 R a b j k) C).2 := by
  obtain ⟨e1, e2⟩ := X2_eq R C a b k l
  have key : ∀ j, rt (tq C j l) (V1 R a b j k) (W1 R a b j k) = (isum (fun i => (rt (tq R i k + tq C j l) (a i j) (b i j)).1) R, isum (fun i => (rt (tq R i k + tq C j l) (a i j) (b i j)).2) R) := fun j => by
    unfold V1 W1
    rw [uv_rt, rt_isum]
    simp only [← rt_add, Nat.add_comm (tq C j l)]
  rw [uv_rt]
  refine ⟨e1.trans ((isum_swap _ C R).trans (isum_congr C fun j _ => ?_)), e2.trans ((isum_swap _ C R).trans (isum_congr C fun j _ => ?_))⟩
  · rw [key]
  · rw [key]
def FwdRel (n : Nat) (u v U V : Nat → Int) : Prop := (∀ j, B44 (u j) ∧ B44 (v j)) ∧ ∀ j, j < n → U j = (uvL n j u v n).1 ∧ V j = (uvL n j u v n).2
def InvRel (n : Nat) (u v U V : Nat → Int) : Prop := (∀ j, (-1099511627776 ≤ U j ∧ U j ≤ 1099511627776) ∧ -1099511627776 ≤ V j ∧ V j ≤ 1099511627776) ∧ ∀ j, j < n → u j = (uvL n j U V n).1 ∧ v j = (uvL n j U V n).2
def sel {α : Type} (x y z : α) (k : Nat) : α := if k = 0 then x else if k = 1 then y else z
def dm (R C k : Nat) : Nat := if k % 2 = 0 then R else C
theorem dm_succ (R C k : Nat) : dm R C (k + 1) = dm C R k := by unfold dm; split <;> split <;> first | rfl | omega
def B36 (a b : Nat → Nat → Int) : Prop := ∀ i j, (-68719476736 ≤ a i j ∧ a i j ≤ 68719476736) ∧ -68719476736 ≤ b i j ∧ b i j ≤ 68719476736
theorem fwd_rel {R C : Nat} (hR : R ≤ 4) (hC : C ≤ 4) {a b : Nat → Nat → Int} (h : B36 a b) (k : Nat) (hk : k < 2) (i : Nat) : FwdRel (dm C R k) (sel a (X1 C a b) (X2 R C a b) k i) (sel b (Y1 C a b) (Y2 R C a b) k i) (fun j => sel a (X1 C a b) (X2 R C a b) (k + 1) j i) (fun j => sel b (Y1 C a b) (Y2 R C a b) (k + 1) j i) := by
  match k, hk with
  | 0, _ => exact ⟨fun j => by have := h i j; show B44 (a i j) ∧ B44 (b i j); unfold B44; omega, fun j _ => ⟨rfl, rfl⟩⟩
  | 1, _ => exact ⟨fun j => by
      have := uv_bd (n := C) (k := i) (B := 68719476736) (us := a j) (bs := b j) (fun m => h j m) C hC
      show B44 (uvL C i (a j) (b j) C).1 ∧ B44 (uvL C i (a j) (b j) C).2
      unfold B44; omega, fun j _ => ⟨rfl, rfl⟩⟩
theorem inv_rel {R C : Nat} (hR : R ≤ 4) (hC : C ≤ 4) {a b : Nat → Nat → Int} (h : B36 a b) (k : Nat) (hk : k < 2) (i : Nat) : InvRel (dm C R k) (sel (X2 R C a b) (V1 R a b) a k i) (sel (Y2 R C a b) (W1 R a b) b k i) (fun j => sel (X2 R C a b) (V1 R a b) a (k + 1) j i) (fun j => sel (Y2 R C a b) (W1 R a b) b (k + 1) j i) := by
  match k, hk with
  | 0, _ => exact ⟨fun j => by
      have := uv_bd (n := R) (k := i) (B := 68719476736) (us := fun m => a m j) (bs := fun m => b m j) (fun m => h m j) R hR
      show (-1099511627776 ≤ (uvL R i (fun m => a m j) (fun m => b m j) R).1 ∧ (uvL R i (fun m => a m j) (fun m => b m j) R).1 ≤ 1099511627776) ∧ -1099511627776 ≤ (uvL R i (fun m => a m j) (fun m => b m j) R).2 ∧ (uvL R i (fun m => a m j) (fun m => b m j) R).2 ≤ 1099511627776
      omega, fun j _ => X2_swap R C a b i j⟩
  | 1, _ => exact ⟨fun j => by have := h j i; show (-1099511627776 ≤ a j i ∧ a j i ≤ 1099511627776) ∧ -1099511627776 ≤ b j i ∧ b j i ≤ 1099511627776; omega, fun j _ => ⟨rfl, rfl⟩⟩
theorem law_exp {R C i j k l : Nat} (hR : R = 1 ∨ R = 2 ∨ R = 4) (hC : C = 1 ∨ C = 2 ∨ C = 4) : (4 / R * i * k + 4 / C * j * l) % 4 = (tq R i k + tq C j l) % 4 := by
  unfold tq
  rw [Nat.mul_assoc, Nat.mul_assoc]
  generalize i * k = p
  generalize j * l = q
  rcases hR with rfl | rfl | rfl <;> rcases hC with rfl | rfl | rfl <;> omega
end Go.Tm
namespace Go.Tm
open Go.RowKit Go.Proofs
section
variable {P : Program} {n : Fr} {k : K} {w : World} {d : Option Tmp} {ty : TypeId} {pos : String} {aft : Array Edge} {g : Option (Nat × Bool)}
theorem Rn.slnilF {t t' e : TypeId} {x : Operand} {A : Option Addr} {l c : Nat} (ht : P.underlying t = some (.slice e)) (hx : ev k x = some (.slice A l c)) (hA : ∃ ad, A = some ad) :
    Rn P n k w { dst := d, op := .binOp .eql t x (.const (.slice none 0 0)) t', type := ty, pos := pos, after := aft, guard := g } (.bool false) := by
  obtain ⟨ad, rfl⟩ := hA
  have h : ∀ d : Nat, (Op.equalIn (d + 1) t (.slice (some ad) l c) (.slice none 0 0)).run P w = .ok false w := fun d => by simp [Op.equalIn, run_underlying ht]
  have h2 : (binOp .eql t (.slice (some ad) l c) (.slice none 0 0)).run P w = .ok (.bool false) w := by
    simp only [binOp]
    simp [Op.equal, Op.maxDepth, h 9999]
  exact Rn.bin hx rfl (fun x y => by rw [eqGuard_at_slice]; simp [h2])
theorem Wk.copyM {S : Nat → Prop} {t u e : TypeId} {by' r l c m mc dl off : Nat} {A B : Option Addr} {xs ys : List CB} {x y : Operand} (ht : P.underlying t = some (.slice e)) (hi : Inf P e (.complex .f64 0 0) 1 by')
    (hx : ev k x = some (.slice (if c = off then A else A.map (·.add (off * 1))) dl (c - off))) (hy : ev k y = some (.slice B m mc)) (hown : CR e w r A l c xs) (hsrc : SlR S w B m 1 (ys.map cxV)) (hm : 0 < m) (hmd : m ≤ dl) (hoff : off + dl ≤ l) (hl : l ≤ c) :
    Wk P n k w { dst := d, op := .call { callee := .builtin .copy, args := #[x, y], argTypes := #[t, u] }, type := ty, pos := pos, after := aft, guard := g } (fun v w' => v = .int .i64 m ∧ CR e w' r A l c (xs.take off ++ ys ++ xs.drop (off + m)) ∧ Ch (At r) w w' ∧ w'.heap.size = w.heap.size) := by
  have hxl := CR.len hown
  have hyl : ys.length = m := by have := hsrc.len; simpa using this
  obtain ⟨inf, h1, h2, h3, h4⟩ := hi
  have hsz : (P.info? e).map (·.size) = some 1 := by rw [h1]; simp [h3]
  obtain ⟨g', cur, rfl, rfl, hg, hlc, hcm, hcs, htk⟩ := Ow.open' hown (by omega)
  obtain ⟨ad, rfl⟩ := hsrc.ne hm
  rw [if_neg (by omega)] at hx
  have hx' : ev k x = some (.slice (some ⟨g', off, none⟩) dl (c - off)) := by rw [hx]; simp [Addr.add_lit]
  have hmin : (ys.map cxV).length = Nat.min m dl := by rw [List.length_map, hyl]; exact (Nat.min_eq_left hmd).symm
  have hr := run_copy_row (P := P) w t u ty e g' off dl (c - off) ad m mc cur e (ys.map cxV) ht hsz hg hmin (fun j v hj => hsrc.cells ad rfl j v hj) (by simp; omega) (fun v hv => by obtain ⟨z, _, rfl⟩ := List.mem_map.1 hv; rfl)
  have hs := Sts.of_row (w' := w.setRow g' (cur.toList.take off ++ ys.map cxV ++ cur.toList.drop (off + (ys.map cxV).length)).toArray) rfl hg
  refine Wk.of_run fun a ha => ⟨goInt (ys.map cxV).length, _, ?_, by simp [goInt, hyl], ⟨by simp; omega, .inr ⟨g', _, rfl, rfl, hs.same, hlc, hcm, ?_, ?_⟩⟩, hs.ch.more (fun q _ hq => by rw [hq]), hs.size⟩
  · simp [execOp, resolve, invoke, builtin, ha.eval hx', ha.eval hy, hr]
  · simp; omega
  · rw [Nat.mul_one] at htk ⊢
    have hc : cur.toList.length = c := by simp [hcs]
    have e1 : cur.toList.take off = (xs.map cxV).take off := by rw [← htk, List.take_take, Nat.min_eq_left (by omega)]
    have e2 : (cur.toList.drop (off + m)).take (l - (off + m)) = (xs.map cxV).drop (off + m) := by rw [← htk, List.drop_take]
    have hA : (cur.toList.take off).length = off := by simp [hcs]; omega
    have hB : (ys.map cxV).length = m := by rw [List.length_map, hyl]
    rw [hB, List.take_append, List.take_of_length_le (by rw [List.length_append, hA, hB]; omega), List.length_append, hA, hB, e2, e1]
    simp only [List.map_append, List.map_take, List.map_drop]
end
theorem CR.subRow {e : TypeId} {w : World} {r l c a n : Nat} {A : Option Addr} {ws : List CB} (h : CR e w r A l c ws) (hc : l ≤ c) (h2 : a + n ≤ l) : SlR (At r) w (if c = a then A else A.map (·.add (a * 1))) n 1 (((ws.drop a).take n).map cxV) := by
  have := SlR.sub (Ow.sl h) (i := a) (j := a + n) (by omega) h2 hc
  rw [show a + n - a = n by omega, ← List.map_drop, ← List.map_take] at this
  exact this
structure ErrL (E : Addr) (w : World) : Prop where
  get : w.cell? ⟨1, 0, none⟩ = some (.iface 288 (.pointer (some E)))
theorem ErrL.lt {E : Addr} {w : World} (h : ErrL E w) : 1 < w.heap.size := World.block_lt_of_cell? w _ h.get
theorem ErrL.to {D : Nat → Prop} {E : Addr} {w w' : World} (h : ErrL E w) (c : Ch D w w') (hd : ∀ q, q < w.heap.size → q = 1 → q = q → ¬ D q) : ErrL E w' := ⟨c.cell (hd _ h.lt rfl rfl) h.get⟩
theorem ErrL.keep {E : Addr} {w w' : World} (h : ErrL E w) (c : Ch No w w') : ErrL E w' := ⟨c.cell (fun h => h) h.get⟩
set_option maxRecDepth 100000 in
theorem Rn.errT {n : Fr} {k : K} {w : World} {d : Option Nat} {ty : TypeId} {pos : String} {aft : Array Edge} {gd : Option (Nat × Bool)} {t' : TypeId} {x y : Operand} {E : Addr} (hx : ev k x = some (.iface 288 (.pointer (some E)))) (hy : ev k y = some (.iface 288 (.pointer (some E)))) :
    Rn Tryz.prog n k w { dst := d, op := .binOp .eql 29 x y t', type := ty, pos := pos, after := aft, guard := gd } (.bool true) := by
  refine Rn.bin hx hy (fun x y => ?_)
  have := run_eql_iface_ptr_same (P := Tryz.prog) w (ti := 29) (tp := 288) E Tryz.underlying29 Tryz.underlying288 Tryz.type288 (by kernel_rfl) Tryz.type307
  simp [eqGuard_at_iface, this]
set_option maxRecDepth 100000 in
theorem inf53w67 : Inf Tryz.prog 53 (.complex .f64 0 0) 1 16 := ⟨Tryz.t53, Tryz.type53, rfl, rfl, rfl⟩
set_option maxRecDepth 100000 in
theorem grid_Check (R C NN : Nat) (A : Option Addr) (cap : Nat) (w : World) (hR : 1 ≤ R ∧ R ≤ 4) (hC : 1 ≤ C ∧ C ≤ 4) (hN : NN = R * C) :
  Calls Tryz.prog 55 #[.agg #[.int .i64 R, .int .i64 C, .slice A NN cap]] w (Ret (fun v w' => v = .nilIface ∧ Ch No w w')) := by
 have hNb : NN ≤ 16 := by rw [hN]; exact Nat.mul_le_mul hR.2 hC.2
 have hN0 : 0 < NN := by rw [hN]; exact Nat.mul_pos hR.1 hC.1
 have hNm : (R : Int) * (C : Int) = (NN : Int) := by rw [hN, Int.natCast_mul]
 refine calls_of_VC (args := [.agg #[.int .i64 R, .int .i64 C, .slice A NN cap]]) Tryz.func55 rfl Tryz.ntmps55 rfl (VC.seq (VC.region (VO.wk (Wk.box rfl) rfl rfl rfl ?_)))
 rintro _ w1 ⟨p1, rfl, N1⟩
 have c1 := N1.ch
 have e1 := N1.p; have z1 := N1.size
 have b1 := Bk.new N1
 refine VO.mv (Rn.assign rfl) rfl rfl rfl (VO.nil (VQ.then_code (VC.seq (VC.seq (VC.region (VO.mv (Rn.field Tryz.underlying52 rfl Tryz.sizeOf3 rfl rfl rfl) rfl rfl rfl (VO.mv (Rn.load Tryz.isAgg3 rfl (b1.cell rfl)) rfl rfl rfl ?_)))))))
 refine VO.mv (Rn.lssF rfl rfl (by omega)) rfl rfl rfl (VO.mv (Rn.move rfl) rfl rfl rfl (VO.mv (Rn.field Tryz.underlying52 rfl Tryz.sizeOf3 rfl rfl rfl) rfl rfl rfl (VO.mv (Rn.load Tryz.isAgg3 rfl (b1.cell rfl)) rfl rfl rfl (VO.mv (Rn.gtrF rfl rfl (by omega)) rfl rfl rfl (VO.mv (Rn.pick_false rfl rfl) rfl rfl rfl (VO.mv (Rn.move rfl) rfl rfl rfl (VO.mv (Rn.field Tryz.underlying52 rfl Tryz.sizeOf3 rfl rfl rfl) rfl rfl rfl ?_)))))))
 refine VO.mv (Rn.load Tryz.isAgg3 rfl (b1.cell rfl)) rfl rfl rfl (VO.mv (Rn.lssF rfl rfl (by omega)) rfl rfl rfl (VO.mv (Rn.pick_false rfl rfl) rfl rfl rfl (VO.mv (Rn.move rfl) rfl rfl rfl (VO.mv (Rn.field Tryz.underlying52 rfl Tryz.sizeOf3 rfl rfl rfl) rfl rfl rfl (VO.mv (Rn.load Tryz.isAgg3 rfl (b1.cell rfl)) rfl rfl rfl (VO.mv (Rn.gtrF rfl rfl (by omega)) rfl rfl rfl (VO.mv (Rn.pick_false rfl rfl) rfl rfl rfl ?_)))))))
 refine VO.mv (Rn.move rfl) rfl rfl rfl (VO.mv (Rn.field Tryz.underlying52 rfl Tryz.sizeOf39 rfl rfl rfl) rfl rfl rfl (VO.mv (Rn.load Tryz.isAgg39 rfl (b1.cell rfl)) rfl rfl rfl (VO.mv (Rn.len Tryz.underlying39 rfl) rfl rfl rfl (VO.mv (Rn.field Tryz.underlying52 rfl Tryz.sizeOf3 rfl rfl rfl) rfl rfl rfl (VO.mv (Rn.load Tryz.isAgg3 rfl (b1.cell rfl)) rfl rfl rfl (VO.mv (Rn.field Tryz.underlying52 rfl Tryz.sizeOf3 rfl rfl rfl) rfl rfl rfl (VO.mv (Rn.load Tryz.isAgg3 rfl (b1.cell rfl)) rfl rfl rfl ?_)))))))
 refine VO.mv (Rn.mul rfl rfl (by rw [IntKind.wrap_i64]; omega)) rfl rfl rfl ?_
 refine VO.mv (Rn.neqF rfl rfl (by omega)) rfl rfl rfl (VO.mv (Rn.pick_false rfl rfl) rfl rfl rfl (VO.nil (VQ.then_code (VC.cond_false rfl (VC.skip (VQ.then_code (VC.seq ?_)))))))
 refine VC.region (VO.mv (Rn.assign rfl) rfl rfl rfl (VO.nil (VQ.then_code (VC.ret (VQ.ret1 rfl rfl (Ret.mk ?_))))))
 have CH_1 := (Ch.refl (No) w).and c1
 exact ⟨rfl, CH_1⟩
set_option maxRecDepth 100000 in
theorem grid_row (R C NN i : Nat) (A : Option Addr) (cap : Nat) (w : World) (hR : 1 ≤ R ∧ R ≤ 4) (hC : 1 ≤ C ∧ C ≤ 4) (hN : NN = R * C) (hi : i < R) (hc : NN ≤ cap) :
  Calls Tryz.prog 97 #[.agg #[.int .i64 R, .int .i64 C, .slice A NN cap], .int .i64 i] w (Ret (fun v w' => v = .slice (if cap = i * C then A else A.map (·.add (i * C * 1))) C (cap - i * C) ∧ Ch No w w')) := by
 have hNb : NN ≤ 16 := by rw [hN]; exact Nat.mul_le_mul hR.2 hC.2
 have hN0 : 0 < NN := by rw [hN]; exact Nat.mul_pos hR.1 hC.1
 have hNm : (R : Int) * (C : Int) = (NN : Int) := by rw [hN, Int.natCast_mul]
 obtain ⟨iC, hiC⟩ : ∃ m, m = i * C := ⟨_, rfl⟩
 have e1 : (i : Int) * (C : Int) = (iC : Int) := by rw [hiC, Int.natCast_mul]
 have e2 : ((i : Int) + 1) * (C : Int) = (iC : Int) + (C : Int) := by rw [Int.add_mul, Int.one_mul, e1]
 have h1 : iC + C ≤ NN := by have := Nat.mul_le_mul_right C hi; rw [Nat.succ_mul] at this; omega
 refine calls_of_VC (args := [.agg #[.int .i64 R, .int .i64 C, .slice A NN cap], .int .i64 i]) Tryz.func97 rfl Tryz.ntmps97 rfl (VC.seq (VC.region (VO.wk (Wk.box rfl) rfl rfl rfl ?_)))
 rintro _ w1 ⟨p1, rfl, N1⟩
 have c1 := N1.ch
 have e1 := N1.p; have z1 := N1.size
 have b2 := Bk.new N1
 refine VO.mv (Rn.assign rfl) rfl rfl rfl (VO.nil (VQ.then_code (VC.seq (VC.region (VO.mv (Rn.field Tryz.underlying52 rfl Tryz.sizeOf39 rfl rfl rfl) rfl rfl rfl (VO.mv (Rn.load Tryz.isAgg39 rfl (b2.cell rfl)) rfl rfl rfl (VO.mv (Rn.move rfl) rfl rfl rfl ?_)))))))
 refine VO.mv (Rn.field Tryz.underlying52 rfl Tryz.sizeOf3 rfl rfl rfl) rfl rfl rfl (VO.mv (Rn.load Tryz.isAgg3 rfl (b2.cell rfl)) rfl rfl rfl ?_)
 refine VO.mv (Rn.mul rfl rfl (by rw [IntKind.wrap_i64]; omega)) rfl rfl rfl ?_
 refine VO.mv (Rn.move rfl) rfl rfl rfl ?_
 refine VO.mv (Rn.add rfl rfl (by rw [IntKind.wrap_i64]; omega)) rfl rfl rfl ?_
 refine VO.mv (Rn.field Tryz.underlying52 rfl Tryz.sizeOf3 rfl rfl rfl) rfl rfl rfl (VO.mv (Rn.load Tryz.isAgg3 rfl (b2.cell rfl)) rfl rfl rfl ?_)
 refine VO.mv (Rn.mul rfl rfl (by rw [IntKind.wrap_i64]; omega)) rfl rfl rfl ?_
 refine VO.mv (Rn.sliceLH Tryz.underlying39 Tryz.sizeOf53 rfl rfl rfl (by omega) (by omega) (by omega)) rfl rfl rfl (VO.mv (Rn.assign rfl) rfl rfl rfl (VO.nil (VQ.then_code (VC.ret (VQ.ret1 rfl rfl (Ret.mk ?_))))))
 have t1 : ((i : Int) * (C : Int)).toNat = i * C := by omega
 have t2 : (((i : Int) + 1) * (C : Int)).toNat - i * C = C := by omega
 have CH_1 := (Ch.refl (No) w).and c1
 exact ⟨by rw [t1, t2], CH_1⟩
set_option maxRecDepth 100000 in
theorem grid_do0 (p3 p8 pp lo hi : Nat) (PP : Pln) (n : Nat) (SX : Nat → Prop) (X : Option Addr) (xc : Nat) (zs : List CB) (us vs US VS : Nat → Int) (w : World) (b3 : Bk w p3 #[.func (.func 41) #[] #[]] 85) (b8 : Bk w p8 #[.pointer (some ⟨pp, 0, none⟩)] 70) (pl : PlnR lo hi w pp PP) (hh : hi ≤ w.heap.size) (hL : Leaf n PP.b) (sx : SlR SX w X n 1 (zs.map cxV)) (hX : ∀ q, SX q → q < w.heap.size) (hz : WhU n us vs n zs) (hrel : FwdRel n us vs US VS) (st : StT w) (hG : 12 ≤ w.heap.size) :
  Calls Tryz.prog 79 #[.slice X n xc, .pointer (some ⟨p3, 0, none⟩), .pointer (some ⟨p8, 0, none⟩)] w (Ret (fun v w' => ∃ r A k os, v = .tuple #[.slice A n k, .nilIface] ∧ CR 53 w' r A n k os ∧ WhU n US VS n os ∧ w.heap.size < r ∧ Ch No w w')) := by
 refine calls_of_VC (args := [.slice X n xc, .pointer (some ⟨p3, 0, none⟩), .pointer (some ⟨p8, 0, none⟩)]) Tryz.func79 rfl Tryz.ntmps79 rfl (VC.seq (VC.region (VO.mv (Rn.assign rfl) rfl rfl rfl (VO.mv (Rn.assign rfl) rfl rfl rfl (VO.nil (VQ.then_code (VC.seq ?_)))))))
 refine VC.region (VO.mv (Rn.load Tryz.isAgg85 rfl (b3.cell rfl)) rfl rfl rfl (VO.mv (Rn.load Tryz.isAgg70 rfl (b8.cell rfl)) rfl rfl rfl (VO.mv (Rn.move rfl) rfl rfl rfl ?_)))
 refine VO.wk (Wk.callv Tryz.call41 rfl rfl (by rfl) (plan_FwdL n _ _ _ _ _ _ _ _ us vs _ sx (fun q hq => by have := hX q hq; omega) pl (by omega) hL hz hrel.1 st (by omega))) rfl rfl rfl ?_
 rintro _ w1 ⟨r1, A1, k1, os1, rfl, tr1, ht1, yr1, c1⟩
 have yt1 := Ow.lt tr1
 have z1 := c1.size
 refine VO.mv (Rn.extract rfl rfl) rfl rfl rfl (VO.mv (Rn.extract rfl rfl) rfl rfl rfl (VO.mv (Rn.assign rfl) rfl rfl rfl (VO.mv (Rn.assign rfl) rfl rfl rfl (VO.nil (VQ.then_code (VC.ret (VQ.ret2 rfl rfl rfl ?_)))))))
 refine Ret.mk ?_
 have CH_1 := (Ch.refl (No) w).and c1
 exact ⟨_, _, _, _, rfl, tr1, ht1.cast (fun j hj => ⟨(hrel.2 j hj).1.symm, (hrel.2 j hj).2.symm⟩), by omega, CH_1⟩
set_option maxHeartbeats 2000000 in
set_option maxRecDepth 100000 in
theorem grid_rows0 (p3 p8 pp lo hi : Nat) (PP : Pln) (R C NN r : Nat) (A : Option Addr) (cap : Nat) (zs : List CB) (f g F G : Nat → Nat → Int) (w : World) (b3 : Bk w p3 #[.func (.func 41) #[] #[]] 85) (b8 : Bk w p8 #[.pointer (some ⟨pp, 0, none⟩)] 70) (pl : PlnR lo hi w pp PP) (hh : hi ≤ w.heap.size) (hL : Leaf C PP.b) (row : CR 53 w r A NN cap zs) (n3 : ¬ r = p3 + 1) (n8 : ¬ r = p8 + 1) (hrl : r ≤ lo) (hrg : 12 < r) (hR : 1 ≤ R ∧ R ≤ 4) (hC : 1 ≤ C ∧ C ≤ 4) (hN : NN = R * C) (hz : GrU R C f g zs) (hrel : ∀ i, FwdRel C (f i) (g i) (F i) (G i)) (st : StT w) (hG : 12 ≤ w.heap.size) :
  Calls Tryz.prog 78 #[.agg #[.int .i64 R, .int .i64 C, .slice A NN cap], .func (.func 79) #[] #[.pointer (some ⟨p3, 0, none⟩), .pointer (some ⟨p8, 0, none⟩)]] w (Ret (fun v w' => ∃ ws, v = .nilIface ∧ CR 53 w' r A NN cap ws ∧ GrU R C F G ws ∧ Ch (At r) w w')) := by
 have hNb : NN ≤ 16 := by rw [hN]; exact Nat.mul_le_mul hR.2 hC.2
 have hN0 : 0 < NN := by rw [hN]; exact Nat.mul_pos hR.1 hC.1
 have hNm : (R : Int) * (C : Int) = (NN : Int) := by rw [hN, Int.natCast_mul]
 have hcp := Ow.cap row hN0
 have lrow := Ow.lt row
 have lb3 := b3.lt; have lb8 := b8.lt
 refine calls_of_VC (args := [.agg #[.int .i64 R, .int .i64 C, .slice A NN cap], .func (.func 79) #[] #[.pointer (some ⟨p3, 0, none⟩), .pointer (some ⟨p8, 0, none⟩)]]) Tryz.func78 rfl Tryz.ntmps78 rfl (VC.seq (VC.region (VO.wk (Wk.box rfl) rfl rfl rfl ?_)))
 rintro _ w1 ⟨p1, rfl, N1⟩
 have c1 := N1.ch
 have e1 := N1.p; have z1 := N1.size
 have b2 := Bk.new N1
 refine VO.mv (Rn.assign rfl) rfl rfl rfl (VO.nil (VQ.then_code (VC.seq (VC.seq (VC.region (VO.mv (Rn.field Tryz.underlying52 rfl Tryz.sizeOf3 rfl rfl rfl) rfl rfl rfl (VO.mv (Rn.load Tryz.isAgg3 rfl (b2.cell rfl)) rfl rfl rfl ?_)))))))
 refine VO.mv (Rn.move rfl) rfl rfl rfl (VO.nil (VQ.then_code (VC.block ?_)))
 have row_1 := row.keep c1
 have b3_1 := b3.keep c1
 have b8_1 := b8.keep c1
 have pl_1 := pl.keep c1
 have st_1 := st.keep c1
 have CH_1 := (Ch.refl (At r) w).and c1
 refine VC.loopS (σ := Nat × List CB) (fun (i, ws) => [(1, .func (.func 79) #[] #[.pointer (some ⟨p3, 0, none⟩), .pointer (some ⟨p8, 0, none⟩)]), (2, .pointer (some ⟨p1, 0, none⟩)), (9, .int .i64 R), (10, .int .i64 i)]) (fun (i, ws) w' => i ≤ R ∧ GrU R C (mixG F f i) (mixG G g i) ws ∧ w1.heap.size ≤ w'.heap.size ∧ CR 53 w' r A NN cap ws ∧ Bk w' p1 #[.int .i64 R, .int .i64 C, .slice A NN cap] 52 ∧ Bk w' p3 #[.func (.func 41) #[] #[]] 85 ∧ Bk w' p8 #[.pointer (some ⟨pp, 0, none⟩)] 70 ∧ PlnR lo hi w' pp PP ∧ StT w' ∧ Ch (At r) w w') (fun (i, ws) => R - i) (0, zs) ?_ ⟨rfl, rfl, rfl, rfl, trivial⟩ ?_
 · exact ⟨(by omega), hz.mix0, (Nat.le_refl _), row_1, b2, b3_1, b8_1, pl_1, st_1, CH_1⟩
 rintro ⟨i, ws⟩ w2 ⟨hile, hg, hsz2, row_2, b2_2, b3_2, b8_2, pl_2, st_2, CH_2⟩
 show VC _ _ _ _ [(1, .func (.func 79) #[] #[.pointer (some ⟨p3, 0, none⟩), .pointer (some ⟨p8, 0, none⟩)]), (2, .pointer (some ⟨p1, 0, none⟩)), (9, .int .i64 R), (10, .int .i64 i)] _
 refine VC.seq (VC.region (VO.mv (Rn.lss rfl rfl) rfl rfl rfl (VO.nil (VQ.then_code (VC.seq (VC.cond_if rfl (fun hc1 => ?_) (fun hc1 => ?_)))))))
 ·
  refine VC.skip (VQ.then_code (VC.seq (VC.block (VC.seq ?_))))
  have hi9 : i < R := by omega
  have hiC : i * C + C ≤ NN := by have := Nat.mul_le_mul_right C hi9; rw [Nat.succ_mul] at this; omega
  refine VC.region (VO.mv (Rn.move rfl) rfl rfl rfl (VO.mv (Rn.assign rfl) rfl rfl rfl (VO.nil (VQ.then_code (VC.seq (VC.region (VO.mv (Rn.move rfl) rfl rfl rfl ?_)))))))
  refine VO.mv (Rn.loads Tryz.isAgg52 Tryz.sizeOf52 rfl rfl (b2_2.all' rfl)) rfl rfl rfl (VO.mv (Rn.move rfl) rfl rfl rfl (VO.wk (Wk.call Tryz.call97 rfl (grid_row _ _ _ i _ _ _ hR hC hN hi9 hcp)) rfl rfl rfl ?_))
  rintro _ w3 ⟨rfl, c3⟩
  have z3 := c3.size
  have b3_3 := b3_2.keep c3
  have b8_3 := b8_2.keep c3
  have pl_3 := pl_2.keep c3
  have row_3 := row_2.keep c3
  have st_3 := st_2.keep c3
  refine VO.wk (Wk.callv Tryz.call79 rfl rfl (by rfl) (grid_do0 p3 p8 pp lo hi PP C _ _ _ _ (f i) (g i) (F i) (G i) _ b3_3 b8_3 pl_3 (by omega) hL (CR.subRow row_3 hcp hiC) (fun q hq => by omega) (hg.rowM hi9) (hrel i) st_3 (by omega))) rfl rfl rfl ?_
  rintro _ w4 ⟨r4, A4, k4, os4, rfl, tr4, ht4, yr4, c4⟩
  have yt4 := Ow.lt tr4
  have z4 := c4.size
  obtain ⟨osC, hosC⟩ : ∃ z, z = os4 := ⟨_, rfl⟩
  have htC := ht4; rw [← hosC] at htC tr4
  refine VO.mv (Rn.move rfl) rfl rfl rfl (VO.mv (Rn.extract rfl rfl) rfl rfl rfl (VO.mv (Rn.extract rfl rfl) rfl rfl rfl (VO.mv (Rn.assign rfl) rfl rfl rfl (VO.mv (Rn.assign rfl) rfl rfl rfl (VO.nil (VQ.then_code (VC.seq ?_)))))))
  refine VC.seq (VC.region (VO.mv (Rn.move rfl) rfl rfl rfl (VO.mv (Rn.nil_neq_nil Tryz.underlying29 rfl) rfl rfl rfl (VO.nil (VQ.then_code (VC.cond_false rfl (VC.skip ?_)))))))
  refine VQ.then_code (VC.region ?_)
  have b2_4 := b2_2.keep (c3.trans c4)
  refine VO.mv (Rn.loads Tryz.isAgg52 Tryz.sizeOf52 rfl rfl (b2_4.all' rfl)) rfl rfl rfl (VO.mv (Rn.move rfl) rfl rfl rfl (VO.wk (Wk.call Tryz.call97 rfl (grid_row _ _ _ i _ _ _ hR hC hN hi9 hcp)) rfl rfl rfl ?_))
  rintro _ w5 ⟨rfl, c5⟩
  have z5 := c5.size
  refine VO.mv (Rn.move rfl) rfl rfl rfl ?_
  have row_5 := row_3.keep (c4.trans c5)
  have trC_5 := tr4.keep c5
  refine VO.wk (Wk.copyM Tryz.underlying39 inf53w67 rfl rfl row_5 (trC_5).sl (by omega) (by omega) hiC hcp) rfl rfl rfl ?_
  rintro _ w6 ⟨rfl, row6, c6, z6⟩
  have yr6 := Ow.lt row6
  have z6 := c6.size
  refine VO.nil (VQ.block_normal (VQ.then_code (VC.region ?_)))
  refine VO.mv (Rn.add rfl rfl (by rw [IntKind.wrap_i64]; omega)) rfl rfl rfl ?_
  refine VO.mv (Rn.move rfl) rfl rfl rfl (VO.nil ?_)
  refine VQ.round (i + 1, ws.take (i * C) ++ osC ++ ws.drop (i * C + C)) (by first | omega | (dsimp only; omega)) ?_ ⟨rfl, rfl, rfl, rfl, trivial⟩
  have b2_5 := b2_4.keep c5
  have b2_6 := b2_5.to c6 (by first | exact id | omega)
  have b3_5 := b3_3.keep (c4.trans c5)
  have b3_6 := b3_5.to c6 (by first | exact id | omega)
  have b8_5 := b8_3.keep (c4.trans c5)
  have b8_6 := b8_5.to c6 (by first | exact id | omega)
  have pl_5 := pl_3.keep (c4.trans c5)
  have pl_6 := pl_5.to c6 (by first | exact fun _ _ _ _ => id | (intro q h1 h2 hx h3; omega))
  have st_5 := st_3.keep (c4.trans c5)
  have st_6 := st_5.to c6 (by first | exact fun _ _ _ _ => id | (intro q h1 h2 hx h3; omega))
  have CH_5 := CH_2.and (c3.trans (c4.trans c5))
  have CH_6 : Ch (At r) w w6 := CH_5.then c6 (by intro q h1 h2; rcases h2 with h2 | h2 <;> first | exact h2 | (exfalso; omega) | omega)
  exact ⟨(by omega), (hg.put hi9 htC), (by omega), row6, b2_6, b3_6, b8_6, pl_6, st_6, CH_6⟩
 ·
  refine VC.exit (VQ.then_exit (VQ.then_exit (VQ.block_exit (VQ.then_code (VC.seq (VC.region (VO.mv (Rn.assign rfl) rfl rfl rfl ?_)))))))
  refine VO.nil (VQ.then_code (VC.ret (VQ.ret1 rfl rfl (Ret.mk ?_))))
  have ei : i = R := by omega
  rw [ei] at hg
  exact ⟨ws, rfl, row_2, hg.mixAll, CH_2⟩
set_option maxRecDepth 100000 in
theorem grid_do1 (p3 p8 pp lo hi : Nat) (PP : Pln) (n : Nat) (SX : Nat → Prop) (X : Option Addr) (xc : Nat) (zs : List CB) (us vs US VS : Nat → Int) (w : World) (b3 : Bk w p3 #[.func (.func 43) #[] #[]] 85) (b8 : Bk w p8 #[.pointer (some ⟨pp, 0, none⟩)] 70) (pl : PlnR lo hi w pp PP) (hh : hi ≤ w.heap.size) (hL : Leaf n PP.b) (sx : SlR SX w X n 1 (zs.map cxV)) (hX : ∀ q, SX q → q < w.heap.size) (hz : WhU n us vs n zs) (hrel : InvRel n us vs US VS) (st : StT w) (hG : 12 ≤ w.heap.size) :
  Calls Tryz.prog 79 #[.slice X n xc, .pointer (some ⟨p3, 0, none⟩), .pointer (some ⟨p8, 0, none⟩)] w (Ret (fun v w' => ∃ r A k os, v = .tuple #[.slice A n k, .nilIface] ∧ CR 53 w' r A n k os ∧ WhU n US VS n os ∧ w.heap.size < r ∧ Ch No w w')) := by
 refine calls_of_VC (args := [.slice X n xc, .pointer (some ⟨p3, 0, none⟩), .pointer (some ⟨p8, 0, none⟩)]) Tryz.func79 rfl Tryz.ntmps79 rfl (VC.seq (VC.region (VO.mv (Rn.assign rfl) rfl rfl rfl (VO.mv (Rn.assign rfl) rfl rfl rfl (VO.nil (VQ.then_code (VC.seq ?_)))))))
 refine VC.region (VO.mv (Rn.load Tryz.isAgg85 rfl (b3.cell rfl)) rfl rfl rfl (VO.mv (Rn.load Tryz.isAgg70 rfl (b8.cell rfl)) rfl rfl rfl (VO.mv (Rn.move rfl) rfl rfl rfl ?_)))
 refine VO.wk (Wk.callv Tryz.call43 rfl rfl (by rfl) (plan_InvL n _ _ _ _ _ _ _ _ US VS _ sx (fun q hq => by have := hX q hq; omega) pl (by omega) hL (hz.cast hrel.2) hrel.1 st (by omega))) rfl rfl rfl ?_
 rintro _ w1 ⟨r1, A1, k1, os1, rfl, tr1, ht1, yr1, c1⟩
 have yt1 := Ow.lt tr1
 have z1 := c1.size
 refine VO.mv (Rn.extract rfl rfl) rfl rfl rfl (VO.mv (Rn.extract rfl rfl) rfl rfl rfl (VO.mv (Rn.assign rfl) rfl rfl rfl (VO.mv (Rn.assign rfl) rfl rfl rfl (VO.nil (VQ.then_code (VC.ret (VQ.ret2 rfl rfl rfl ?_)))))))
 refine Ret.mk ?_
 have CH_1 := (Ch.refl (No) w).and c1
 exact ⟨_, _, _, _, rfl, tr1, ht1, by omega, CH_1⟩
set_option maxHeartbeats 2000000 in
set_option maxRecDepth 100000 in
theorem grid_rows1 (p3 p8 pp lo hi : Nat) (PP : Pln) (R C NN r : Nat) (A : Option Addr) (cap : Nat) (zs : List CB) (f g F G : Nat → Nat → Int) (w : World) (b3 : Bk w p3 #[.func (.func 43) #[] #[]] 85) (b8 : Bk w p8 #[.pointer (some ⟨pp, 0, none⟩)] 70) (pl : PlnR lo hi w pp PP) (hh : hi ≤ w.heap.size) (hL : Leaf C PP.b) (row : CR 53 w r A NN cap zs) (n3 : ¬ r = p3 + 1) (n8 : ¬ r = p8 + 1) (hrl : r ≤ lo) (hrg : 12 < r) (hR : 1 ≤ R ∧ R ≤ 4) (hC : 1 ≤ C ∧ C ≤ 4) (hN : NN = R * C) (hz : GrU R C f g zs) (hrel : ∀ i, InvRel C (f i) (g i) (F i) (G i)) (st : StT w) (hG : 12 ≤ w.heap.size) :
  Calls Tryz.prog 78 #[.agg #[.int .i64 R, .int .i64 C, .slice A NN cap], .func (.func 79) #[] #[.pointer (some ⟨p3, 0, none⟩), .pointer (some ⟨p8, 0, none⟩)]] w (Ret (fun v w' => ∃ ws, v = .nilIface ∧ CR 53 w' r A NN cap ws ∧ GrU R C F G ws ∧ Ch (At r) w w')) := by
 have hNb : NN ≤ 16 := by rw [hN]; exact Nat.mul_le_mul hR.2 hC.2
 have hN0 : 0 < NN := by rw [hN]; exact Nat.mul_pos hR.1 hC.1
 have hNm : (R : Int) * (C : Int) = (NN : Int) := by rw [hN, Int.natCast_mul]
 have hcp := Ow.cap row hN0
 have lrow := Ow.lt row
 have lb3 := b3.lt; have lb8 := b8.lt
 refine calls_of_VC (args := [.agg #[.int .i64 R, .int .i64 C, .slice A NN cap], .func (.func 79) #[] #[.pointer (some ⟨p3, 0, none⟩), .pointer (some ⟨p8, 0, none⟩)]]) Tryz.func78 rfl Tryz.ntmps78 rfl (VC.seq (VC.region (VO.wk (Wk.box rfl) rfl rfl rfl ?_)))
 rintro _ w1 ⟨p1, rfl, N1⟩
 have c1 := N1.ch
 have e1 := N1.p; have z1 := N1.size
 have b2 := Bk.new N1
 refine VO.mv (Rn.assign rfl) rfl rfl rfl (VO.nil (VQ.then_code (VC.seq (VC.seq (VC.region (VO.mv (Rn.field Tryz.underlying52 rfl Tryz.sizeOf3 rfl rfl rfl) rfl rfl rfl (VO.mv (Rn.load Tryz.isAgg3 rfl (b2.cell rfl)) rfl rfl rfl ?_)))))))
 refine VO.mv (Rn.move rfl) rfl rfl rfl (VO.nil (VQ.then_code (VC.block ?_)))
 have row_1 := row.keep c1
 have b3_1 := b3.keep c1
 have b8_1 := b8.keep c1
 have pl_1 := pl.keep c1
 have st_1 := st.keep c1
 have CH_1 := (Ch.refl (At r) w).and c1
 refine VC.loopS (σ := Nat × List CB) (fun (i, ws) => [(1, .func (.func 79) #[] #[.pointer (some ⟨p3, 0, none⟩), .pointer (some ⟨p8, 0, none⟩)]), (2, .pointer (some ⟨p1, 0, none⟩)), (9, .int .i64 R), (10, .int .i64 i)]) (fun (i, ws) w' => i ≤ R ∧ GrU R C (mixG F f i) (mixG G g i) ws ∧ w1.heap.size ≤ w'.heap.size ∧ CR 53 w' r A NN cap ws ∧ Bk w' p1 #[.int .i64 R, .int .i64 C, .slice A NN cap] 52 ∧ Bk w' p3 #[.func (.func 43) #[] #[]] 85 ∧ Bk w' p8 #[.pointer (some ⟨pp, 0, none⟩)] 70 ∧ PlnR lo hi w' pp PP ∧ StT w' ∧ Ch (At r) w w') (fun (i, ws) => R - i) (0, zs) ?_ ⟨rfl, rfl, rfl, rfl, trivial⟩ ?_
 · exact ⟨(by omega), hz.mix0, (Nat.le_refl _), row_1, b2, b3_1, b8_1, pl_1, st_1, CH_1⟩
 rintro ⟨i, ws⟩ w2 ⟨hile, hg, hsz2, row_2, b2_2, b3_2, b8_2, pl_2, st_2, CH_2⟩
 show VC _ _ _ _ [(1, .func (.func 79) #[] #[.pointer (some ⟨p3, 0, none⟩), .pointer (some ⟨p8, 0, none⟩)]), (2, .pointer (some ⟨p1, 0, none⟩)), (9, .int .i64 R), (10, .int .i64 i)] _
 refine VC.seq (VC.region (VO.mv (Rn.lss rfl rfl) rfl rfl rfl (VO.nil (VQ.then_code (VC.seq (VC.cond_if rfl (fun hc1 => ?_) (fun hc1 => ?_)))))))
 ·
  refine VC.skip (VQ.then_code (VC.seq (VC.block (VC.seq ?_))))
  have hi9 : i < R := by omega
  have hiC : i * C + C ≤ NN := by have := Nat.mul_le_mul_right C hi9; rw [Nat.succ_mul] at this; omega
  refine VC.region (VO.mv (Rn.move rfl) rfl rfl rfl (VO.mv (Rn.assign rfl) rfl rfl rfl (VO.nil (VQ.then_code (VC.seq (VC.region (VO.mv (Rn.move rfl) rfl rfl rfl ?_)))))))
  refine VO.mv (Rn.loads Tryz.isAgg52 Tryz.sizeOf52 rfl rfl (b2_2.all' rfl)) rfl rfl rfl (VO.mv (Rn.move rfl) rfl rfl rfl (VO.wk (Wk.call Tryz.call97 rfl (grid_row _ _ _ i _ _ _ hR hC hN hi9 hcp)) rfl rfl rfl ?_))
  rintro _ w3 ⟨rfl, c3⟩
  have z3 := c3.size
  have b3_3 := b3_2.keep c3
  have b8_3 := b8_2.keep c3
  have pl_3 := pl_2.keep c3
  have row_3 := row_2.keep c3
  have st_3 := st_2.keep c3
  refine VO.wk (Wk.callv Tryz.call79 rfl rfl (by rfl) (grid_do1 p3 p8 pp lo hi PP C _ _ _ _ (f i) (g i) (F i) (G i) _ b3_3 b8_3 pl_3 (by omega) hL (CR.subRow row_3 hcp hiC) (fun q hq => by omega) (hg.rowM hi9) (hrel i) st_3 (by omega))) rfl rfl rfl ?_
  rintro _ w4 ⟨r4, A4, k4, os4, rfl, tr4, ht4, yr4, c4⟩
  have yt4 := Ow.lt tr4
  have z4 := c4.size
  obtain ⟨osC, hosC⟩ : ∃ z, z = os4 := ⟨_, rfl⟩
  have htC := ht4; rw [← hosC] at htC tr4
  refine VO.mv (Rn.move rfl) rfl rfl rfl (VO.mv (Rn.extract rfl rfl) rfl rfl rfl (VO.mv (Rn.extract rfl rfl) rfl rfl rfl (VO.mv (Rn.assign rfl) rfl rfl rfl (VO.mv (Rn.assign rfl) rfl rfl rfl (VO.nil (VQ.then_code (VC.seq ?_)))))))
  refine VC.seq (VC.region (VO.mv (Rn.move rfl) rfl rfl rfl (VO.mv (Rn.nil_neq_nil Tryz.underlying29 rfl) rfl rfl rfl (VO.nil (VQ.then_code (VC.cond_false rfl (VC.skip ?_)))))))
  refine VQ.then_code (VC.region ?_)
  have b2_4 := b2_2.keep (c3.trans c4)
  refine VO.mv (Rn.loads Tryz.isAgg52 Tryz.sizeOf52 rfl rfl (b2_4.all' rfl)) rfl rfl rfl (VO.mv (Rn.move rfl) rfl rfl rfl (VO.wk (Wk.call Tryz.call97 rfl (grid_row _ _ _ i _ _ _ hR hC hN hi9 hcp)) rfl rfl rfl ?_))
  rintro _ w5 ⟨rfl, c5⟩
  have z5 := c5.size
  refine VO.mv (Rn.move rfl) rfl rfl rfl ?_
  have row_5 := row_3.keep (c4.trans c5)
  have trC_5 := tr4.keep c5
  refine VO.wk (Wk.copyM Tryz.underlying39 inf53w67 rfl rfl row_5 (trC_5).sl (by omega) (by omega) hiC hcp) rfl rfl rfl ?_
  rintro _ w6 ⟨rfl, row6, c6, z6⟩
  have yr6 := Ow.lt row6
  have z6 := c6.size
  refine VO.nil (VQ.block_normal (VQ.then_code (VC.region ?_)))
  refine VO.mv (Rn.add rfl rfl (by rw [IntKind.wrap_i64]; omega)) rfl rfl rfl ?_
  refine VO.mv (Rn.move rfl) rfl rfl rfl (VO.nil ?_)
  refine VQ.round (i + 1, ws.take (i * C) ++ osC ++ ws.drop (i * C + C)) (by first | omega | (dsimp only; omega)) ?_ ⟨rfl, rfl, rfl, rfl, trivial⟩
  have b2_5 := b2_4.keep c5
  have b2_6 := b2_5.to c6 (by first | exact id | omega)
  have b3_5 := b3_3.keep (c4.trans c5)
  have b3_6 := b3_5.to c6 (by first | exact id | omega)
  have b8_5 := b8_3.keep (c4.trans c5)
  have b8_6 := b8_5.to c6 (by first | exact id | omega)
  have pl_5 := pl_3.keep (c4.trans c5)
  have pl_6 := pl_5.to c6 (by first | exact fun _ _ _ _ => id | (intro q h1 h2 hx h3; omega))
  have st_5 := st_3.keep (c4.trans c5)
  have st_6 := st_5.to c6 (by first | exact fun _ _ _ _ => id | (intro q h1 h2 hx h3; omega))
  have CH_5 := CH_2.and (c3.trans (c4.trans c5))
  have CH_6 : Ch (At r) w w6 := CH_5.then c6 (by intro q h1 h2; rcases h2 with h2 | h2 <;> first | exact h2 | (exfalso; omega) | omega)
  exact ⟨(by omega), (hg.put hi9 htC), (by omega), row6, b2_6, b3_6, b8_6, pl_6, st_6, CH_6⟩
 ·
  refine VC.exit (VQ.then_exit (VQ.then_exit (VQ.block_exit (VQ.then_code (VC.seq (VC.region (VO.mv (Rn.assign rfl) rfl rfl rfl ?_)))))))
  refine VO.nil (VQ.then_code (VC.ret (VQ.ret1 rfl rfl (Ret.mk ?_))))
  have ei : i = R := by omega
  rw [ei] at hg
  exact ⟨ws, rfl, row_2, hg.mixAll, CH_2⟩
end Go.Tm
