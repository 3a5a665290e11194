/- Lemmas of this claim, joined by program. Leaves on whole numbers: what comes out is exact, and the inverse brings the list back. Walks of functions: the law's fixed facts. Conditions: each lemma names its own. -/
import Derived.Test.YtkinecckopionaaGreatDoorA15
import Derived.Test.YtkinecckopionaaGreatDoorA10
set_option linter.all false
namespace Go.Tm
open Ieee
/-- A complex number whose parts are whole. -/
def WhC (z : Cx) (a b : Int) : Prop := Wh z.1 a ∧ Wh z.2 b
/-- Within 2^44. -/
def B44 (a : Int) : Prop := -17592186044416 ≤ a ∧ a ≤ 17592186044416
theorem sm_of {a : Int} (h1 : -1000000000000000 ≤ a) (h2 : a ≤ 1000000000000000) : Sm a := by unfold Sm; omega
theorem WhC.plus {x y : Cx} {a b c d : Int} (hx : WhC x a b) (hy : WhC y c d) (ha : -100000000000000 ≤ a ∧ a ≤ 100000000000000) (hb : -100000000000000 ≤ b ∧ b ≤ 100000000000000) (hc : -100000000000000 ≤ c ∧ c ≤ 100000000000000) (hd : -100000000000000 ≤ d ∧ d ≤ 100000000000000) : WhC (plusC x y) (a + c) (b + d) :=
  ⟨hx.1.add hy.1 (sm_of (by omega) (by omega)) (sm_of (by omega) (by omega)) (sm_of (by omega) (by omega)), hx.2.add hy.2 (sm_of (by omega) (by omega)) (sm_of (by omega) (by omega)) (sm_of (by omega) (by omega))⟩
theorem WhC.less {x y : Cx} {a b c d : Int} (hx : WhC x a b) (hy : WhC y c d) (ha : -100000000000000 ≤ a ∧ a ≤ 100000000000000) (hb : -100000000000000 ≤ b ∧ b ≤ 100000000000000) (hc : -100000000000000 ≤ c ∧ c ≤ 100000000000000) (hd : -100000000000000 ≤ d ∧ d ≤ 100000000000000) : WhC (lessC x y) (a - c) (b - d) :=
  ⟨hx.1.sub hy.1 (sm_of (by omega) (by omega)) (sm_of (by omega) (by omega)) (sm_of (by omega) (by omega)), hx.2.sub hy.2 (sm_of (by omega) (by omega)) (sm_of (by omega) (by omega)) (sm_of (by omega) (by omega))⟩
theorem WhC.minusI {x : Cx} {a b : Int} (hx : WhC x a b) (ha : -100000000000000 ≤ a ∧ a ≤ 100000000000000) : WhC (minusI x) b (-a) := ⟨hx.2, hx.1.neg (sm_of (by omega) (by omega))⟩
theorem WhC.timesI {x : Cx} {a b : Int} (hx : WhC x a b) (hb : -100000000000000 ≤ b ∧ b ≤ 100000000000000) : WhC (timesI x) (-b) a := ⟨hx.2.neg (sm_of (by omega) (by omega)), hx.1⟩
theorem WhC.conj {x : Cx} {a b : Int} (hx : WhC x a b) (hb : -100000000000000 ≤ b ∧ b ≤ 100000000000000) : WhC (conjC x) a (-b) := ⟨hx.1, hx.2.neg (sm_of (by omega) (by omega))⟩
theorem WhC.mul {z w : Cx} {a b c s : Int} (hz : WhC z a b) (hw : WhC w c s) (ha : B44 a) (hb : B44 b) (hc : c = -1 ∨ c = 0 ∨ c = 1) (hs : s = -1 ∨ s = 0 ∨ s = 1) : WhC (mulC z w) (a * c - b * s) (a * s + b * c) := by
  obtain ⟨a1, a2⟩ := ha
  obtain ⟨b1, b2⟩ := hb
  rcases hc with rfl | rfl | rfl <;> rcases hs with rfl | rfl | rfl <;>
    exact ⟨(hz.1.mul hw.1 (sm_of (by omega) (by omega)) (sm_of (by omega) (by omega)) (sm_of (by omega) (by omega))).sub (hz.2.mul hw.2 (sm_of (by omega) (by omega)) (sm_of (by omega) (by omega)) (sm_of (by omega) (by omega))) (sm_of (by omega) (by omega)) (sm_of (by omega) (by omega)) (sm_of (by omega) (by omega)),
      (hz.1.mul hw.2 (sm_of (by omega) (by omega)) (sm_of (by omega) (by omega)) (sm_of (by omega) (by omega))).add (hz.2.mul hw.1 (sm_of (by omega) (by omega)) (sm_of (by omega) (by omega)) (sm_of (by omega) (by omega))) (sm_of (by omega) (by omega)) (sm_of (by omega) (by omega)) (sm_of (by omega) (by omega))⟩
theorem cn_wd (s : Bool) {c : Nat} (h : c < 2 ^ 53) : cn (wd s c) = some (wd s c) := by
  rw [cn_eq, if_neg]
  unfold wd
  by_cases h0 : c = 0
  · subst h0; cases s <;> simp
  · obtain ⟨h1, h2, h3⟩ := log2_bd h0 h
    rw [if_neg h0]
    generalize c * 2 ^ (52 - c.log2) = K at *
    generalize c.log2 = L at *
    cases s <;> simp <;> omega
theorem Wh.cn_int {a : Int} (ha : Sm a) : Wh (fi a) a := by
  obtain ⟨s, e, h⟩ := Wh.of_int ha
  injection e with e
  refine ⟨s, ?_, h⟩
  show cn (FloatKind.f64.nearest a) = _
  rw [e, cn_wd s ha]
theorem WhC.over {z : Cx} {a b n p q : Int} (hz : WhC z a b) (hn : 0 < n ∧ n ≤ 16) (ha : a = p * n) (hb : b = q * n) (h1 : -1000000000000000 ≤ a ∧ a ≤ 1000000000000000) (h2 : -1000000000000000 ≤ b ∧ b ≤ 1000000000000000) (h3 : Sm p) (h4 : Sm q) : WhC (overC z n) p q :=
  have hf := Wh.cn_int (a := n) (sm_of (by omega) (by omega))
  ⟨hz.1.quo hf (sm_of (by omega) (by omega)) (sm_of (by omega) (by omega)) hn.1 ha h3, hz.2.quo hf (sm_of (by omega) (by omega)) (sm_of (by omega) (by omega)) hn.1 hb h4⟩
/-- One term of what the law reckons. -/
def uvS (n k j : Nat) (a b : Int) (x : Int × Int) : Int × Int :=
  if 4 * (j * k) / n % 4 = 0 then (x.1 + a, x.2 + b) else if 4 * (j * k) / n % 4 = 1 then (x.1 + b, x.2 - a) else if 4 * (j * k) / n % 4 = 2 then (x.1 - a, x.2 - b) else (x.1 - b, x.2 + a)
def uvL (n k : Nat) (us bs : Nat → Int) : Nat → Int × Int
  | 0 => (0, 0)
  | j + 1 => uvS n k j (us j) (bs j) (uvL n k us bs j)
theorem uv_bd {n k : Nat} {us bs : Nat → Int} {B : Int} (h : ∀ j, (-B ≤ us j ∧ us j ≤ B) ∧ -B ≤ bs j ∧ bs j ≤ B) : ∀ j : Nat, j ≤ 4 → (-(4 * B) ≤ (uvL n k us bs j).1 ∧ (uvL n k us bs j).1 ≤ 4 * B) ∧ -(4 * B) ≤ (uvL n k us bs j).2 ∧ (uvL n k us bs j).2 ≤ 4 * B := by
  have hB : 0 ≤ B := by have := h 0; omega
  have key : ∀ j : Nat, j ≤ 4 → ∃ c : Int, c ≤ 4 * B ∧ c = j * B ∧ (-c ≤ (uvL n k us bs j).1 ∧ (uvL n k us bs j).1 ≤ c) ∧ -c ≤ (uvL n k us bs j).2 ∧ (uvL n k us bs j).2 ≤ c := by
    intro j
    induction j with
    | zero => intro _; exact ⟨0, by omega, by simp, by simp [uvL], by simp [uvL]⟩
    | succ j ih =>
      intro hj
      obtain ⟨c, h1, h2, h3, h4⟩ := ih (by omega)
      have e : (((j + 1 : Nat) : Int)) * B = c + B := by rw [h2]; push_cast; rw [Int.add_mul, Int.one_mul]
      have hle : c + B ≤ 4 * B := by
        rw [← e]
        exact Int.mul_le_mul_of_nonneg_right (by omega) hB
      have := h j
      refine ⟨c + B, hle, e.symm, ?_⟩
      simp only [uvL, uvS]
      split
      · simp only; omega
      · split
        · simp only; omega
        · split <;> simp only <;> omega
  intro j hj
  obtain ⟨c, h1, h2, h3, h4⟩ := key j hj
  omega
def rB (q : Nat) : CB := (pzB (tur q).1, pzB (Op.negFloat .f64 (pzB (tur q).2)))
theorem root_wh (q : Nat) (h : q < 4) : WhC (cx (rB q)) (if q = 0 then 1 else if q = 2 then -1 else 0) (if q = 1 then -1 else if q = 3 then 1 else 0) := by
  match q, h with
  | 0, _ => exact ⟨⟨false, by kernel_rfl, by decide⟩, ⟨false, by kernel_rfl, by decide⟩⟩
  | 1, _ => exact ⟨⟨false, by kernel_rfl, by decide⟩, ⟨true, by kernel_rfl, by decide⟩⟩
  | 2, _ => exact ⟨⟨true, by kernel_rfl, by decide⟩, ⟨false, by kernel_rfl, by decide⟩⟩
  | 3, _ => exact ⟨⟨false, by kernel_rfl, by decide⟩, ⟨false, by kernel_rfl, by decide⟩⟩
/-- A term, by its quarters of a turn. -/
theorem term_wh {n m : Nat} (hn : n = 1 ∨ n = 2 ∨ n = 4) {z : Cx} {a b : Int} (hz : WhC z a b) (ha : B44 a) (hb : B44 b) :
    WhC (if m % n = 0 then z else mulC z (cx (rootB n (m % n)))) (if 4 * m / n % 4 = 0 then a else if 4 * m / n % 4 = 1 then b else if 4 * m / n % 4 = 2 then -a else -b) (if 4 * m / n % 4 = 0 then b else if 4 * m / n % 4 = 1 then -a else if 4 * m / n % 4 = 2 then -b else a) := by
  have one : WhC (mulC z (cx (rB 1))) b (-a) := by have := hz.mul (root_wh 1 (by decide)) ha hb (by decide) (by decide); simpa using this
  have two : WhC (mulC z (cx (rB 2))) (-a) (-b) := by have := hz.mul (root_wh 2 (by decide)) ha hb (by decide) (by decide); simpa using this
  have three : WhC (mulC z (cx (rB 3))) (-b) a := by have := hz.mul (root_wh 3 (by decide)) ha hb (by decide) (by decide); simpa using this
  rcases hn with rfl | rfl | rfl
  · rw [if_pos (Nat.mod_one m), if_pos (by omega), if_pos (by omega)]; exact hz
  · by_cases h : m % 2 = 0
    · rw [if_pos h, if_pos (by omega), if_pos (by omega)]; exact hz
    · have e : m % 2 = 1 := by omega
      have q : 4 * m / 2 % 4 = 2 := by omega
      rw [if_neg h, q, e]; exact two
  · have q : 4 * m / 4 % 4 = m % 4 := by omega
    rw [q]
    have : m % 4 < 4 := Nat.mod_lt _ (by decide)
    match m % 4, this with
    | 0, _ => exact hz
    | 1, _ => exact one
    | 2, _ => exact two
    | 3, _ => exact three
theorem uvS_eq (n k j : Nat) (a b : Int) (x : Int × Int) : uvS n k j a b x = (x.1 + (if 4 * (j * k) / n % 4 = 0 then a else if 4 * (j * k) / n % 4 = 1 then b else if 4 * (j * k) / n % 4 = 2 then -a else -b), x.2 + (if 4 * (j * k) / n % 4 = 0 then b else if 4 * (j * k) / n % 4 = 1 then -a else if 4 * (j * k) / n % 4 = 2 then -b else a)) := by
  unfold uvS
  split
  · rfl
  · split
    · rw [Int.sub_eq_add_neg]
    · split
      · rw [Int.sub_eq_add_neg, Int.sub_eq_add_neg]
      · rw [Int.sub_eq_add_neg]
theorem sum_whC {n k : Nat} (hn : n = 1 ∨ n = 2 ∨ n = 4) {X : Nat → Cx} {us bs : Nat → Int} (hb : ∀ j, B44 (us j) ∧ B44 (bs j)) (hX : ∀ j, j < n → WhC (X j) (us j) (bs j)) : ∀ j, j < n → WhC (sumC n k X j) (uvL n k us bs (j + 1)).1 (uvL n k us bs (j + 1)).2 := by
  intro j
  induction j with
  | zero =>
    intro hj
    have := hX 0 hj
    simp only [sumC, uvL, uvS, Nat.zero_mul, Nat.mul_zero, Nat.zero_div, Nat.zero_mod, if_true, Int.zero_add]
    exact this
  | succ j ih =>
    intro hj
    have h1 := ih (by omega)
    have h2 := term_wh (m := (j + 1) * k) hn (hX (j + 1) hj) (hb _).1 (hb _).2
    have bd := uv_bd (n := n) (k := k) (us := us) (bs := bs) (B := 17592186044416) hb (j + 1) (by omega)
    have b1 := hb (j + 1)
    unfold B44 at b1
    have e : uvL n k us bs (j + 1 + 1) = uvS n k (j + 1) (us (j + 1)) (bs (j + 1)) (uvL n k us bs (j + 1)) := rfl
    rw [e, uvS_eq]
    show WhC (plusC (sumC n k X j) _) _ _
    refine h1.plus h2 (by omega) (by omega) ?_ ?_
    · split
      · omega
      · split
        · omega
        · split <;> omega
    · split
      · omega
      · split
        · omega
        · split <;> omega
theorem direct_whC {n k : Nat} (hn : n = 1 ∨ n = 2 ∨ n = 4) {X : Nat → Cx} {us bs : Nat → Int} (hb : ∀ j, B44 (us j) ∧ B44 (bs j)) (hX : ∀ j, j < n → WhC (X j) (us j) (bs j)) : WhC (directC n k X) (uvL n k us bs n).1 (uvL n k us bs n).2 := by
  have := sum_whC (k := k) hn hb hX (n - 1) (by omega)
  rw [show n - 1 + 1 = n by omega] at this
  exact this
/-- A list of whole complex numbers. -/
def WhL (zs : List Cx) (n : Nat) (us bs : Nat → Int) : Prop := zs.length = n ∧ ∀ k, k < n → WhC (zs.getD k z0) (us k) (bs k)
/-- The programs of leaves. -/
def bD (n : Nat) : Bld := ⟨n, 2 * n, 0, n, [⟨6, n, 0, 1, n, n, 0⟩], n, 2 * n⟩
def bF (n : Nat) : Bld := ⟨n, 2 * n, 0, n, [⟨1, n, 0, 1, n, 0, 0⟩, ⟨5, n, 0, 1, 1, n, 0⟩], n + 1, 2 * n⟩
theorem sum_congr {n k : Nat} {X Y : Nat → Cx} : ∀ m, (∀ j, j ≤ m → X j = Y j) → sumC n k X m = sumC n k Y m
  | 0, h => h 0 (Nat.le_refl 0)
  | m + 1, h => by
    rw [sumC, sumC, sum_congr m (fun j hj => h j (by omega)), h (m + 1) (Nat.le_refl _)]
theorem direct_acts {n : Nat} {zs : List Cx} (h : zs.length = n) : ∀ i, i ≤ n → actsC ⟨6, n, 0, 1, n, n, 0⟩ (zs ++ List.replicate n z0) i = zs ++ ((List.range i).map (fun i => directC n i (fun j => zs.getD j z0)) ++ List.replicate (n - i) z0)
  | 0, _ => by simp [actsC]
  | i + 1, hi => by
    rw [actsC, direct_acts h i (by omega)]
    unfold actC
    rw [if_neg (show ¬ (6 : Int) = 1 by decide), if_neg (show ¬ (6 : Int) = 5 by decide), if_pos (show (6 : Int) = 6 from rfl)]
    simp only [Int.toNat_natCast, Int.toNat_zero, Nat.zero_add]
    have e1 : (1 : Int).toNat = 1 := rfl
    have e : directC n i (fun j => (zs ++ ((List.range i).map (fun i => directC n i (fun j => zs.getD j z0)) ++ List.replicate (n - i) z0)).getD (j * (1 : Int).toNat) z0) = directC n i (fun j => zs.getD j z0) := by
      refine sum_congr _ fun j hj => ?_
      rw [e1, Nat.mul_one]
      simp only [List.getD]
      rw [List.getElem?_append_left (by omega)]
    rw [e]
    obtain ⟨m, hm⟩ : ∃ m, n - i = m + 1 := ⟨n - i - 1, by omega⟩
    rw [hm, show n - (i + 1) = m by omega, List.set_append_right _ _ (by omega), List.set_append_right _ _ (by simp; omega), List.range_succ, List.map_append]
    simp [h, List.replicate_succ]
theorem load_zero {n : Nat} {zs : List Cx} (h : zs.length = n) : loadC (2 * n) 0 zs = zs ++ List.replicate n z0 := by
  simp [loadC, h]; omega
theorem fwd_direct {n : Nat} {zs : List Cx} (h : zs.length = n) : fwdC (bD n) zs = (List.range n).map (fun i => directC n i (fun j => zs.getD j z0)) := by
  have e1 : ((2 : Int) * (n : Int)).toNat = 2 * n := by omega
  unfold fwdC
  simp only [bD, e1, Int.toNat_zero, Int.toNat_natCast]
  rw [load_zero h]
  simp only [runC, List.foldl_cons, List.foldl_nil, Int.toNat_natCast]
  rw [direct_acts h n (Nat.le_refl n)]
  simp [h]
  exact List.take_of_length_le (by simp)
theorem fwd_fly2 (x y : Cx) : fwdC (bF 2) [x, y] = flyC [x, y] := rfl
theorem fwd_fly4 (x y u v : Cx) : fwdC (bF 4) [x, y, u, v] = flyC [x, y, u, v] := rfl
/-- The leaves that the law runs. -/
inductive Leaf : Nat → Bld → Prop
  | d1 : Leaf 1 (bD 1)
  | d2 : Leaf 2 (bD 2)
  | d4 : Leaf 4 (bD 4)
  | f2 : Leaf 2 (bF 2)
  | f4 : Leaf 4 (bF 4)
theorem Leaf.n {n : Nat} {b : Bld} (h : Leaf n b) : n = 1 ∨ n = 2 ∨ n = 4 := by cases h <;> simp
theorem Leaf.ln {n : Nat} {b : Bld} (h : Leaf n b) : b.ln = n := by cases h <;> rfl
theorem fwd_leaf {n : Nat} {b : Bld} (h : Leaf n b) {zs : List Cx} {us bs : Nat → Int} (hz : WhL zs n us bs) (hb : ∀ j, B44 (us j) ∧ B44 (bs j)) : WhL (fwdC b zs) n (fun k => (uvL n k us bs n).1) (fun k => (uvL n k us bs n).2) := by
  have D : ∀ {n : Nat}, (n = 1 ∨ n = 2 ∨ n = 4) → WhL zs n us bs → WhL (fwdC (bD n) zs) n (fun k => (uvL n k us bs n).1) (fun k => (uvL n k us bs n).2) := by
    intro n hn hz
    rw [fwd_direct hz.1]
    refine ⟨by simp, fun k hk => ?_⟩
    have e : ((List.range n).map (fun i => directC n i (fun j => zs.getD j z0))).getD k z0 = directC n k (fun j => zs.getD j z0) := by simp [List.getD, hk]
    rw [e]
    exact direct_whC hn hb hz.2
  have bd := fun j => (hb j)
  unfold B44 at bd
  cases h with
  | d1 => exact D (by decide) hz
  | d2 => exact D (by decide) hz
  | d4 => exact D (by decide) hz
  | f2 =>
    obtain ⟨hl, hz⟩ := hz
    match zs, hl with
    | [x, y], _ =>
      have h0 := hz 0 (by decide)
      have h1 := hz 1 (by decide)
      have b0 := bd 0
      have b1 := bd 1
      rw [fwd_fly2]
      refine ⟨rfl, fun k hk => ?_⟩
      match k, hk with
      | 0, _ =>
        have := h0.plus h1 (by omega) (by omega) (by omega) (by omega)
        show WhC (plusC x y) (uvL 2 0 us bs 2).1 (uvL 2 0 us bs 2).2
        simpa [uvL, uvS] using this
      | 1, _ =>
        have := h0.less h1 (by omega) (by omega) (by omega) (by omega)
        show WhC (lessC x y) (uvL 2 1 us bs 2).1 (uvL 2 1 us bs 2).2
        simpa [uvL, uvS] using this
  | f4 =>
    obtain ⟨hl, hz⟩ := hz
    match zs, hl with
    | [x, y, u, v], _ =>
      have h0 : WhC x (us 0) (bs 0) := hz 0 (by decide)
      have h1 : WhC y (us 1) (bs 1) := hz 1 (by decide)
      have h2 : WhC u (us 2) (bs 2) := hz 2 (by decide)
      have h3 : WhC v (us 3) (bs 3) := hz 3 (by decide)
      have b0 := bd 0
      have b1 := bd 1
      have b2 := bd 2
      have b3 := bd 3
      have p := h0.plus h2 (by omega) (by omega) (by omega) (by omega)
      have q := h0.less h2 (by omega) (by omega) (by omega) (by omega)
      have s := h1.plus h3 (by omega) (by omega) (by omega) (by omega)
      have t := h1.less h3 (by omega) (by omega) (by omega) (by omega)
      rw [fwd_fly4]
      refine ⟨rfl, fun k hk => ?_⟩
      match k, hk with
      | 0, _ =>
        have := p.plus s (by omega) (by omega) (by omega) (by omega)
        have e : uvL 4 0 us bs 4 = (us 0 + us 2 + (us 1 + us 3), bs 0 + bs 2 + (bs 1 + bs 3)) := by simp [uvL, uvS]; omega
        show WhC _ (uvL 4 0 us bs 4).1 (uvL 4 0 us bs 4).2
        rw [e]; exact this
      | 1, _ =>
        have := q.plus (t.minusI (by omega)) (by omega) (by omega) (by omega) (by omega)
        have e : uvL 4 1 us bs 4 = (us 0 - us 2 + (bs 1 - bs 3), bs 0 - bs 2 + -(us 1 - us 3)) := by simp [uvL, uvS]; omega
        show WhC _ (uvL 4 1 us bs 4).1 (uvL 4 1 us bs 4).2
        rw [e]; exact this
      | 2, _ =>
        have := p.less s (by omega) (by omega) (by omega) (by omega)
        have e : uvL 4 2 us bs 4 = (us 0 + us 2 - (us 1 + us 3), bs 0 + bs 2 - (bs 1 + bs 3)) := by simp [uvL, uvS]; omega
        show WhC _ (uvL 4 2 us bs 4).1 (uvL 4 2 us bs 4).2
        rw [e]; exact this
      | 3, _ =>
        have := q.plus (t.timesI (by omega)) (by omega) (by omega) (by omega) (by omega)
        have e : uvL 4 3 us bs 4 = (us 0 - us 2 + -(bs 1 - bs 3), bs 0 - bs 2 + (us 1 - us 3)) := by simp [uvL, uvS]; omega
        show WhC _ (uvL 4 3 us bs 4).1 (uvL 4 3 us bs 4).2
        rw [e]; exact this
/-- There and back: so many times the list. -/
theorem uv_back {n : Nat} (hn : n = 1 ∨ n = 2 ∨ n = 4) (us bs : Nat → Int) {k : Nat} (hk : k < n) : uvL n k (fun j => (uvL n j us bs n).1) (fun j => -(uvL n j us bs n).2) n = (us k * n, -(bs k * n)) := by
  rcases hn with rfl | rfl | rfl
  · match k, hk with
    | 0, _ => simp [uvL, uvS]
  · match k, hk with
    | 0, _ => simp [uvL, uvS]; omega
    | 1, _ => simp [uvL, uvS]; omega
  · match k, hk with
    | 0, _ => simp [uvL, uvS]; omega
    | 1, _ => simp [uvL, uvS]; omega
    | 2, _ => simp [uvL, uvS]; omega
    | 3, _ => simp [uvL, uvS]; omega
theorem mapC_getD {f : Cx → Cx} {l : List Cx} {k : Nat} (h : k < l.length) : (l.map f).getD k z0 = f (l.getD k z0) := by
  simp [List.getD, h]
theorem WhL.conj {zs : List Cx} {n : Nat} {us bs : Nat → Int} (h : WhL zs n us bs) (hb : ∀ j, -100000000000000 ≤ bs j ∧ bs j ≤ 100000000000000) : WhL (zs.map conjC) n us (fun j => -bs j) :=
  ⟨by rw [List.length_map]; exact h.1, fun k hk => by rw [mapC_getD (by rw [h.1]; exact hk)]; exact (h.2 k hk).conj (hb k)⟩
theorem inv_leaf {n : Nat} {b : Bld} (h : Leaf n b) {zs : List Cx} {us bs : Nat → Int} (hz : WhL zs n us bs) (hb : ∀ j, (-1099511627776 ≤ us j ∧ us j ≤ 1099511627776) ∧ -1099511627776 ≤ bs j ∧ bs j ≤ 1099511627776) : WhL (invC b (fwdC b zs)) n us bs := by
  have hn := h.n
  have hB : ∀ j, B44 (us j) ∧ B44 (bs j) := fun j => by have := hb j; unfold B44; omega
  have h1 := fwd_leaf h hz hB
  have h2 := h1.conj (fun j => by have := uv_bd (n := n) (k := j) hb n (by omega); omega)
  have h3 := fwd_leaf h h2 (fun j => by have := uv_bd (n := n) (k := j) hb n (by omega); unfold B44; omega)
  refine ⟨by simp only [invC, List.length_map]; exact h3.1, fun k hk => ?_⟩
  have h4 := h3.2 k hk
  simp only at h4
  rw [uv_back hn us bs hk] at h4
  have hk2 := hb k
  unfold invC
  rw [mapC_getD (by rw [List.length_map, h3.1]; exact hk), mapC_getD (by rw [h3.1]; exact hk), h.ln]
  have hnn : (n : Int) = 1 ∨ (n : Int) = 2 ∨ (n : Int) = 4 := by omega
  have b1 : -100000000000000 ≤ us k * (n : Int) ∧ us k * (n : Int) ≤ 100000000000000 := by rcases hnn with e | e | e <;> rw [e] <;> omega
  have b2 : -100000000000000 ≤ bs k * (n : Int) ∧ bs k * (n : Int) ≤ 100000000000000 := by rcases hnn with e | e | e <;> rw [e] <;> omega
  have h5 := h4.conj (by omega)
  rw [Int.neg_neg] at h5
  exact h5.over (by omega) rfl rfl (by omega) (by omega) (sm_of (by omega) (by omega)) (sm_of (by omega) (by omega))
/-- What a leaf's program is. -/
structure LeafOk (n : Nat) (b : Bld) : Prop where
  ok : PrgOk b (2 * n)
  okb : okB b
  ne : 1 ≤ b.steps.length
  ac : 1 ≤ cntS b.steps
  nf : b.full = false
theorem Leaf.ok {n : Nat} {b : Bld} (h : Leaf n b) : LeafOk n b := by
  cases h <;> exact ⟨⟨by decide, by decide, by decide, by decide, by decide, by decide, by decide, by decide⟩, ⟨by decide, by decide, by decide⟩, by decide, by decide, by decide⟩
theorem leaf_of {kd : Int} {n : Nat} (hn : n = 1 ∨ n = 2 ∨ n = 4) (h : kd = 1 ∨ (kd = 2 ∧ 1 < n)) : Leaf n (buildM (.mk kd n [])) ∧ (Ord.mk kd n []).len = n := by
  rcases hn with rfl | rfl | rfl <;> rcases h with rfl | ⟨rfl, h⟩
  · exact ⟨by rw [show buildM (.mk 1 ((1 : Nat) : Int) []) = bD 1 by kernel_rfl]; exact .d1, by kernel_rfl⟩
  · omega
  · exact ⟨by rw [show buildM (.mk 1 ((2 : Nat) : Int) []) = bD 2 by kernel_rfl]; exact .d2, by kernel_rfl⟩
  · exact ⟨by rw [show buildM (.mk 2 ((2 : Nat) : Int) []) = bF 2 by kernel_rfl]; exact .f2, by kernel_rfl⟩
  · exact ⟨by rw [show buildM (.mk 1 ((4 : Nat) : Int) []) = bD 4 by kernel_rfl]; exact .d4, by kernel_rfl⟩
  · exact ⟨by rw [show buildM (.mk 2 ((4 : Nat) : Int) []) = bF 4 by kernel_rfl]; exact .f4, by kernel_rfl⟩
theorem best4 {r : Ord × Int} (h : Best PU 4 r) : r.1 = .mk 2 ((4 : Nat) : Int) [] := by
  have e : (bestF PU 30 4).map (·.1) = some (.mk 2 ((4 : Nat) : Int) []) := by kernel_rfl
  cases hb : bestF PU 30 4 with
  | none => rw [hb] at e; cases e
  | some r' =>
    rw [hb] at e
    rw [h.unique ⟨30, hb⟩]
    exact Option.some.inj e
theorem Wh.of_cn {u : Nat} {a : Int} (h : Wh (cn u) a) : Wh (some u) a := by
  obtain ⟨s, e, hs⟩ := h
  unfold cn at e
  split at e
  · cases e
  · exact ⟨s, e, hs⟩
theorem Wh.eq_true {u v : Nat} {a : Int} (hx : Wh (cn u) a) (hy : Wh (cn v) a) (ha : Sm a) : (Ieee.double.order u v == some .eq) = true := by
  rw [Wh.order hx.of_cn hy.of_cn ha ha]; simp
theorem ceq_true {x y : CB} {a b : Int} (hx : WhC (cx x) a b) (hy : WhC (cx y) a b) (ha : Sm a) (hb : Sm b) : ceq x y = true := by
  unfold ceq
  rw [Wh.eq_true hx.1 hy.1 ha, Wh.eq_true hx.2 hy.2 hb]; rfl
/-- A whole number as a float, in a cell. -/
theorem whC_int {a b : Int} (ha : Sm a) (hb : Sm b) : WhC (cx (FloatKind.f64.nearest a, FloatKind.f64.nearest b)) a b := ⟨Wh.cn_int ha, Wh.cn_int hb⟩
end Go.Tm
namespace Go.Tm
open Go.RowKit Go.Proofs
section
variable {P : Program} {n : Fr} {k : K} {w : World} {d : Option Tmp} {ty : TypeId} {pos : String} {aft : Array Edge} {g : Option (Nat × Bool)} {t t' : TypeId} {x y : Operand}
theorem Rn.neqF {q : IntKind} {a b : Int} (hx : ev k x = some (.int q a)) (hy : ev k y = some (.int q b)) (h : a = b) : Rn P n k w { dst := d, op := .binOp .neq t x y t', type := ty, pos := pos, after := aft, guard := g } (.bool false) := by
  have := Rn.neq (P := P) (n := n) (w := w) (d := d) (ty := ty) (pos := pos) (aft := aft) (g := g) (t := t) (t' := t') hx hy
  rwa [decide_eq_false (by simpa using h)] at this
theorem Rn.eqlT {q : IntKind} {a b : Int} (hx : ev k x = some (.int q a)) (hy : ev k y = some (.int q b)) (h : a = b) : Rn P n k w { dst := d, op := .binOp .eql t x y t', type := ty, pos := pos, after := aft, guard := g } (.bool true) := by
  have := Rn.eql (P := P) (n := n) (w := w) (d := d) (ty := ty) (pos := pos) (aft := aft) (g := g) (t := t) (t' := t') hx hy
  rwa [decide_eq_true h] at this
theorem Rn.ceqlT {a b c e : Nat} (hx : ev k x = some (.complex .f64 a b)) (hy : ev k y = some (.complex .f64 c e)) (h : ceq (a, b) (c, e) = true) : Rn P n k w { dst := d, op := .binOp .eql t x y t', type := ty, pos := pos, after := aft, guard := g } (.bool true) := by
  have := Rn.ceql (P := P) (n := n) (w := w) (d := d) (ty := ty) (pos := pos) (aft := aft) (g := g) (t := t) (t' := t') hx hy
  rwa [h] at this
theorem Rn.cneqF {a b c e : Nat} (hx : ev k x = some (.complex .f64 a b)) (hy : ev k y = some (.complex .f64 c e)) (h : ceq (a, b) (c, e) = true) : Rn P n k w { dst := d, op := .binOp .neq t x y t', type := ty, pos := pos, after := aft, guard := g } (.bool false) := by
  have := Rn.cneq (P := P) (n := n) (w := w) (d := d) (ty := ty) (pos := pos) (aft := aft) (g := g) (t := t) (t' := t') hx hy
  rwa [h] at this
theorem Rn.fneqF {a b : Nat} (hx : ev k x = some (.float .f64 a)) (hy : ev k y = some (.float .f64 b)) (h : (Ieee.double.order a b == some .eq) = true) : Rn P n k w { dst := d, op := .binOp .neq t x y t', type := ty, pos := pos, after := aft, guard := g } (.bool false) := by
  have := Rn.fneq (P := P) (n := n) (w := w) (d := d) (ty := ty) (pos := pos) (aft := aft) (g := g) (t := t) (t' := t') hx hy
  rw [show (Ieee.double.order a b != some .eq) = !(Ieee.double.order a b == some .eq) from rfl, h] at this
  exact this
end
/-- What is made of 1, 2, 3, 4. -/
abbrev L4 : List CB := [(4607182418800017408, 0), (4611686018427387904, 0), (4613937818241073152, 0), (4616189618054758400, 0)]
theorem alive_wh {b : Bld} (h : Leaf 4 b) {zs : List CB} (hz : zs.map cx = fwdC b (L4.map cx)) :
    ceq (zs.getD 0 (0, 0)) (4621819117588971520, 0) = true ∧ ceq (zs.getD 1 (0, 0)) (13835058055282163712, 4611686018427387904) = true ∧ ceq (zs.getD 2 (0, 0)) (13835058055282163712, 0) = true ∧ ceq (zs.getD 3 (0, 0)) (13835058055282163712, 13835058055282163712) = true := by
  have hi : WhL (L4.map cx) 4 (fun j => if j < 4 then (j : Int) + 1 else 0) (fun _ => 0) := by
    refine ⟨rfl, fun k hk => ?_⟩
    match k, hk with
    | 0, _ => exact ⟨⟨false, by kernel_rfl, by decide⟩, ⟨false, by kernel_rfl, by decide⟩⟩
    | 1, _ => exact ⟨⟨false, by kernel_rfl, by decide⟩, ⟨false, by kernel_rfl, by decide⟩⟩
    | 2, _ => exact ⟨⟨false, by kernel_rfl, by decide⟩, ⟨false, by kernel_rfl, by decide⟩⟩
    | 3, _ => exact ⟨⟨false, by kernel_rfl, by decide⟩, ⟨false, by kernel_rfl, by decide⟩⟩
  have ho := fwd_leaf h hi (fun j => by unfold B44; split <;> omega)
  rw [← hz] at ho
  have hc := fun k hk => ho.2 k hk
  simp only [map_getD] at hc
  exact ⟨ceq_true (hc 0 (by decide)) (y := (4621819117588971520, 0)) ⟨⟨false, by kernel_rfl, by decide⟩, ⟨false, by kernel_rfl, by decide⟩⟩ (by unfold Sm; decide) (by unfold Sm; decide),
    ceq_true (hc 1 (by decide)) (y := (13835058055282163712, 4611686018427387904)) ⟨⟨true, by kernel_rfl, by decide⟩, ⟨false, by kernel_rfl, by decide⟩⟩ (by unfold Sm; decide) (by unfold Sm; decide),
    ceq_true (hc 2 (by decide)) (y := (13835058055282163712, 0)) ⟨⟨true, by kernel_rfl, by decide⟩, ⟨false, by kernel_rfl, by decide⟩⟩ (by unfold Sm; decide) (by unfold Sm; decide),
    ceq_true (hc 3 (by decide)) (y := (13835058055282163712, 13835058055282163712)) ⟨⟨true, by kernel_rfl, by decide⟩, ⟨true, by kernel_rfl, by decide⟩⟩ (by unfold Sm; decide) (by unfold Sm; decide)⟩
abbrev IV (i : Int) : Value := .int .i64 i
/-- A row of whole numbers that the call owns. -/
abbrev IR (e : TypeId) (w : World) (r : Nat) (A : Option Addr) (l c : Nat) (xs : List Int) : Prop := Ow w r e 1 A l c (xs.map IV)
def rowI (n : Nat) (f : Nat → Int) (j : Nat) : List Int := (List.range j).map f ++ List.replicate (n - j) 0
theorem rowI_set {n j : Nat} {f : Nat → Int} (h : j < n) : (rowI n f j).set j (f j) = rowI n f (j + 1) := by
  unfold rowI
  obtain ⟨m, hm⟩ : ∃ m, n - j = m + 1 := ⟨n - j - 1, by omega⟩
  rw [hm, show n - (j + 1) = m by omega, List.set_append_right _ _ (by simp), List.range_succ, List.map_append]
  simp [List.replicate_succ]
theorem rowI_get {n i j : Nat} {f : Nat → Int} (h : i < j) : (rowI n f j).getD i 0 = f i := by
  simp only [rowI, List.getD]
  rw [List.getElem?_append_left (by simpa using h)]
  simp [h]
theorem rowF_get {n i j : Nat} {f : Nat → CB} (h : i < j) : (rowF n f j).getD i (0, 0) = f i := by
  simp only [rowF, List.getD]
  rw [List.getElem?_append_left (by simpa using h)]
  simp [h]
section
variable {P : Program} {n : Fr} {k : K} {w : World} {d : Option Tmp} {ty : TypeId} {pos : String} {aft : Array Edge} {g : Option (Nat × Bool)}
theorem Wk.mkI {t e : TypeId} {by' : Nat} {x y : Operand} {ql qc : IntKind} {l : Int} (ht : P.underlying t = some (.slice e)) (hi : Inf P e (.int .i64 0) 1 by') (hx : ev k x = some (.int ql l)) (hy : ev k y = some (.int qc l)) (h0 : 0 ≤ l) (hb : (by' : Int) * l ≤ 281474976710656) (hm : l ≤ 281474976710656) (f : Nat → Int) :
    Wk P n k w { dst := d, op := .makeSlice t x y, type := ty, pos := pos, after := aft, guard := g }
      (fun v w' => ∃ p, v = .slice (some ⟨p, 0, none⟩) l.toNat l.toNat ∧ IR e w' (p + 1) (some ⟨p, 0, none⟩) l.toNat l.toNat (rowI l.toNat f 0) ∧ Ch No w w' ∧ p = w.heap.size ∧ w'.heap.size = w.heap.size + 1) :=
  (Wk.make ht hi hx hy h0 (Int.le_refl _) hb (by omega)).mono fun v w' ⟨p, hv, N⟩ => by
    rw [Nat.mul_one] at N
    have e1 : (Value.int .i64 0).cells = #[.int .i64 0] := rfl
    rw [e1, made_one] at N
    refine ⟨p, hv, ?_, N.ch, N.p, N.size⟩
    have : (rowI l.toNat f 0).map IV = List.replicate l.toNat (.int .i64 0) := by simp [rowI]
    show Ow _ _ _ _ _ _ _ (List.map IV _)
    rw [this]
    exact Ow.of_new N (by simp) (by simp only [maxLen]; omega)
theorem Wk.putI {t e : TypeId} {r l c j : Nat} {A : Option Addr} {m : Nat} {f : Nat → Int} {x y : Operand} {i v : Int} (hz : ∀ w, (sizeOf t).run P w = .ok 1 w) (hx : ev k x = some (.pointer (some ((sAddr A).add (i.toNat * 1))))) (hy : ev k y = some (.int .i64 v)) (hown : IR e w r A l c (rowI m f j)) (hi : i = j) (hv : v = f j) (hj : j < m) (hm : j < l) :
    Wk P n k w { dst := none, op := .store t x y, type := ty, pos := pos, after := aft, guard := g } (fun _ w' => IR e w' r A l c (rowI m f (j + 1)) ∧ Ch (At r) w w' ∧ w'.heap.size = w.heap.size) := by
  subst hi; subst hv
  exact (Wk.putOw hz hx hy rfl (by omega) hown).mono fun _ w' ⟨h1, h2, h3⟩ => ⟨by show Ow _ _ _ _ _ _ _ (List.map IV _); rw [← rowI_set hj, List.map_set]; exact h1, h2, h3⟩
end
theorem SlR.getI {S : Nat → Prop} {w : World} {A : Option Addr} {l : Nat} {xs : List Int} (h : SlR S w A l 1 (xs.map IV)) {i : Int} (h0 : 0 ≤ i) (h1 : i < l) : w.cell? ((sAddr A).add (i.toNat * 1)) = some (.int .i64 (xs.getD i.toNat 0)) := SlR.get (f := IV) h 0 h0 h1
theorem tm_bd (x : Int) : -1099511627776 ≤ x.tmod 1099511627777 ∧ x.tmod 1099511627777 ≤ 1099511627776 := by
  rcases Int.le_total 0 x with h | h
  · rw [Int.tmod_eq_emod_of_nonneg h]; omega
  · have e : x.tmod 1099511627777 = -((-x).tmod 1099511627777) := by rw [Int.neg_tmod, Int.neg_neg]
    rw [e, Int.tmod_eq_emod_of_nonneg (by omega)]; omega
theorem tm2 (x : Int) : x.tmod 2 = -1 ∨ x.tmod 2 = 0 ∨ x.tmod 2 = 1 := by
  rcases Int.le_total 0 x with h | h
  · rw [Int.tmod_eq_emod_of_nonneg h]; omega
  · have e : x.tmod 2 = -((-x).tmod 2) := by rw [Int.neg_tmod, Int.neg_neg]
    rw [e, Int.tmod_eq_emod_of_nonneg (by omega)]; omega
set_option maxRecDepth 100000 in
theorem infI64 : Inf Tryz.prog 2 (.int .i64 0) 1 8 := ⟨Tryz.t2, Tryz.type2, rfl, rfl, rfl⟩
/-- The plan of a leaf, in either way. -/
theorem plan_OfB (kd : Int) (n : Nat) (hn : n = 1 ∨ n = 2 ∨ n = 4) (hk : kd = 1 ∨ (kd = 2 ∧ 1 < n)) (wy : Int) (hw : wy = 0 ∨ wy = 1) (w : World) (st : StT w) (tab : TabB w.heap.size w) (hG : 11 ≤ w.heap.size) :
    Calls Tryz.prog 8 #[.agg #[.int .i64 kd, .int .i64 n, .slice none 0 0], .int .i64 wy] w (Ret fun v w' => ∃ p P, v = .tuple #[.pointer (some ⟨p, 0, none⟩), .nilIface] ∧ PlnR w.heap.size w'.heap.size w' p P ∧ Leaf n P.b ∧ Ch No w w') := by
  obtain ⟨hL, hl⟩ := leaf_of hn hk
  have hl0 : (Ord.mk kd n []).len ≠ 0 := by rw [hl]; omega
  rcases hw with rfl | rfl
  · refine (plan_Of (.mk kd n []) none 0 0 0 w (RdK.nil _ _) (Nat.zero_le _) hl0 hL.ok.nf st tab hG).mono ?_
    rintro e w' ⟨v, rfl, p, rfl, h1, h2⟩
    exact ⟨_, rfl, p, _, rfl, h1, hL, h2⟩
  · refine (plan_OfW (.mk kd n []) none 0 0 0 w (RdK.nil _ _) (Nat.zero_le _) (by rcases hk with h | h; exact .inl h; exact .inr h.1) hl0 hL.ok.nf st tab hG).mono ?_
    rintro e w' ⟨v, rfl, p, rfl, h1, h2⟩
    exact ⟨_, rfl, p, _, rfl, h1, hL, h2⟩

set_option maxRecDepth 100000 in
theorem inf34w47 : Inf Tryz.prog 34 (.complex .f64 0 0) 1 16 := ⟨Tryz.t34, Tryz.type34, rfl, rfl, rfl⟩
set_option maxHeartbeats 1000000 in
set_option maxRecDepth 100000 in
theorem law_alive (w : World) (st : StT w) (tab : TabB w.heap.size w) (hG : 11 ≤ w.heap.size) :
    Calls Tryz.prog 5 #[] w (Ret (fun v w' => v = .bool true ∧ Ch No w w')) := by
  refine calls_of_VC (args := []) Tryz.func5 rfl Tryz.ntmps5 rfl (VC.seq (VC.region (VO.mv (Rn.assign rfl) rfl rfl rfl (VO.nil (VQ.then_code (VC.seq (VC.region ?_)))))))
  refine VO.wk (Wk.call Tryz.call6 rfl (plan_New 4 (by decide) (by decide) (hasP24 4 (by decide) (by decide)) _ st ((tab).up (by omega)) (by omega))) rfl rfl rfl ?_
  rintro _ w1 ⟨p1, rr1, rfl, hr1, pl1, c1⟩
  have z1 := c1.size
  have h4 := best4 hr1
  rw [h4] at pl1
  have hL : Leaf 4 (plnM (.mk 2 ((4 : Nat) : Int) [])).b := (leaf_of (.inr (.inr rfl)) (.inr ⟨rfl, by decide⟩)).1
  have hln := hL.ln
  refine VO.mv (Rn.move rfl) rfl rfl rfl (VO.mv (Rn.extract rfl rfl) rfl rfl rfl (VO.mv (Rn.extract rfl rfl) rfl rfl rfl (VO.mv (Rn.assign rfl) rfl rfl rfl (VO.mv (Rn.assign rfl) rfl rfl rfl (VO.nil (VQ.then_code (VC.seq ?_)))))))
  refine VC.seq (VC.region (VO.mv (Rn.move rfl) rfl rfl rfl (VO.mv (Rn.nil_neq_nil Tryz.underlying25 rfl) rfl rfl rfl (VO.mv (Rn.move rfl) rfl rfl rfl (VO.mv (Rn.move rfl) rfl rfl rfl (VO.mv (Rn.ptr_eql_nil Tryz.underlying23 rfl) rfl rfl rfl (VO.mv (Rn.pick_false rfl rfl) rfl rfl rfl ?_)))))))
  refine VO.mv (Rn.move rfl) rfl rfl rfl (VO.mv (Rn.move rfl) rfl rfl rfl (VO.wk (Wk.call Tryz.call7 rfl (p_Length _ _ _ _ _ pl1 (by omega))) rfl rfl rfl ?_))
  rintro _ _ ⟨rfl, rfl⟩
  refine VO.mv (Rn.neqF rfl rfl hln) rfl rfl rfl (VO.mv (Rn.pick_false rfl rfl) rfl rfl rfl (VO.nil (VQ.then_code (VC.cond_false rfl (VC.skip (VQ.then_code (VC.seq ?_)))))))
  refine VC.region (VO.mv (Rn.move rfl) rfl rfl rfl (VO.wk (Wk.lit Tryz.underlying33 inf34w47 (by decide) rfl rfl (by rfl) (by decide) (by decide) (by rfl)) rfl rfl rfl ?_))
  rintro _ w2 ⟨p2, rfl, N2⟩
  have c2 := N2.ch
  have e2 := N2.p; have z2 := N2.size
  have l21 := SlR.of_new (sz := 1) (l := 4) N2 rfl
  have l21o := Ow.of_new (sz := 1) (l := 4) N2 rfl (by decide)
  have pl_2 := pl1.keep c2
  have st_2 := st.keep (c1.trans c2)
  refine VO.wk (Wk.call Tryz.call9 rfl (p_Forward _ _ _ _ _ _ 4 _ L4 _ l21 (fun q hq => by omega) pl_2 (by omega) _ hL.ok.ok hL.ok.okb hL.ok.ne (by rw [hL.ln]) st_2 (by omega) hL.ok.ac)) rfl rfl rfl ?_
  rintro _ w3 ⟨r3, A3, k3, zs3, rfl, out3, hz3, yo3, c3⟩
  have z3 := c3.size
  have e4 : (plnM (.mk 2 ((4 : Nat) : Int) [])).b.ln.toNat = 4 := by rw [hln]; rfl
  obtain ⟨hce0, hce1, hce2, hce3⟩ := alive_wh hL hz3
  refine VO.mv (Rn.move rfl) rfl rfl rfl (VO.mv (Rn.extract rfl rfl) rfl rfl rfl (VO.mv (Rn.extract rfl rfl) rfl rfl rfl (VO.mv (Rn.assign rfl) rfl rfl rfl (VO.mv (Rn.assign rfl) rfl rfl rfl (VO.nil (VQ.then_code (VC.seq ?_)))))))
  refine VC.region (VO.mv (Rn.move rfl) rfl rfl rfl (VO.mv (Rn.nil_eql_nil Tryz.underlying25 rfl) rfl rfl rfl (VO.mv (Rn.move rfl) rfl rfl rfl (VO.mv (Rn.move rfl) rfl rfl rfl (VO.mv (Rn.len Tryz.underlying33 rfl) rfl rfl rfl ?_)))))
  refine VO.mv (Rn.eqlT rfl rfl (by rw [e4]; rfl)) rfl rfl rfl ?_
  refine VO.mv (Rn.pick_true rfl rfl) rfl rfl rfl (VO.mv (Rn.move rfl) rfl rfl rfl (VO.mv (Rn.move rfl) rfl rfl rfl (VO.mv (Rn.indexS Tryz.underlying33 Tryz.sizeOf34 rfl rfl (out3.sl.ne (by omega)) (by omega) (by omega)) rfl rfl rfl (VO.mv (Rn.load Tryz.isAgg34 rfl (out3.sl.getC (by omega) (by omega))) rfl rfl rfl (VO.mv (Rn.ceqlT rfl rfl hce0) rfl rfl rfl (VO.mv (Rn.pick_true rfl rfl) rfl rfl rfl (VO.mv (Rn.move rfl) rfl rfl rfl ?_)))))))
  refine VO.mv (Rn.move rfl) rfl rfl rfl (VO.mv (Rn.indexS Tryz.underlying33 Tryz.sizeOf34 rfl rfl (out3.sl.ne (by omega)) (by omega) (by omega)) rfl rfl rfl (VO.mv (Rn.load Tryz.isAgg34 rfl (out3.sl.getC (by omega) (by omega))) rfl rfl rfl (VO.mv (Rn.ceqlT rfl rfl hce1) rfl rfl rfl (VO.mv (Rn.pick_true rfl rfl) rfl rfl rfl (VO.mv (Rn.move rfl) rfl rfl rfl (VO.mv (Rn.move rfl) rfl rfl rfl (VO.mv (Rn.indexS Tryz.underlying33 Tryz.sizeOf34 rfl rfl (out3.sl.ne (by omega)) (by omega) (by omega)) rfl rfl rfl ?_)))))))
  refine VO.mv (Rn.load Tryz.isAgg34 rfl (out3.sl.getC (by omega) (by omega))) rfl rfl rfl (VO.mv (Rn.ceqlT rfl rfl hce2) rfl rfl rfl (VO.mv (Rn.pick_true rfl rfl) rfl rfl rfl (VO.mv (Rn.move rfl) rfl rfl rfl (VO.mv (Rn.move rfl) rfl rfl rfl (VO.mv (Rn.indexS Tryz.underlying33 Tryz.sizeOf34 rfl rfl (out3.sl.ne (by omega)) (by omega) (by omega)) rfl rfl rfl (VO.mv (Rn.load Tryz.isAgg34 rfl (out3.sl.getC (by omega) (by omega))) rfl rfl rfl (VO.mv (Rn.ceqlT rfl rfl hce3) rfl rfl rfl ?_)))))))
  refine VO.mv (Rn.pick_true rfl rfl) rfl rfl rfl (VO.mv (Rn.assign rfl) rfl rfl rfl (VO.nil (VQ.then_code (VC.ret (VQ.ret1 rfl rfl (Ret.mk ?_))))))
  have CH_3 := (Ch.refl (No) w).and (c1.trans (c2.trans c3))
  exact ⟨rfl, CH_3⟩

set_option maxRecDepth 100000 in
theorem law_equal (SA SB : Nat → Prop) (A B : Option Addr) (la lb ca cb : Nat) (xs ys : List CB) (w : World) (sa : SlR SA w A la 1 (xs.map cxV)) (sb : SlR SB w B lb 1 (ys.map cxV)) (hl : la = lb) (hl2 : la ≤ 1000000) (he : ∀ j, j < la → ceq (xs.getD j (0, 0)) (ys.getD j (0, 0)) = true) :
    Calls Tryz.prog 11 #[.slice A la ca, .slice B lb cb] w (Ret (fun v w' => v = .bool true ∧ Ch No w w')) := by
  refine calls_of_VC (args := [.slice A la ca, .slice B lb cb]) Tryz.func11 rfl Tryz.ntmps11 rfl (VC.seq (VC.region (VO.mv (Rn.assign rfl) rfl rfl rfl (VO.nil (VQ.then_code (VC.seq (VC.seq ?_)))))))
  refine VC.region (VO.mv (Rn.move rfl) rfl rfl rfl (VO.mv (Rn.len Tryz.underlying33 rfl) rfl rfl rfl (VO.mv (Rn.move rfl) rfl rfl rfl (VO.mv (Rn.len Tryz.underlying33 rfl) rfl rfl rfl (VO.mv (Rn.neq rfl rfl) rfl rfl rfl (VO.nil (VQ.then_code ?_)))))))
  refine VC.cond_if rfl (fun hc1 => ?_) (fun hc1 => ?_)
  · skip
    omega
  · skip
    refine VC.skip (VQ.then_code (VC.seq (VC.seq (VC.region (VO.mv (Rn.move rfl) rfl rfl rfl (VO.mv (Rn.len Tryz.underlying33 rfl) rfl rfl rfl (VO.mv (Rn.move rfl) rfl rfl rfl ?_)))))))
    refine VO.nil (VQ.then_code (VC.block (VC.loopS (σ := Nat) (fun j => [(0, .slice A la ca), (1, .slice B lb cb), (11, .slice A la ca), (12, .int .i64 la), (13, .int .i64 j)]) (fun j w' => j ≤ la ∧ w.heap.size ≤ w'.heap.size ∧ SlR SA w' A la 1 (xs.map cxV) ∧ SlR SB w' B lb 1 (ys.map cxV) ∧ Ch (No) w w') (fun j => la - j) 0 ?_ ⟨rfl, rfl, rfl, rfl, rfl, trivial⟩ ?_)))
    · exact ⟨(by omega), (Nat.le_refl _), sa, sb, (Ch.refl (No) w)⟩
    rintro j w1 ⟨hj, hsz1, sa_1, sb_1, CH_1⟩
    show VC _ _ _ _ [(0, .slice A la ca), (1, .slice B lb cb), (11, .slice A la ca), (12, .int .i64 la), (13, .int .i64 j)] _
    refine VC.seq (VC.region (VO.mv (Rn.lss rfl rfl) rfl rfl rfl (VO.nil (VQ.then_code (VC.seq (VC.cond_if rfl (fun hc2 => ?_) (fun hc2 => ?_)))))))
    · skip
      refine VC.skip (VQ.then_code (VC.seq (VC.block (VC.seq (VC.region (VO.mv (Rn.move rfl) rfl rfl rfl (VO.mv (Rn.assign rfl) rfl rfl rfl ?_)))))))
      refine VO.nil (VQ.then_code (VC.seq (VC.draws 9 [(0, true), (1, true), (2, true), (3, true), (4, true), (5, true), (6, true), (7, true), (8, true)] (fun w1 w' => Ch (No) w1 w') mixed (by kernel_rfl) (fun _ _ => Ch.refl _ _) ?_)))
      intro w2 D2
      have c2 := Ch.of_drew D2; have z2 := c2.size
      have sa_2 := sa_1.keep c2
      have sb_2 := sb_1.keep c2
      refine VH.mv (fun w' hS => Rn.move rfl) rfl rfl rfl rfl (VH.mv (fun w' hS => Rn.move rfl) rfl rfl rfl rfl (VH.mv (fun w' hS => Rn.indexS Tryz.underlying33 Tryz.sizeOf34 rfl rfl ((sa_2.keep hS).ne (by omega)) (by omega) (by omega)) rfl rfl rfl rfl (VH.mv (fun w' hS => Rn.load Tryz.isAgg34 rfl ((sa_2.keep hS).getC (by omega) (by omega))) rfl rfl rfl rfl (VH.mv (fun w' hS => Rn.move rfl) rfl rfl rfl rfl (VH.mv (fun w' hS => Rn.move rfl) rfl rfl rfl rfl (VH.mv (fun w' hS => Rn.indexS Tryz.underlying33 Tryz.sizeOf34 rfl rfl ((sb_2.keep hS).ne (by omega)) (by omega) (by omega)) rfl rfl rfl rfl (VH.mv (fun w' hS => Rn.load Tryz.isAgg34 rfl ((sb_2.keep hS).getC (by omega) (by omega))) rfl rfl rfl rfl ?_)))))))
      refine VH.mv (fun w' hS => Rn.cneqF rfl rfl (he j (by omega))) rfl rfl rfl rfl (VH.done (VO.nil (VQ.noPanic (VQ.then_code (VC.cond_false rfl (VC.skip (VQ.block_normal ?_)))))))
      refine VQ.then_code (VC.region ?_)
      refine VO.mv (Rn.add rfl rfl (by rw [IntKind.wrap_i64]; omega)) rfl rfl rfl ?_
      refine VO.mv (Rn.move rfl) rfl rfl rfl (VO.nil ?_)
      refine VQ.round (j + 1) (by first | omega | (dsimp only; omega)) ?_ ⟨rfl, rfl, rfl, rfl, rfl, trivial⟩
      have CH_2 := CH_1.and c2
      exact ⟨(by omega), (by omega), sa_2, sb_2, CH_2⟩
    · skip
      refine VC.exit (VQ.then_exit (VQ.then_exit (VQ.block_exit (VQ.then_code (VC.seq (VC.region (VO.mv (Rn.assign rfl) rfl rfl rfl ?_)))))))
      refine VO.nil (VQ.then_code (VC.ret (VQ.ret1 rfl rfl (Ret.mk ?_))))
      exact ⟨rfl, CH_1⟩

end Go.Tm
