/- Lemmas of this claim, joined by program. Leaves on whole numbers: what comes out is exact, and the inverse brings the list back. Walks of functions: the law's fixed facts. Every length up to 4096 has a plan: bounds on what compiling builds, reckoned by the kernel. Every length up to 4096 has a plan: bounds for the planner's choice, by a table that the kernel reckons. Every length up to 4096 has a plan: the table. Conditions: each lemma names its own. -/
import Derived.Test.YtkinecckopionaaGreatDoorB15
import Derived.Test.YtkinecckopionaaGreatDoorB10
import Derived.KernelRfl
set_option linter.all false
namespace Go.Tm
open Ieee
/-- A complex number whose parts are whole. -/
def WhC (z : Cx) (a b : Int) : Prop := Wh z.1 a ∧ Wh z.2 b
/-- Within 2^44. -/
def B44 (a : Int) : Prop := -17592186044416 ≤ a ∧ a ≤ 17592186044416
theorem sm_of {a : Int} (h1 : -1000000000000000 ≤ a) (h2 : a ≤ 1000000000000000) : Sm a := by unfold Sm; omega
theorem WhC.plus {x y : Cx} {a b c d : Int} (hx : WhC x a b) (hy : WhC y c d) (ha : -100000000000000 ≤ a ∧ a ≤ 100000000000000) (hb : -100000000000000 ≤ b ∧ b ≤ 100000000000000) (hc : -100000000000000 ≤ c ∧ c ≤ 100000000000000) (hd : -100000000000000 ≤ d ∧ d ≤ 100000000000000) : WhC (plusC x y) (a + c) (b + d) :=
  ⟨hx.1.add hy.1 (sm_of (by omega) (by omega)) (sm_of (by omega) (by omega)) (sm_of (by omega) (by omega)), hx.2.add hy.2 (sm_of (by omega) (by omega)) (sm_of (by omega) (by omega)) (sm_of (by omega) (by omega))⟩
theorem WhC.less {x y : Cx} {a b c d : Int} (hx : WhC x a b) (hy : WhC y c d) (ha : -100000000000000 ≤ a ∧ a ≤ 100000000000000) (hb : -100000000000000 ≤ b ∧ b ≤ 100000000000000) (hc : -100000000000000 ≤ c ∧ c ≤ 100000000000000) (hd : -100000000000000 ≤ d ∧ d ≤ 100000000000000) : WhC (lessC x y) (a - c) (b - d) :=
  ⟨hx.1.sub hy.1 (sm_of (by omega) (by omega)) (sm_of (by omega) (by omega)) (sm_of (by omega) (by omega)), hx.2.sub hy.2 (sm_of (by omega) (by omega)) (sm_of (by omega) (by omega)) (sm_of (by omega) (by omega))⟩
theorem WhC.minusI {x : Cx} {a b : Int} (hx : WhC x a b) (ha : -100000000000000 ≤ a ∧ a ≤ 100000000000000) : WhC (minusI x) b (-a) := ⟨hx.2, hx.1.neg (sm_of (by omega) (by omega))⟩
theorem WhC.timesI {x : Cx} {a b : Int} (hx : WhC x a b) (hb : -100000000000000 ≤ b ∧ b ≤ 100000000000000) : WhC (timesI x) (-b) a := ⟨hx.2.neg (sm_of (by omega) (by omega)), hx.1⟩
theorem WhC.conj {x : Cx} {a b : Int} (hx : WhC x a b) (hb : -100000000000000 ≤ b ∧ b ≤ 100000000000000) : WhC (conjC x) a (-b) := ⟨hx.1, hx.2.neg (sm_of (by omega) (by omega))⟩
theorem WhC.mul {z w : Cx} {a b c s : Int} (hz : WhC z a b) (hw : WhC w c s) (ha : B44 a) (hb : B44 b) (hc : c = -1 ∨ c = 0 ∨ c = 1) (hs : s = -1 ∨ s = 0 ∨ s = 1) : WhC (mulC z w) (a * c - b * s) (a * s + b * c) := by
  obtain ⟨a1, a2⟩ := ha
  obtain ⟨b1, b2⟩ := hb
  rcases hc with rfl | rfl | rfl <;> rcases hs with rfl | rfl | rfl <;>
    exact ⟨(hz.1.mul hw.1 (sm_of (by omega) (by omega)) (sm_of (by omega) (by omega)) (sm_of (by omega) (by omega))).sub (hz.2.mul hw.2 (sm_of (by omega) (by omega)) (sm_of (by omega) (by omega)) (sm_of (by omega) (by omega))) (sm_of (by omega) (by omega)) (sm_of (by omega) (by omega)) (sm_of (by omega) (by omega)),
      (hz.1.mul hw.2 (sm_of (by omega) (by omega)) (sm_of (by omega) (by omega)) (sm_of (by omega) (by omega))).add (hz.2.mul hw.1 (sm_of (by omega) (by omega)) (sm_of (by omega) (by omega)) (sm_of (by omega) (by omega))) (sm_of (by omega) (by omega)) (sm_of (by omega) (by omega)) (sm_of (by omega) (by omega))⟩
theorem cn_wd (s : Bool) {c : Nat} (h : c < 2 ^ 53) : cn (wd s c) = some (wd s c) := by
  rw [cn_eq, if_neg]
  unfold wd
  by_cases h0 : c = 0
  · subst h0; cases s <;> simp
  · obtain ⟨h1, h2, h3⟩ := log2_bd h0 h
    rw [if_neg h0]
    generalize c * 2 ^ (52 - c.log2) = K at *
    generalize c.log2 = L at *
    cases s <;> simp <;> omega
theorem Wh.cn_int {a : Int} (ha : Sm a) : Wh (fi a) a := by
  obtain ⟨s, e, h⟩ := Wh.of_int ha
  injection e with e
  refine ⟨s, ?_, h⟩
  show cn (FloatKind.f64.nearest a) = _
  rw [e, cn_wd s ha]
theorem WhC.over {z : Cx} {a b n p q : Int} (hz : WhC z a b) (hn : 0 < n ∧ n ≤ 16) (ha : a = p * n) (hb : b = q * n) (h1 : -1000000000000000 ≤ a ∧ a ≤ 1000000000000000) (h2 : -1000000000000000 ≤ b ∧ b ≤ 1000000000000000) (h3 : Sm p) (h4 : Sm q) : WhC (overC z n) p q :=
  have hf := Wh.cn_int (a := n) (sm_of (by omega) (by omega))
  ⟨hz.1.quo hf (sm_of (by omega) (by omega)) (sm_of (by omega) (by omega)) hn.1 ha h3, hz.2.quo hf (sm_of (by omega) (by omega)) (sm_of (by omega) (by omega)) hn.1 hb h4⟩
/-- One term of what the law reckons. -/
def uvS (n k j : Nat) (a b : Int) (x : Int × Int) : Int × Int :=
  if 4 * (j * k) / n % 4 = 0 then (x.1 + a, x.2 + b) else if 4 * (j * k) / n % 4 = 1 then (x.1 + b, x.2 - a) else if 4 * (j * k) / n % 4 = 2 then (x.1 - a, x.2 - b) else (x.1 - b, x.2 + a)
def uvL (n k : Nat) (us bs : Nat → Int) : Nat → Int × Int
  | 0 => (0, 0)
  | j + 1 => uvS n k j (us j) (bs j) (uvL n k us bs j)
theorem uv_bd {n k : Nat} {us bs : Nat → Int} {B : Int} (h : ∀ j, (-B ≤ us j ∧ us j ≤ B) ∧ -B ≤ bs j ∧ bs j ≤ B) : ∀ j : Nat, j ≤ 4 → (-(4 * B) ≤ (uvL n k us bs j).1 ∧ (uvL n k us bs j).1 ≤ 4 * B) ∧ -(4 * B) ≤ (uvL n k us bs j).2 ∧ (uvL n k us bs j).2 ≤ 4 * B := by
  have hB : 0 ≤ B := by have := h 0; omega
  have key : ∀ j : Nat, j ≤ 4 → ∃ c : Int, c ≤ 4 * B ∧ c = j * B ∧ (-c ≤ (uvL n k us bs j).1 ∧ (uvL n k us bs j).1 ≤ c) ∧ -c ≤ (uvL n k us bs j).2 ∧ (uvL n k us bs j).2 ≤ c := by
    intro j
    induction j with
    | zero => intro _; exact ⟨0, by omega, by simp, by simp [uvL], by simp [uvL]⟩
    | succ j ih =>
      intro hj
      obtain ⟨c, h1, h2, h3, h4⟩ := ih (by omega)
      have e : (((j + 1 : Nat) : Int)) * B = c + B := by rw [h2]; push_cast; rw [Int.add_mul, Int.one_mul]
      have hle : c + B ≤ 4 * B := by
        rw [← e]
        exact Int.mul_le_mul_of_nonneg_right (by omega) hB
      have := h j
      refine ⟨c + B, hle, e.symm, ?_⟩
      simp only [uvL, uvS]
      split
      · simp only; omega
      · split
        · simp only; omega
        · split <;> simp only <;> omega
  intro j hj
  obtain ⟨c, h1, h2, h3, h4⟩ := key j hj
  omega
def rB (q : Nat) : CB := (pzB (tur q).1, pzB (Op.negFloat .f64 (pzB (tur q).2)))
theorem root_wh (q : Nat) (h : q < 4) : WhC (cx (rB q)) (if q = 0 then 1 else if q = 2 then -1 else 0) (if q = 1 then -1 else if q = 3 then 1 else 0) := by
  match q, h with
  | 0, _ => exact ⟨⟨false, by kernel_rfl, by decide⟩, ⟨false, by kernel_rfl, by decide⟩⟩
  | 1, _ => exact ⟨⟨false, by kernel_rfl, by decide⟩, ⟨true, by kernel_rfl, by decide⟩⟩
  | 2, _ => exact ⟨⟨true, by kernel_rfl, by decide⟩, ⟨false, by kernel_rfl, by decide⟩⟩
  | 3, _ => exact ⟨⟨false, by kernel_rfl, by decide⟩, ⟨false, by kernel_rfl, by decide⟩⟩
/-- A term, by its quarters of a turn. -/
theorem term_wh {n m : Nat} (hn : n = 1 ∨ n = 2 ∨ n = 4) {z : Cx} {a b : Int} (hz : WhC z a b) (ha : B44 a) (hb : B44 b) :
    WhC (if m % n = 0 then z else mulC z (cx (rootB n (m % n)))) (if 4 * m / n % 4 = 0 then a else if 4 * m / n % 4 = 1 then b else if 4 * m / n % 4 = 2 then -a else -b) (if 4 * m / n % 4 = 0 then b else if 4 * m / n % 4 = 1 then -a else if 4 * m / n % 4 = 2 then -b else a) := by
  have one : WhC (mulC z (cx (rB 1))) b (-a) := by have := hz.mul (root_wh 1 (by decide)) ha hb (by decide) (by decide); simpa using this
  have two : WhC (mulC z (cx (rB 2))) (-a) (-b) := by have := hz.mul (root_wh 2 (by decide)) ha hb (by decide) (by decide); simpa using this
  have three : WhC (mulC z (cx (rB 3))) (-b) a := by have := hz.mul (root_wh 3 (by decide)) ha hb (by decide) (by decide); simpa using this
  rcases hn with rfl | rfl | rfl
  · rw [if_pos (Nat.mod_one m), if_pos (by omega), if_pos (by omega)]; exact hz
  · by_cases h : m % 2 = 0
    · rw [if_pos h, if_pos (by omega), if_pos (by omega)]; exact hz
    · have e : m % 2 = 1 := by omega
      have q : 4 * m / 2 % 4 = 2 := by omega
      rw [if_neg h, q, e]; exact two
  · have q : 4 * m / 4 % 4 = m % 4 := by omega
    rw [q]
    have : m % 4 < 4 := Nat.mod_lt _ (by decide)
    match m % 4, this with
    | 0, _ => exact hz
    | 1, _ => exact one
    | 2, _ => exact two
    | 3, _ => exact three
theorem uvS_eq (n k j : Nat) (a b : Int) (x : Int × Int) : uvS n k j a b x = (x.1 + (if 4 * (j * k) / n % 4 = 0 then a else if 4 * (j * k) / n % 4 = 1 then b else if 4 * (j * k) / n % 4 = 2 then -a else -b), x.2 + (if 4 * (j * k) / n % 4 = 0 then b else if 4 * (j * k) / n % 4 = 1 then -a else if 4 * (j * k) / n % 4 = 2 then -b else a)) := by
  unfold uvS
  split
  · rfl
  · split
    · rw [Int.sub_eq_add_neg]
    · split
      · rw [Int.sub_eq_add_neg, Int.sub_eq_add_neg]
      · rw [Int.sub_eq_add_neg]
theorem sum_whC {n k : Nat} (hn : n = 1 ∨ n = 2 ∨ n = 4) {X : Nat → Cx} {us bs : Nat → Int} (hb : ∀ j, B44 (us j) ∧ B44 (bs j)) (hX : ∀ j, j < n → WhC (X j) (us j) (bs j)) : ∀ j, j < n → WhC (sumC n k X j) (uvL n k us bs (j + 1)).1 (uvL n k us bs (j + 1)).2 := by
  intro j
  induction j with
  | zero =>
    intro hj
    have := hX 0 hj
    simp only [sumC, uvL, uvS, Nat.zero_mul, Nat.mul_zero, Nat.zero_div, Nat.zero_mod, if_true, Int.zero_add]
    exact this
  | succ j ih =>
    intro hj
    have h1 := ih (by omega)
    have h2 := term_wh (m := (j + 1) * k) hn (hX (j + 1) hj) (hb _).1 (hb _).2
    have bd := uv_bd (n := n) (k := k) (us := us) (bs := bs) (B := 17592186044416) hb (j + 1) (by omega)
    have b1 := hb (j + 1)
    unfold B44 at b1
    have e : uvL n k us bs (j + 1 + 1) = uvS n k (j + 1) (us (j + 1)) (bs (j + 1)) (uvL n k us bs (j + 1)) := rfl
    rw [e, uvS_eq]
    show WhC (plusC (sumC n k X j) _) _ _
    refine h1.plus h2 (by omega) (by omega) ?_ ?_
    · split
      · omega
      · split
        · omega
        · split <;> omega
    · split
      · omega
      · split
        · omega
        · split <;> omega
theorem direct_whC {n k : Nat} (hn : n = 1 ∨ n = 2 ∨ n = 4) {X : Nat → Cx} {us bs : Nat → Int} (hb : ∀ j, B44 (us j) ∧ B44 (bs j)) (hX : ∀ j, j < n → WhC (X j) (us j) (bs j)) : WhC (directC n k X) (uvL n k us bs n).1 (uvL n k us bs n).2 := by
  have := sum_whC (k := k) hn hb hX (n - 1) (by omega)
  rw [show n - 1 + 1 = n by omega] at this
  exact this
/-- A list of whole complex numbers. -/
def WhL (zs : List Cx) (n : Nat) (us bs : Nat → Int) : Prop := zs.length = n ∧ ∀ k, k < n → WhC (zs.getD k z0) (us k) (bs k)
/-- The programs of leaves. -/
def bD (n : Nat) : Bld := ⟨n, 2 * n, 0, n, [⟨6, n, 0, 1, n, n, 0⟩], n, 2 * n⟩
def bF (n : Nat) : Bld := ⟨n, 2 * n, 0, n, [⟨1, n, 0, 1, n, 0, 0⟩, ⟨5, n, 0, 1, 1, n, 0⟩], n + 1, 2 * n⟩
theorem sum_congr {n k : Nat} {X Y : Nat → Cx} : ∀ m, (∀ j, j ≤ m → X j = Y j) → sumC n k X m = sumC n k Y m
  | 0, h => h 0 (Nat.le_refl 0)
  | m + 1, h => by
    rw [sumC, sumC, sum_congr m (fun j hj => h j (by omega)), h (m + 1) (Nat.le_refl _)]
theorem direct_acts {n : Nat} {zs : List Cx} (h : zs.length = n) : ∀ i, i ≤ n → actsC ⟨6, n, 0, 1, n, n, 0⟩ (zs ++ List.replicate n z0) i = zs ++ ((List.range i).map (fun i => directC n i (fun j => zs.getD j z0)) ++ List.replicate (n - i) z0)
  | 0, _ => by simp [actsC]
  | i + 1, hi => by
    rw [actsC, direct_acts h i (by omega)]
    unfold actC
    rw [if_neg (show ¬ (6 : Int) = 1 by decide), if_neg (show ¬ (6 : Int) = 5 by decide), if_pos (show (6 : Int) = 6 from rfl)]
    simp only [Int.toNat_natCast, Int.toNat_zero, Nat.zero_add]
    have e1 : (1 : Int).toNat = 1 := rfl
    have e : directC n i (fun j => (zs ++ ((List.range i).map (fun i => directC n i (fun j => zs.getD j z0)) ++ List.replicate (n - i) z0)).getD (j * (1 : Int).toNat) z0) = directC n i (fun j => zs.getD j z0) := by
      refine sum_congr _ fun j hj => ?_
      rw [e1, Nat.mul_one]
      simp only [List.getD]
      rw [List.getElem?_append_left (by omega)]
    rw [e]
    obtain ⟨m, hm⟩ : ∃ m, n - i = m + 1 := ⟨n - i - 1, by omega⟩
    rw [hm, show n - (i + 1) = m by omega, List.set_append_right _ _ (by omega), List.set_append_right _ _ (by simp; omega), List.range_succ, List.map_append]
    simp [h, List.replicate_succ]
theorem load_zero {n : Nat} {zs : List Cx} (h : zs.length = n) : loadC (2 * n) 0 zs = zs ++ List.replicate n z0 := by
  simp [loadC, h]; omega
theorem fwd_direct {n : Nat} {zs : List Cx} (h : zs.length = n) : fwdC (bD n) zs = (List.range n).map (fun i => directC n i (fun j => zs.getD j z0)) := by
  have e1 : ((2 : Int) * (n : Int)).toNat = 2 * n := by omega
  unfold fwdC
  simp only [bD, e1, Int.toNat_zero, Int.toNat_natCast]
  rw [load_zero h]
  simp only [runC, List.foldl_cons, List.foldl_nil, Int.toNat_natCast]
  rw [direct_acts h n (Nat.le_refl n)]
  simp [h]
  exact List.take_of_length_le (by simp)
theorem fwd_fly2 (x y : Cx) : fwdC (bF 2) [x, y] = flyC [x, y] := rfl
theorem fwd_fly4 (x y u v : Cx) : fwdC (bF 4) [x, y, u, v] = flyC [x, y, u, v] := rfl
/-- The leaves that the law runs. -/
inductive Leaf : Nat → Bld → Prop
  | d1 : Leaf 1 (bD 1)
  | d2 : Leaf 2 (bD 2)
  | d4 : Leaf 4 (bD 4)
  | f2 : Leaf 2 (bF 2)
  | f4 : Leaf 4 (bF 4)
theorem Leaf.n {n : Nat} {b : Bld} (h : Leaf n b) : n = 1 ∨ n = 2 ∨ n = 4 := by cases h <;> simp
theorem Leaf.ln {n : Nat} {b : Bld} (h : Leaf n b) : b.ln = n := by cases h <;> rfl
theorem fwd_leaf {n : Nat} {b : Bld} (h : Leaf n b) {zs : List Cx} {us bs : Nat → Int} (hz : WhL zs n us bs) (hb : ∀ j, B44 (us j) ∧ B44 (bs j)) : WhL (fwdC b zs) n (fun k => (uvL n k us bs n).1) (fun k => (uvL n k us bs n).2) := by
  have D : ∀ {n : Nat}, (n = 1 ∨ n = 2 ∨ n = 4) → WhL zs n us bs → WhL (fwdC (bD n) zs) n (fun k => (uvL n k us bs n).1) (fun k => (uvL n k us bs n).2) := by
    intro n hn hz
    rw [fwd_direct hz.1]
    refine ⟨by simp, fun k hk => ?_⟩
    have e : ((List.range n).map (fun i => directC n i (fun j => zs.getD j z0))).getD k z0 = directC n k (fun j => zs.getD j z0) := by simp [List.getD, hk]
    rw [e]
    exact direct_whC hn hb hz.2
  have bd := fun j => (hb j)
  unfold B44 at bd
  cases h with
  | d1 => exact D (by decide) hz
  | d2 => exact D (by decide) hz
  | d4 => exact D (by decide) hz
  | f2 =>
    obtain ⟨hl, hz⟩ := hz
    match zs, hl with
    | [x, y], _ =>
      have h0 := hz 0 (by decide)
      have h1 := hz 1 (by decide)
      have b0 := bd 0
      have b1 := bd 1
      rw [fwd_fly2]
      refine ⟨rfl, fun k hk => ?_⟩
      match k, hk with
      | 0, _ =>
        have := h0.plus h1 (by omega) (by omega) (by omega) (by omega)
        show WhC (plusC x y) (uvL 2 0 us bs 2).1 (uvL 2 0 us bs 2).2
        simpa [uvL, uvS] using this
      | 1, _ =>
        have := h0.less h1 (by omega) (by omega) (by omega) (by omega)
        show WhC (lessC x y) (uvL 2 1 us bs 2).1 (uvL 2 1 us bs 2).2
        simpa [uvL, uvS] using this
  | f4 =>
    obtain ⟨hl, hz⟩ := hz
    match zs, hl with
    | [x, y, u, v], _ =>
      have h0 : WhC x (us 0) (bs 0) := hz 0 (by decide)
      have h1 : WhC y (us 1) (bs 1) := hz 1 (by decide)
      have h2 : WhC u (us 2) (bs 2) := hz 2 (by decide)
      have h3 : WhC v (us 3) (bs 3) := hz 3 (by decide)
      have b0 := bd 0
      have b1 := bd 1
      have b2 := bd 2
      have b3 := bd 3
      have p := h0.plus h2 (by omega) (by omega) (by omega) (by omega)
      have q := h0.less h2 (by omega) (by omega) (by omega) (by omega)
      have s := h1.plus h3 (by omega) (by omega) (by omega) (by omega)
      have t := h1.less h3 (by omega) (by omega) (by omega) (by omega)
      rw [fwd_fly4]
      refine ⟨rfl, fun k hk => ?_⟩
      match k, hk with
      | 0, _ =>
        have := p.plus s (by omega) (by omega) (by omega) (by omega)
        have e : uvL 4 0 us bs 4 = (us 0 + us 2 + (us 1 + us 3), bs 0 + bs 2 + (bs 1 + bs 3)) := by simp [uvL, uvS]; omega
        show WhC _ (uvL 4 0 us bs 4).1 (uvL 4 0 us bs 4).2
        rw [e]; exact this
      | 1, _ =>
        have := q.plus (t.minusI (by omega)) (by omega) (by omega) (by omega) (by omega)
        have e : uvL 4 1 us bs 4 = (us 0 - us 2 + (bs 1 - bs 3), bs 0 - bs 2 + -(us 1 - us 3)) := by simp [uvL, uvS]; omega
        show WhC _ (uvL 4 1 us bs 4).1 (uvL 4 1 us bs 4).2
        rw [e]; exact this
      | 2, _ =>
        have := p.less s (by omega) (by omega) (by omega) (by omega)
        have e : uvL 4 2 us bs 4 = (us 0 + us 2 - (us 1 + us 3), bs 0 + bs 2 - (bs 1 + bs 3)) := by simp [uvL, uvS]; omega
        show WhC _ (uvL 4 2 us bs 4).1 (uvL 4 2 us bs 4).2
        rw [e]; exact this
      | 3, _ =>
        have := q.plus (t.timesI (by omega)) (by omega) (by omega) (by omega) (by omega)
        have e : uvL 4 3 us bs 4 = (us 0 - us 2 + -(bs 1 - bs 3), bs 0 - bs 2 + (us 1 - us 3)) := by simp [uvL, uvS]; omega
        show WhC _ (uvL 4 3 us bs 4).1 (uvL 4 3 us bs 4).2
        rw [e]; exact this
/-- There and back: so many times the list. -/
theorem uv_back {n : Nat} (hn : n = 1 ∨ n = 2 ∨ n = 4) (us bs : Nat → Int) {k : Nat} (hk : k < n) : uvL n k (fun j => (uvL n j us bs n).1) (fun j => -(uvL n j us bs n).2) n = (us k * n, -(bs k * n)) := by
  rcases hn with rfl | rfl | rfl
  · match k, hk with
    | 0, _ => simp [uvL, uvS]
  · match k, hk with
    | 0, _ => simp [uvL, uvS]; omega
    | 1, _ => simp [uvL, uvS]; omega
  · match k, hk with
    | 0, _ => simp [uvL, uvS]; omega
    | 1, _ => simp [uvL, uvS]; omega
    | 2, _ => simp [uvL, uvS]; omega
    | 3, _ => simp [uvL, uvS]; omega
theorem mapC_getD {f : Cx → Cx} {l : List Cx} {k : Nat} (h : k < l.length) : (l.map f).getD k z0 = f (l.getD k z0) := by
  simp [List.getD, h]
theorem WhL.conj {zs : List Cx} {n : Nat} {us bs : Nat → Int} (h : WhL zs n us bs) (hb : ∀ j, -100000000000000 ≤ bs j ∧ bs j ≤ 100000000000000) : WhL (zs.map conjC) n us (fun j => -bs j) :=
  ⟨by rw [List.length_map]; exact h.1, fun k hk => by rw [mapC_getD (by rw [h.1]; exact hk)]; exact (h.2 k hk).conj (hb k)⟩
theorem inv_leaf {n : Nat} {b : Bld} (h : Leaf n b) {zs : List Cx} {us bs : Nat → Int} (hz : WhL zs n us bs) (hb : ∀ j, (-1099511627776 ≤ us j ∧ us j ≤ 1099511627776) ∧ -1099511627776 ≤ bs j ∧ bs j ≤ 1099511627776) : WhL (invC b (fwdC b zs)) n us bs := by
  have hn := h.n
  have hB : ∀ j, B44 (us j) ∧ B44 (bs j) := fun j => by have := hb j; unfold B44; omega
  have h1 := fwd_leaf h hz hB
  have h2 := h1.conj (fun j => by have := uv_bd (n := n) (k := j) hb n (by omega); omega)
  have h3 := fwd_leaf h h2 (fun j => by have := uv_bd (n := n) (k := j) hb n (by omega); unfold B44; omega)
  refine ⟨by simp only [invC, List.length_map]; exact h3.1, fun k hk => ?_⟩
  have h4 := h3.2 k hk
  simp only at h4
  rw [uv_back hn us bs hk] at h4
  have hk2 := hb k
  unfold invC
  rw [mapC_getD (by rw [List.length_map, h3.1]; exact hk), mapC_getD (by rw [h3.1]; exact hk), h.ln]
  have hnn : (n : Int) = 1 ∨ (n : Int) = 2 ∨ (n : Int) = 4 := by omega
  have b1 : -100000000000000 ≤ us k * (n : Int) ∧ us k * (n : Int) ≤ 100000000000000 := by rcases hnn with e | e | e <;> rw [e] <;> omega
  have b2 : -100000000000000 ≤ bs k * (n : Int) ∧ bs k * (n : Int) ≤ 100000000000000 := by rcases hnn with e | e | e <;> rw [e] <;> omega
  have h5 := h4.conj (by omega)
  rw [Int.neg_neg] at h5
  exact h5.over (by omega) rfl rfl (by omega) (by omega) (sm_of (by omega) (by omega)) (sm_of (by omega) (by omega))
/-- What a leaf's program is. -/
structure LeafOk (n : Nat) (b : Bld) : Prop where
  ok : PrgOk b (2 * n)
  okb : okB b
  ne : 1 ≤ b.steps.length
  ac : 1 ≤ cntS b.steps
  nf : b.full = false
theorem Leaf.ok {n : Nat} {b : Bld} (h : Leaf n b) : LeafOk n b := by
  cases h <;> exact ⟨⟨by decide, by decide, by decide, by decide, by decide, by decide, by decide, by decide⟩, ⟨by decide, by decide, by decide⟩, by decide, by decide, by decide⟩
theorem leaf_of {kd : Int} {n : Nat} (hn : n = 1 ∨ n = 2 ∨ n = 4) (h : kd = 1 ∨ (kd = 2 ∧ 1 < n)) : Leaf n (buildM (.mk kd n [])) ∧ (Ord.mk kd n []).len = n := by
  rcases hn with rfl | rfl | rfl <;> rcases h with rfl | ⟨rfl, h⟩
  · exact ⟨by rw [show buildM (.mk 1 ((1 : Nat) : Int) []) = bD 1 by kernel_rfl]; exact .d1, by kernel_rfl⟩
  · omega
  · exact ⟨by rw [show buildM (.mk 1 ((2 : Nat) : Int) []) = bD 2 by kernel_rfl]; exact .d2, by kernel_rfl⟩
  · exact ⟨by rw [show buildM (.mk 2 ((2 : Nat) : Int) []) = bF 2 by kernel_rfl]; exact .f2, by kernel_rfl⟩
  · exact ⟨by rw [show buildM (.mk 1 ((4 : Nat) : Int) []) = bD 4 by kernel_rfl]; exact .d4, by kernel_rfl⟩
  · exact ⟨by rw [show buildM (.mk 2 ((4 : Nat) : Int) []) = bF 4 by kernel_rfl]; exact .f4, by kernel_rfl⟩
theorem best4 {r : Ord × Int} (h : Best PU 4 r) : r.1 = .mk 2 ((4 : Nat) : Int) [] := by
  have e : (bestF PU 30 4).map (·.1) = some (.mk 2 ((4 : Nat) : Int) []) := by kernel_rfl
  cases hb : bestF PU 30 4 with
  | none => rw [hb] at e; cases e
  | some r' =>
    rw [hb] at e
    rw [h.unique ⟨30, hb⟩]
    exact Option.some.inj e
theorem Wh.of_cn {u : Nat} {a : Int} (h : Wh (cn u) a) : Wh (some u) a := by
  obtain ⟨s, e, hs⟩ := h
  unfold cn at e
  split at e
  · cases e
  · exact ⟨s, e, hs⟩
theorem Wh.eq_true {u v : Nat} {a : Int} (hx : Wh (cn u) a) (hy : Wh (cn v) a) (ha : Sm a) : (Ieee.double.order u v == some .eq) = true := by
  rw [Wh.order hx.of_cn hy.of_cn ha ha]; simp
theorem ceq_true {x y : CB} {a b : Int} (hx : WhC (cx x) a b) (hy : WhC (cx y) a b) (ha : Sm a) (hb : Sm b) : ceq x y = true := by
  unfold ceq
  rw [Wh.eq_true hx.1 hy.1 ha, Wh.eq_true hx.2 hy.2 hb]; rfl
/-- A whole number as a float, in a cell. -/
theorem whC_int {a b : Int} (ha : Sm a) (hb : Sm b) : WhC (cx (FloatKind.f64.nearest a, FloatKind.f64.nearest b)) a b := ⟨Wh.cn_int ha, Wh.cn_int hb⟩
end Go.Tm
namespace Go.Tm
open Go.RowKit Go.Proofs
section
variable {P : Program} {n : Fr} {k : K} {w : World} {d : Option Tmp} {ty : TypeId} {pos : String} {aft : Array Edge} {g : Option (Nat × Bool)} {t t' : TypeId} {x y : Operand}
theorem Rn.neqF {q : IntKind} {a b : Int} (hx : ev k x = some (.int q a)) (hy : ev k y = some (.int q b)) (h : a = b) : Rn P n k w { dst := d, op := .binOp .neq t x y t', type := ty, pos := pos, after := aft, guard := g } (.bool false) := by
  have := Rn.neq (P := P) (n := n) (w := w) (d := d) (ty := ty) (pos := pos) (aft := aft) (g := g) (t := t) (t' := t') hx hy
  rwa [decide_eq_false (by simpa using h)] at this
theorem Rn.eqlT {q : IntKind} {a b : Int} (hx : ev k x = some (.int q a)) (hy : ev k y = some (.int q b)) (h : a = b) : Rn P n k w { dst := d, op := .binOp .eql t x y t', type := ty, pos := pos, after := aft, guard := g } (.bool true) := by
  have := Rn.eql (P := P) (n := n) (w := w) (d := d) (ty := ty) (pos := pos) (aft := aft) (g := g) (t := t) (t' := t') hx hy
  rwa [decide_eq_true h] at this
theorem Rn.ceqlT {a b c e : Nat} (hx : ev k x = some (.complex .f64 a b)) (hy : ev k y = some (.complex .f64 c e)) (h : ceq (a, b) (c, e) = true) : Rn P n k w { dst := d, op := .binOp .eql t x y t', type := ty, pos := pos, after := aft, guard := g } (.bool true) := by
  have := Rn.ceql (P := P) (n := n) (w := w) (d := d) (ty := ty) (pos := pos) (aft := aft) (g := g) (t := t) (t' := t') hx hy
  rwa [h] at this
theorem Rn.cneqF {a b c e : Nat} (hx : ev k x = some (.complex .f64 a b)) (hy : ev k y = some (.complex .f64 c e)) (h : ceq (a, b) (c, e) = true) : Rn P n k w { dst := d, op := .binOp .neq t x y t', type := ty, pos := pos, after := aft, guard := g } (.bool false) := by
  have := Rn.cneq (P := P) (n := n) (w := w) (d := d) (ty := ty) (pos := pos) (aft := aft) (g := g) (t := t) (t' := t') hx hy
  rwa [h] at this
theorem Rn.fneqF {a b : Nat} (hx : ev k x = some (.float .f64 a)) (hy : ev k y = some (.float .f64 b)) (h : (Ieee.double.order a b == some .eq) = true) : Rn P n k w { dst := d, op := .binOp .neq t x y t', type := ty, pos := pos, after := aft, guard := g } (.bool false) := by
  have := Rn.fneq (P := P) (n := n) (w := w) (d := d) (ty := ty) (pos := pos) (aft := aft) (g := g) (t := t) (t' := t') hx hy
  rw [show (Ieee.double.order a b != some .eq) = !(Ieee.double.order a b == some .eq) from rfl, h] at this
  exact this
end
/-- What is made of 1, 2, 3, 4. -/
abbrev L4 : List CB := [(4607182418800017408, 0), (4611686018427387904, 0), (4613937818241073152, 0), (4616189618054758400, 0)]
theorem alive_wh {b : Bld} (h : Leaf 4 b) {zs : List CB} (hz : zs.map cx = fwdC b (L4.map cx)) :
    ceq (zs.getD 0 (0, 0)) (4621819117588971520, 0) = true ∧ ceq (zs.getD 1 (0, 0)) (13835058055282163712, 4611686018427387904) = true ∧ ceq (zs.getD 2 (0, 0)) (13835058055282163712, 0) = true ∧ ceq (zs.getD 3 (0, 0)) (13835058055282163712, 13835058055282163712) = true := by
  have hi : WhL (L4.map cx) 4 (fun j => if j < 4 then (j : Int) + 1 else 0) (fun _ => 0) := by
    refine ⟨rfl, fun k hk => ?_⟩
    match k, hk with
    | 0, _ => exact ⟨⟨false, by kernel_rfl, by decide⟩, ⟨false, by kernel_rfl, by decide⟩⟩
    | 1, _ => exact ⟨⟨false, by kernel_rfl, by decide⟩, ⟨false, by kernel_rfl, by decide⟩⟩
    | 2, _ => exact ⟨⟨false, by kernel_rfl, by decide⟩, ⟨false, by kernel_rfl, by decide⟩⟩
    | 3, _ => exact ⟨⟨false, by kernel_rfl, by decide⟩, ⟨false, by kernel_rfl, by decide⟩⟩
  have ho := fwd_leaf h hi (fun j => by unfold B44; split <;> omega)
  rw [← hz] at ho
  have hc := fun k hk => ho.2 k hk
  simp only [map_getD] at hc
  exact ⟨ceq_true (hc 0 (by decide)) (y := (4621819117588971520, 0)) ⟨⟨false, by kernel_rfl, by decide⟩, ⟨false, by kernel_rfl, by decide⟩⟩ (by unfold Sm; decide) (by unfold Sm; decide),
    ceq_true (hc 1 (by decide)) (y := (13835058055282163712, 4611686018427387904)) ⟨⟨true, by kernel_rfl, by decide⟩, ⟨false, by kernel_rfl, by decide⟩⟩ (by unfold Sm; decide) (by unfold Sm; decide),
    ceq_true (hc 2 (by decide)) (y := (13835058055282163712, 0)) ⟨⟨true, by kernel_rfl, by decide⟩, ⟨false, by kernel_rfl, by decide⟩⟩ (by unfold Sm; decide) (by unfold Sm; decide),
    ceq_true (hc 3 (by decide)) (y := (13835058055282163712, 13835058055282163712)) ⟨⟨true, by kernel_rfl, by decide⟩, ⟨true, by kernel_rfl, by decide⟩⟩ (by unfold Sm; decide) (by unfold Sm; decide)⟩
abbrev IV (i : Int) : Value := .int .i64 i
/-- A row of whole numbers that the call owns. -/
abbrev IR (e : TypeId) (w : World) (r : Nat) (A : Option Addr) (l c : Nat) (xs : List Int) : Prop := Ow w r e 1 A l c (xs.map IV)
def rowI (n : Nat) (f : Nat → Int) (j : Nat) : List Int := (List.range j).map f ++ List.replicate (n - j) 0
theorem rowI_set {n j : Nat} {f : Nat → Int} (h : j < n) : (rowI n f j).set j (f j) = rowI n f (j + 1) := by
  unfold rowI
  obtain ⟨m, hm⟩ : ∃ m, n - j = m + 1 := ⟨n - j - 1, by omega⟩
  rw [hm, show n - (j + 1) = m by omega, List.set_append_right _ _ (by simp), List.range_succ, List.map_append]
  simp [List.replicate_succ]
theorem rowI_get {n i j : Nat} {f : Nat → Int} (h : i < j) : (rowI n f j).getD i 0 = f i := by
  simp only [rowI, List.getD]
  rw [List.getElem?_append_left (by simpa using h)]
  simp [h]
theorem rowF_get {n i j : Nat} {f : Nat → CB} (h : i < j) : (rowF n f j).getD i (0, 0) = f i := by
  simp only [rowF, List.getD]
  rw [List.getElem?_append_left (by simpa using h)]
  simp [h]
section
variable {P : Program} {n : Fr} {k : K} {w : World} {d : Option Tmp} {ty : TypeId} {pos : String} {aft : Array Edge} {g : Option (Nat × Bool)}
theorem Wk.mkI {t e : TypeId} {by' : Nat} {x y : Operand} {ql qc : IntKind} {l : Int} (ht : P.underlying t = some (.slice e)) (hi : Inf P e (.int .i64 0) 1 by') (hx : ev k x = some (.int ql l)) (hy : ev k y = some (.int qc l)) (h0 : 0 ≤ l) (hb : (by' : Int) * l ≤ 281474976710656) (hm : l ≤ 281474976710656) (f : Nat → Int) :
    Wk P n k w { dst := d, op := .makeSlice t x y, type := ty, pos := pos, after := aft, guard := g }
      (fun v w' => ∃ p, v = .slice (some ⟨p, 0, none⟩) l.toNat l.toNat ∧ IR e w' (p + 1) (some ⟨p, 0, none⟩) l.toNat l.toNat (rowI l.toNat f 0) ∧ Ch No w w' ∧ p = w.heap.size ∧ w'.heap.size = w.heap.size + 1) :=
  (Wk.make ht hi hx hy h0 (Int.le_refl _) hb (by omega)).mono fun v w' ⟨p, hv, N⟩ => by
    rw [Nat.mul_one] at N
    have e1 : (Value.int .i64 0).cells = #[.int .i64 0] := rfl
    rw [e1, made_one] at N
    refine ⟨p, hv, ?_, N.ch, N.p, N.size⟩
    have : (rowI l.toNat f 0).map IV = List.replicate l.toNat (.int .i64 0) := by simp [rowI]
    show Ow _ _ _ _ _ _ _ (List.map IV _)
    rw [this]
    exact Ow.of_new N (by simp) (by simp only [maxLen]; omega)
theorem Wk.putI {t e : TypeId} {r l c j : Nat} {A : Option Addr} {m : Nat} {f : Nat → Int} {x y : Operand} {i v : Int} (hz : ∀ w, (sizeOf t).run P w = .ok 1 w) (hx : ev k x = some (.pointer (some ((sAddr A).add (i.toNat * 1))))) (hy : ev k y = some (.int .i64 v)) (hown : IR e w r A l c (rowI m f j)) (hi : i = j) (hv : v = f j) (hj : j < m) (hm : j < l) :
    Wk P n k w { dst := none, op := .store t x y, type := ty, pos := pos, after := aft, guard := g } (fun _ w' => IR e w' r A l c (rowI m f (j + 1)) ∧ Ch (At r) w w' ∧ w'.heap.size = w.heap.size) := by
  subst hi; subst hv
  exact (Wk.putOw hz hx hy rfl (by omega) hown).mono fun _ w' ⟨h1, h2, h3⟩ => ⟨by show Ow _ _ _ _ _ _ _ (List.map IV _); rw [← rowI_set hj, List.map_set]; exact h1, h2, h3⟩
end
theorem SlR.getI {S : Nat → Prop} {w : World} {A : Option Addr} {l : Nat} {xs : List Int} (h : SlR S w A l 1 (xs.map IV)) {i : Int} (h0 : 0 ≤ i) (h1 : i < l) : w.cell? ((sAddr A).add (i.toNat * 1)) = some (.int .i64 (xs.getD i.toNat 0)) := SlR.get (f := IV) h 0 h0 h1
theorem tm_bd (x : Int) : -1099511627776 ≤ x.tmod 1099511627777 ∧ x.tmod 1099511627777 ≤ 1099511627776 := by
  rcases Int.le_total 0 x with h | h
  · rw [Int.tmod_eq_emod_of_nonneg h]; omega
  · have e : x.tmod 1099511627777 = -((-x).tmod 1099511627777) := by rw [Int.neg_tmod, Int.neg_neg]
    rw [e, Int.tmod_eq_emod_of_nonneg (by omega)]; omega
theorem tm2 (x : Int) : x.tmod 2 = -1 ∨ x.tmod 2 = 0 ∨ x.tmod 2 = 1 := by
  rcases Int.le_total 0 x with h | h
  · rw [Int.tmod_eq_emod_of_nonneg h]; omega
  · have e : x.tmod 2 = -((-x).tmod 2) := by rw [Int.neg_tmod, Int.neg_neg]
    rw [e, Int.tmod_eq_emod_of_nonneg (by omega)]; omega
set_option maxRecDepth 100000 in
theorem infI64 : Inf Tryz.prog 2 (.int .i64 0) 1 8 := ⟨Tryz.t2, Tryz.type2, rfl, rfl, rfl⟩
/-- The plan of a leaf, in either way. -/
theorem plan_OfB (kd : Int) (n : Nat) (hn : n = 1 ∨ n = 2 ∨ n = 4) (hk : kd = 1 ∨ (kd = 2 ∧ 1 < n)) (wy : Int) (hw : wy = 0 ∨ wy = 1) (w : World) (st : StT w) (tab : TabB w.heap.size w) (hG : 11 ≤ w.heap.size) :
    Calls Tryz.prog 8 #[.agg #[.int .i64 kd, .int .i64 n, .slice none 0 0], .int .i64 wy] w (Ret fun v w' => ∃ p P, v = .tuple #[.pointer (some ⟨p, 0, none⟩), .nilIface] ∧ PlnR w.heap.size w'.heap.size w' p P ∧ Leaf n P.b ∧ Ch No w w') := by
  obtain ⟨hL, hl⟩ := leaf_of hn hk
  have hl0 : (Ord.mk kd n []).len ≠ 0 := by rw [hl]; omega
  rcases hw with rfl | rfl
  · refine (plan_Of (.mk kd n []) none 0 0 0 w (RdK.nil _ _) (Nat.zero_le _) hl0 hL.ok.nf st tab hG).mono ?_
    rintro e w' ⟨v, rfl, p, rfl, h1, h2⟩
    exact ⟨_, rfl, p, _, rfl, h1, hL, h2⟩
  · refine (plan_OfW (.mk kd n []) none 0 0 0 w (RdK.nil _ _) (Nat.zero_le _) (by rcases hk with h | h; exact .inl h; exact .inr h.1) hl0 hL.ok.nf st tab hG).mono ?_
    rintro e w' ⟨v, rfl, p, rfl, h1, h2⟩
    exact ⟨_, rfl, p, _, rfl, h1, hL, h2⟩

set_option maxRecDepth 100000 in
theorem inf34w47 : Inf Tryz.prog 34 (.complex .f64 0 0) 1 16 := ⟨Tryz.t34, Tryz.type34, rfl, rfl, rfl⟩
set_option maxHeartbeats 1000000 in
set_option maxRecDepth 100000 in
theorem law_alive (w : World) (st : StT w) (tab : TabB w.heap.size w) (hG : 11 ≤ w.heap.size) :
    Calls Tryz.prog 5 #[] w (Ret (fun v w' => v = .bool true ∧ Ch No w w')) := by
  refine calls_of_VC (args := []) Tryz.func5 rfl Tryz.ntmps5 rfl (VC.seq (VC.region (VO.mv (Rn.assign rfl) rfl rfl rfl (VO.nil (VQ.then_code (VC.seq (VC.region ?_)))))))
  refine VO.wk (Wk.call Tryz.call6 rfl (plan_New 4 (by decide) (by decide) (hasP24 4 (by decide) (by decide)) _ st ((tab).up (by omega)) (by omega))) rfl rfl rfl ?_
  rintro _ w1 ⟨p1, rr1, rfl, hr1, pl1, c1⟩
  have z1 := c1.size
  have h4 := best4 hr1
  rw [h4] at pl1
  have hL : Leaf 4 (plnM (.mk 2 ((4 : Nat) : Int) [])).b := (leaf_of (.inr (.inr rfl)) (.inr ⟨rfl, by decide⟩)).1
  have hln := hL.ln
  refine VO.mv (Rn.move rfl) rfl rfl rfl (VO.mv (Rn.extract rfl rfl) rfl rfl rfl (VO.mv (Rn.extract rfl rfl) rfl rfl rfl (VO.mv (Rn.assign rfl) rfl rfl rfl (VO.mv (Rn.assign rfl) rfl rfl rfl (VO.nil (VQ.then_code (VC.seq ?_)))))))
  refine VC.seq (VC.region (VO.mv (Rn.move rfl) rfl rfl rfl (VO.mv (Rn.nil_neq_nil Tryz.underlying25 rfl) rfl rfl rfl (VO.mv (Rn.move rfl) rfl rfl rfl (VO.mv (Rn.move rfl) rfl rfl rfl (VO.mv (Rn.ptr_eql_nil Tryz.underlying23 rfl) rfl rfl rfl (VO.mv (Rn.pick_false rfl rfl) rfl rfl rfl ?_)))))))
  refine VO.mv (Rn.move rfl) rfl rfl rfl (VO.mv (Rn.move rfl) rfl rfl rfl (VO.wk (Wk.call Tryz.call7 rfl (p_Length _ _ _ _ _ pl1 (by omega))) rfl rfl rfl ?_))
  rintro _ _ ⟨rfl, rfl⟩
  refine VO.mv (Rn.neqF rfl rfl hln) rfl rfl rfl (VO.mv (Rn.pick_false rfl rfl) rfl rfl rfl (VO.nil (VQ.then_code (VC.cond_false rfl (VC.skip (VQ.then_code (VC.seq ?_)))))))
  refine VC.region (VO.mv (Rn.move rfl) rfl rfl rfl (VO.wk (Wk.lit Tryz.underlying33 inf34w47 (by decide) rfl rfl (by rfl) (by decide) (by decide) (by rfl)) rfl rfl rfl ?_))
  rintro _ w2 ⟨p2, rfl, N2⟩
  have c2 := N2.ch
  have e2 := N2.p; have z2 := N2.size
  have l21 := SlR.of_new (sz := 1) (l := 4) N2 rfl
  have l21o := Ow.of_new (sz := 1) (l := 4) N2 rfl (by decide)
  have pl_2 := pl1.keep c2
  have st_2 := st.keep (c1.trans c2)
  refine VO.wk (Wk.call Tryz.call9 rfl (p_Forward _ _ _ _ _ _ 4 _ L4 _ l21 (fun q hq => by omega) pl_2 (by omega) _ hL.ok.ok hL.ok.okb hL.ok.ne (by rw [hL.ln]) st_2 (by omega) hL.ok.ac)) rfl rfl rfl ?_
  rintro _ w3 ⟨r3, A3, k3, zs3, rfl, out3, hz3, yo3, c3⟩
  have z3 := c3.size
  have e4 : (plnM (.mk 2 ((4 : Nat) : Int) [])).b.ln.toNat = 4 := by rw [hln]; rfl
  obtain ⟨hce0, hce1, hce2, hce3⟩ := alive_wh hL hz3
  refine VO.mv (Rn.move rfl) rfl rfl rfl (VO.mv (Rn.extract rfl rfl) rfl rfl rfl (VO.mv (Rn.extract rfl rfl) rfl rfl rfl (VO.mv (Rn.assign rfl) rfl rfl rfl (VO.mv (Rn.assign rfl) rfl rfl rfl (VO.nil (VQ.then_code (VC.seq ?_)))))))
  refine VC.region (VO.mv (Rn.move rfl) rfl rfl rfl (VO.mv (Rn.nil_eql_nil Tryz.underlying25 rfl) rfl rfl rfl (VO.mv (Rn.move rfl) rfl rfl rfl (VO.mv (Rn.move rfl) rfl rfl rfl (VO.mv (Rn.len Tryz.underlying33 rfl) rfl rfl rfl ?_)))))
  refine VO.mv (Rn.eqlT rfl rfl (by rw [e4]; rfl)) rfl rfl rfl ?_
  refine VO.mv (Rn.pick_true rfl rfl) rfl rfl rfl (VO.mv (Rn.move rfl) rfl rfl rfl (VO.mv (Rn.move rfl) rfl rfl rfl (VO.mv (Rn.indexS Tryz.underlying33 Tryz.sizeOf34 rfl rfl (out3.sl.ne (by omega)) (by omega) (by omega)) rfl rfl rfl (VO.mv (Rn.load Tryz.isAgg34 rfl (out3.sl.getC (by omega) (by omega))) rfl rfl rfl (VO.mv (Rn.ceqlT rfl rfl hce0) rfl rfl rfl (VO.mv (Rn.pick_true rfl rfl) rfl rfl rfl (VO.mv (Rn.move rfl) rfl rfl rfl ?_)))))))
  refine VO.mv (Rn.move rfl) rfl rfl rfl (VO.mv (Rn.indexS Tryz.underlying33 Tryz.sizeOf34 rfl rfl (out3.sl.ne (by omega)) (by omega) (by omega)) rfl rfl rfl (VO.mv (Rn.load Tryz.isAgg34 rfl (out3.sl.getC (by omega) (by omega))) rfl rfl rfl (VO.mv (Rn.ceqlT rfl rfl hce1) rfl rfl rfl (VO.mv (Rn.pick_true rfl rfl) rfl rfl rfl (VO.mv (Rn.move rfl) rfl rfl rfl (VO.mv (Rn.move rfl) rfl rfl rfl (VO.mv (Rn.indexS Tryz.underlying33 Tryz.sizeOf34 rfl rfl (out3.sl.ne (by omega)) (by omega) (by omega)) rfl rfl rfl ?_)))))))
  refine VO.mv (Rn.load Tryz.isAgg34 rfl (out3.sl.getC (by omega) (by omega))) rfl rfl rfl (VO.mv (Rn.ceqlT rfl rfl hce2) rfl rfl rfl (VO.mv (Rn.pick_true rfl rfl) rfl rfl rfl (VO.mv (Rn.move rfl) rfl rfl rfl (VO.mv (Rn.move rfl) rfl rfl rfl (VO.mv (Rn.indexS Tryz.underlying33 Tryz.sizeOf34 rfl rfl (out3.sl.ne (by omega)) (by omega) (by omega)) rfl rfl rfl (VO.mv (Rn.load Tryz.isAgg34 rfl (out3.sl.getC (by omega) (by omega))) rfl rfl rfl (VO.mv (Rn.ceqlT rfl rfl hce3) rfl rfl rfl ?_)))))))
  refine VO.mv (Rn.pick_true rfl rfl) rfl rfl rfl (VO.mv (Rn.assign rfl) rfl rfl rfl (VO.nil (VQ.then_code (VC.ret (VQ.ret1 rfl rfl (Ret.mk ?_))))))
  have CH_3 := (Ch.refl (No) w).and (c1.trans (c2.trans c3))
  exact ⟨rfl, CH_3⟩

set_option maxRecDepth 100000 in
theorem law_equal (SA SB : Nat → Prop) (A B : Option Addr) (la lb ca cb : Nat) (xs ys : List CB) (w : World) (sa : SlR SA w A la 1 (xs.map cxV)) (sb : SlR SB w B lb 1 (ys.map cxV)) (hl : la = lb) (hl2 : la ≤ 1000000) (he : ∀ j, j < la → ceq (xs.getD j (0, 0)) (ys.getD j (0, 0)) = true) :
    Calls Tryz.prog 11 #[.slice A la ca, .slice B lb cb] w (Ret (fun v w' => v = .bool true ∧ Ch No w w')) := by
  refine calls_of_VC (args := [.slice A la ca, .slice B lb cb]) Tryz.func11 rfl Tryz.ntmps11 rfl (VC.seq (VC.region (VO.mv (Rn.assign rfl) rfl rfl rfl (VO.nil (VQ.then_code (VC.seq (VC.seq ?_)))))))
  refine VC.region (VO.mv (Rn.move rfl) rfl rfl rfl (VO.mv (Rn.len Tryz.underlying33 rfl) rfl rfl rfl (VO.mv (Rn.move rfl) rfl rfl rfl (VO.mv (Rn.len Tryz.underlying33 rfl) rfl rfl rfl (VO.mv (Rn.neq rfl rfl) rfl rfl rfl (VO.nil (VQ.then_code ?_)))))))
  refine VC.cond_if rfl (fun hc1 => ?_) (fun hc1 => ?_)
  · skip
    omega
  · skip
    refine VC.skip (VQ.then_code (VC.seq (VC.seq (VC.region (VO.mv (Rn.move rfl) rfl rfl rfl (VO.mv (Rn.len Tryz.underlying33 rfl) rfl rfl rfl (VO.mv (Rn.move rfl) rfl rfl rfl ?_)))))))
    refine VO.nil (VQ.then_code (VC.block (VC.loopS (σ := Nat) (fun j => [(0, .slice A la ca), (1, .slice B lb cb), (11, .slice A la ca), (12, .int .i64 la), (13, .int .i64 j)]) (fun j w' => j ≤ la ∧ w.heap.size ≤ w'.heap.size ∧ SlR SA w' A la 1 (xs.map cxV) ∧ SlR SB w' B lb 1 (ys.map cxV) ∧ Ch (No) w w') (fun j => la - j) 0 ?_ ⟨rfl, rfl, rfl, rfl, rfl, trivial⟩ ?_)))
    · exact ⟨(by omega), (Nat.le_refl _), sa, sb, (Ch.refl (No) w)⟩
    rintro j w1 ⟨hj, hsz1, sa_1, sb_1, CH_1⟩
    show VC _ _ _ _ [(0, .slice A la ca), (1, .slice B lb cb), (11, .slice A la ca), (12, .int .i64 la), (13, .int .i64 j)] _
    refine VC.seq (VC.region (VO.mv (Rn.lss rfl rfl) rfl rfl rfl (VO.nil (VQ.then_code (VC.seq (VC.cond_if rfl (fun hc2 => ?_) (fun hc2 => ?_)))))))
    · skip
      refine VC.skip (VQ.then_code (VC.seq (VC.block (VC.seq (VC.region (VO.mv (Rn.move rfl) rfl rfl rfl (VO.mv (Rn.assign rfl) rfl rfl rfl ?_)))))))
      refine VO.nil (VQ.then_code (VC.seq (VC.draws 9 [(0, true), (1, true), (2, true), (3, true), (4, true), (5, true), (6, true), (7, true), (8, true)] (fun w1 w' => Ch (No) w1 w') mixed (by kernel_rfl) (fun _ _ => Ch.refl _ _) ?_)))
      intro w2 D2
      have c2 := Ch.of_drew D2; have z2 := c2.size
      have sa_2 := sa_1.keep c2
      have sb_2 := sb_1.keep c2
      refine VH.mv (fun w' hS => Rn.move rfl) rfl rfl rfl rfl (VH.mv (fun w' hS => Rn.move rfl) rfl rfl rfl rfl (VH.mv (fun w' hS => Rn.indexS Tryz.underlying33 Tryz.sizeOf34 rfl rfl ((sa_2.keep hS).ne (by omega)) (by omega) (by omega)) rfl rfl rfl rfl (VH.mv (fun w' hS => Rn.load Tryz.isAgg34 rfl ((sa_2.keep hS).getC (by omega) (by omega))) rfl rfl rfl rfl (VH.mv (fun w' hS => Rn.move rfl) rfl rfl rfl rfl (VH.mv (fun w' hS => Rn.move rfl) rfl rfl rfl rfl (VH.mv (fun w' hS => Rn.indexS Tryz.underlying33 Tryz.sizeOf34 rfl rfl ((sb_2.keep hS).ne (by omega)) (by omega) (by omega)) rfl rfl rfl rfl (VH.mv (fun w' hS => Rn.load Tryz.isAgg34 rfl ((sb_2.keep hS).getC (by omega) (by omega))) rfl rfl rfl rfl ?_)))))))
      refine VH.mv (fun w' hS => Rn.cneqF rfl rfl (he j (by omega))) rfl rfl rfl rfl (VH.done (VO.nil (VQ.noPanic (VQ.then_code (VC.cond_false rfl (VC.skip (VQ.block_normal ?_)))))))
      refine VQ.then_code (VC.region ?_)
      refine VO.mv (Rn.add rfl rfl (by rw [IntKind.wrap_i64]; omega)) rfl rfl rfl ?_
      refine VO.mv (Rn.move rfl) rfl rfl rfl (VO.nil ?_)
      refine VQ.round (j + 1) (by first | omega | (dsimp only; omega)) ?_ ⟨rfl, rfl, rfl, rfl, rfl, trivial⟩
      have CH_2 := CH_1.and c2
      exact ⟨(by omega), (by omega), sa_2, sb_2, CH_2⟩
    · skip
      refine VC.exit (VQ.then_exit (VQ.then_exit (VQ.block_exit (VQ.then_code (VC.seq (VC.region (VO.mv (Rn.assign rfl) rfl rfl rfl ?_)))))))
      refine VO.nil (VQ.then_code (VC.ret (VQ.ret1 rfl rfl (Ret.mk ?_))))
      exact ⟨rfl, CH_1⟩

end Go.Tm
namespace Go.Tm
/-- What a part of compiling may add: steps, acts, cells. -/
structure Grow (b r : Bld) (s a c : Int) : Prop where
  st : (r.steps.length : Int) ≤ b.steps.length + s
  ac : r.acts ≤ b.acts + a
  cl : r.cl ≤ b.cl ∨ r.cl ≤ b.fr + c
  fr : r.fr = b.fr
theorem Grow.refl (b : Bld) : Grow b b 0 0 0 := ⟨by omega, by omega, .inl (Int.le_refl _), rfl⟩
theorem Grow.mono {b r : Bld} {s a c s' a' c' : Int} (h : Grow b r s a c) (h1 : s ≤ s') (h2 : a ≤ a') (h3 : c ≤ c') : Grow b r s' a' c' := by
  obtain ⟨e1, e2, e3, e4⟩ := h
  exact ⟨by omega, by omega, by omega, e4⟩
theorem Grow.then {b r t : Bld} {s a c s' a' : Int} (h : Grow b r s a c) (g : Grow r t s' a' c) : Grow b t (s + s') (a + a') c := by
  obtain ⟨e1, e2, e3, e4⟩ := h
  obtain ⟨f1, f2, f3, f4⟩ := g
  rw [e4] at f3 f4
  exact ⟨by omega, by omega, by omega, f4⟩
theorem actsM_le {s : Stp} {k : Int} (h0 : 0 ≤ k) (h : s.count ≤ k) : actsM s ≤ k := by unfold actsM; split <;> omega
theorem Grow.add (b : Bld) (x : Stp) {k : Int} (h0 : 0 ≤ k) (h : x.count ≤ k) : Grow b (b.add x) 1 k 0 := by
  have := actsM_le h0 h
  by_cases hf : b.full = true
  · rw [add_full hf]; exact (Grow.refl b).mono (by omega) h0 (Int.le_refl _)
  · rw [add_not (by simpa using hf)]
    exact ⟨by simp, by simp only; omega, .inl (Int.le_refl _), rfl⟩
theorem Grow.and {b r : Bld} {s a c : Int} (h : Grow b r s a c) (x : Stp) {k : Int} (hc : 0 ≤ c) (h0 : 0 ≤ k) (hk : x.count ≤ k) : Grow b (r.add x) (s + 1) (a + k) c := h.then ((Grow.add r x h0 hk).mono (Int.le_refl _) (Int.le_refl _) hc)
def DG (R : Inst → Bld → Bld) (s a c : Int) : Prop := ∀ x b, Grow b (R x b) s a c
theorem foldl_grow {F : Bld → Nat → Bld} {s a c : Int} (hc : 0 ≤ c) (hF : ∀ b j, Grow b (F b j) s a c) : ∀ (l : List Nat) (b : Bld), Grow b (l.foldl F b) (l.length * s) (l.length * a) c
  | [], b => (Grow.refl b).mono (by simp) (by simp) hc
  | j :: t, b => by
    have h1 := (hF b j).then (foldl_grow hc hF t (F b j))
    have e1 : ((j :: t).length : Int) * s = s + t.length * s := by rw [List.length_cons]; push_cast; rw [Int.add_mul, Int.one_mul, Int.add_comm]
    have e2 : ((j :: t).length : Int) * a = a + t.length * a := by rw [List.length_cons]; push_cast; rw [Int.add_mul, Int.one_mul, Int.add_comm]
    rw [e1, e2]
    exact h1
theorem Grow.fr0 {b r : Bld} {s a c : Int} (h : Grow b r s a c) : Grow b { r with fr := b.fr } s a c := ⟨h.st, h.ac, h.cl, rfl⟩
theorem deep_full_or {o : Ord} {s a c : Int} (hs : 0 ≤ s) (ha : 0 ≤ a) (hc : 0 ≤ c) (h : ∀ x b, b.full = false → Grow b (deepM o x b) s a c) : DG (deepM o) s a c := by
  intro x b
  by_cases hf : b.full = true
  · rw [deepM_full hf]; exact (Grow.refl b).mono hs ha hc
  · exact h x b (by simpa using hf)
theorem dg_direct {n : Int} (h : 0 ≤ n) : DG (deepM (.mk 1 n [])) 1 n 0 :=
  deep_full_or (by omega) h (by omega) fun x b hf => by
    rw [deepM_direct hf rfl]
    exact (Grow.add b (directS x n) h (Int.le_refl _)).fr0
theorem dg_fly {n : Int} (h : 0 ≤ n) : DG (deepM (.mk 2 n [])) 2 (n + 1) 0 :=
  deep_full_or (by omega) (by omega) (by omega) fun x b hf => by
    rw [deepM_fly hf rfl]
    exact ((Grow.add b (gatherS x.dst x.src x.jump n) h (Int.le_refl _)).and (flyS x.dst 1 1 n) (Int.le_refl _) (show (0 : Int) ≤ 1 by omega) (Int.le_refl _)).fr0
theorem timesJ_grow {R : Inst → Bld → Bld} {s a c : Int} (h : DG R s a c) (hc : 0 ≤ c) (x : Inst) (la lb t : Int) (hb : 0 ≤ lb) (b : Bld) (j : Nat) : Grow b (timesJ R x la lb t b j) (s + 1) (a + lb) c := by
  unfold timesJ
  simp only
  have h1 := h ⟨x.src + j * x.jump, x.jump * la, t + j * lb⟩ b
  split
  · exact h1.and _ hc hb (Int.le_refl _)
  · exact h1.mono (by omega) (by omega) (Int.le_refl _)
theorem timesK_grow {R : Inst → Bld → Bld} {s a c : Int} (h : DG R s a c) (hc : 0 ≤ c) (x : Inst) (la lb t z : Int) (ha : 0 ≤ la) (b : Bld) (k : Nat) : Grow b (timesK R x la lb t z b k) (s + 1) (a + la) c := by
  unfold timesK
  exact (h ⟨t + k, lb, z⟩ b).and _ hc ha (Int.le_refl _)
theorem region_facts (b : Bld) (n : Int) : (b.region n).steps = b.steps ∧ (b.region n).acts = b.acts ∧ (b.region n).fr = b.fr + n ∧ ((b.region n).cl ≤ b.cl ∨ (b.region n).cl ≤ b.fr + n) := by
  refine ⟨rfl, rfl, rfl, ?_⟩
  simp only [Bld.region]
  split <;> omega
/-- A product whose first part is a fly. -/
theorem dg_timesF {a b : Ord} {s ac c : Int} (hk : a.kind = 2) (hb : DG (deepM b) s ac c) (hc : 0 ≤ c) (hs : 0 ≤ s) (hac : 0 ≤ ac) :
    DG (deepM (.mk 3 0 [a, b])) (a.len * (s + 1) + 1) (a.len * (ac + b.len) + b.len) c := by
  have la := (len_bd a).1
  have lb := (len_bd b).1
  have n1 := Int.mul_nonneg la (show 0 ≤ s + 1 by omega)
  have n2 := Int.mul_nonneg la (show 0 ≤ ac + b.len by omega)
  refine deep_full_or (by omega) (by omega) hc fun x w hf => ?_
  rw [deepM_times hf rfl rfl]
  unfold timesM
  rw [if_pos (by simp [hk])]
  have h1 := foldl_grow hc (fun d j => timesJ_grow hb hc x a.len b.len x.dst lb d j) (List.range a.len.toNat) w
  rw [List.length_range, show ((a.len.toNat : Nat) : Int) = a.len by omega] at h1
  exact (h1.and (flyS x.dst b.len b.len a.len) hc lb (Int.le_refl _)).fr0
/-- A product whose first part is none. -/
theorem dg_timesD {a b : Ord} {s ac c s' ac' c' : Int} (hk : a.kind ≠ 2) (ha : DG (deepM a) s' ac' c') (hb : DG (deepM b) s ac c) (hc : 0 ≤ c) (hc' : c' ≤ c) (hs : 0 ≤ s) (hac : 0 ≤ ac) (hs' : 0 ≤ s') (hac' : 0 ≤ ac') :
    DG (deepM (.mk 3 0 [a, b])) (a.len * (s + 1) + b.len * (s' + 1)) (a.len * (ac + b.len) + b.len * (ac' + a.len)) (a.len * b.len + a.len + c) := by
  have la := (len_bd a).1
  have lb := (len_bd b).1
  have n1 := Int.mul_nonneg la (show 0 ≤ s + 1 by omega)
  have n2 := Int.mul_nonneg la (show 0 ≤ ac + b.len by omega)
  have n3 := Int.mul_nonneg lb (show 0 ≤ s' + 1 by omega)
  have n4 := Int.mul_nonneg lb (show 0 ≤ ac' + a.len by omega)
  have n5 := Int.mul_nonneg la lb
  refine deep_full_or (by omega) (by omega) (by omega) fun x w hf => ?_
  rw [deepM_times hf rfl rfl]
  unfold timesM
  rw [if_neg (by simp [hk])]
  simp only
  have ha2 : DG (deepM a) s' ac' c := fun x b => (ha x b).mono (Int.le_refl _) (Int.le_refl _) hc'
  have h1 := foldl_grow hc (fun d j => timesJ_grow hb hc x a.len b.len w.fr lb d j) (List.range a.len.toNat) ((w.region (a.len * b.len)).region a.len)
  have h2 := h1.then (foldl_grow hc (fun d k => timesK_grow ha2 hc x a.len b.len w.fr (w.fr + a.len * b.len) la d k) (List.range b.len.toNat) _)
  rw [List.length_range, List.length_range, show ((a.len.toNat : Nat) : Int) = a.len by omega, show ((b.len.toNat : Nat) : Int) = b.len by omega] at h2
  obtain ⟨f1, f2, f3, f4⟩ := region_facts w (a.len * b.len)
  obtain ⟨g1, g2, g3, g4⟩ := region_facts (w.region (a.len * b.len)) a.len
  obtain ⟨e1, e2, e3, e4⟩ := h2
  rw [g1, f1] at e1
  rw [g2, f2] at e2
  exact ⟨e1, e2, by simp only; omega, rfl⟩
theorem Grow.adds {b r : Bld} {s a c k : Int} (h : Grow b r s a c) (hc : 0 ≤ c) (h0 : 0 ≤ k) : ∀ (l : List Stp), (∀ x ∈ l, x.count ≤ k) → Grow b (r.adds l) (s + l.length) (a + l.length * k) c := by
  intro l
  induction l generalizing r s a with
  | nil => intro _; exact h.mono (by simp) (by simp) (Int.le_refl _)
  | cons x t ih =>
    intro hl
    have := ih (h.and x hc h0 (hl x (List.mem_cons_self ..))) (fun y hy => hl y (List.mem_cons_of_mem _ hy))
    have e1 : s + ((x :: t).length : Int) = s + 1 + t.length := by rw [List.length_cons]; push_cast; omega
    have e2 : a + ((x :: t).length : Int) * k = a + k + t.length * k := by rw [List.length_cons]; push_cast; rw [Int.add_mul, Int.one_mul]; omega
    rw [e1, e2]
    exact this
/-- Bluestein's way. -/
theorem dg_blue {a : Ord} {n s ac c : Int} (ha : DG (deepM a) s ac c) (hn : 0 ≤ n) (hm : n ≤ a.len) (hc : 0 ≤ c) (hs : 0 ≤ s) (hac : 0 ≤ ac) :
    DG (deepM (.mk 4 n [a])) (3 * s + 10) (3 * ac + 10 * a.len) (4 * a.len + c) := by
  have la := (len_bd a).1
  refine deep_full_or (by omega) (by omega) (by omega) fun x w hf => ?_
  rw [deepM_blue hf rfl rfl]
  show Grow w { blueM (deepM a) n a.len x w with fr := w.fr } _ _ _
  unfold blueM
  simp only
  generalize hW : Blu.of n a.len w.fr = W
  have wn : W.n = n := by rw [← hW]; rfl
  have wm : W.m = a.len := by rw [← hW]; rfl
  have k1 := (Grow.refl ((((w.region a.len).region a.len).region a.len).region a.len)).mono (s' := 0) (a' := 0) (c' := c) (Int.le_refl _) (Int.le_refl _) hc
  have k2 := (k1.adds hc la (W.first x) (by
    intro y hy
    simp only [Blu.first, List.mem_cons, List.not_mem_nil, or_false] at hy
    rcases hy with rfl | rfl | rfl <;> simp only [gatherS, zeroS, chirpS] <;> omega)).then (ha ⟨W.u, 1, W.p⟩ _)
  have k3 := (k2.and W.fill hc la (by simp only [Blu.fill, fillS]; omega)).then (ha ⟨W.v, 1, W.q⟩ _)
  have k4 := (k3.adds hc la W.second (by
    intro y hy
    simp only [Blu.second, List.mem_cons, List.not_mem_nil, or_false] at hy
    rcases hy with rfl | rfl <;> simp only [tmsS, conjS] <;> omega)).then (ha ⟨W.p, 1, W.u⟩ _)
  have k5 := k4.adds hc la (W.last x) (by
    intro y hy
    simp only [Blu.last, List.mem_cons, List.not_mem_nil, or_false] at hy
    rcases hy with rfl | rfl | rfl | rfl <;> simp only [gatherS, overS, conjS, chirpS] <;> omega)
  obtain ⟨f1, f2, f3, f4⟩ := region_facts w a.len
  obtain ⟨g1, g2, g3, g4⟩ := region_facts (w.region a.len) a.len
  obtain ⟨h1, h2, h3, h4⟩ := region_facts ((w.region a.len).region a.len) a.len
  obtain ⟨i1, i2, i3, i4⟩ := region_facts (((w.region a.len).region a.len).region a.len) a.len
  obtain ⟨e1, e2, e3, e4⟩ := k5
  rw [i1, h1, g1, f1] at e1
  rw [i2, h2, g2, f2] at e2
  have l1 : (W.first x).length = 3 := rfl
  have l2 : W.second.length = 2 := rfl
  have l3 : (W.last x).length = 4 := rfl
  rw [l1, l2, l3] at e1 e2
  exact ⟨by simp only; omega, by simp only; omega, by simp only; omega, rfl⟩
end Go.Tm
namespace Go.Tm
/-- Bounds: steps, acts, cells, parts, depth. -/
structure V where
  s : Nat
  a : Nat
  c : Nat
  k : Nat
  d : Nat
def V.leB (x y : V) : Bool := decide (x.s ≤ y.s) && decide (x.a ≤ y.a) && decide (x.c ≤ y.c) && decide (x.k ≤ y.k) && decide (x.d ≤ y.d)
structure V.Le (x y : V) : Prop where
  s : x.s ≤ y.s
  a : x.a ≤ y.a
  c : x.c ≤ y.c
  k : x.k ≤ y.k
  d : x.d ≤ y.d
theorem V.le_of {x y : V} (h : x.leB y = true) : x.Le y := by
  simp only [V.leB, Bool.and_eq_true, decide_eq_true_eq] at h
  exact ⟨h.1.1.1.1, h.1.1.1.2, h.1.1.2, h.1.2, h.2⟩
def V.max (x y : V) : V := ⟨Nat.max x.s y.s, Nat.max x.a y.a, Nat.max x.c y.c, Nat.max x.k y.k, Nat.max x.d y.d⟩
theorem V.le_maxL (x y : V) : x.Le (x.max y) := ⟨Nat.le_max_left .., Nat.le_max_left .., Nat.le_max_left .., Nat.le_max_left .., Nat.le_max_left ..⟩
theorem V.le_maxR (x y : V) : y.Le (x.max y) := ⟨Nat.le_max_right .., Nat.le_max_right .., Nat.le_max_right .., Nat.le_max_right .., Nat.le_max_right ..⟩
theorem V.Le.refl (x : V) : x.Le x := ⟨Nat.le_refl _, Nat.le_refl _, Nat.le_refl _, Nat.le_refl _, Nat.le_refl _⟩
theorem V.Le.trans {x y z : V} (h : x.Le y) (g : y.Le z) : x.Le z := ⟨Nat.le_trans h.s g.s, Nat.le_trans h.a g.a, Nat.le_trans h.c g.c, Nat.le_trans h.k g.k, Nat.le_trans h.d g.d⟩
structure GoodV (n : Int) (o : Ord) (v : V) : Prop where
  g : DG (deepM o) v.s v.a v.c
  w : ∀ p d : Int, p + v.k ≤ 4096 → 1 ≤ d → d + v.d ≤ 17 → (wl o p d).2 = n ∧ (wl o p d).1 ≤ p + v.k
theorem GoodV.le {n : Int} {o : Ord} {v w : V} (h : GoodV n o v) (l : v.Le w) : GoodV n o w := by
  have l1 := l.s; have l2 := l.a; have l3 := l.c; have l4 := l.k; have l5 := l.d
  refine ⟨fun x b => (h.g x b).mono (by omega) (by omega) (by omega), fun p d h1 h2 h3 => ?_⟩
  have := h.w p d (by omega) h2 (by omega)
  exact ⟨this.1, by omega⟩
theorem GoodV.len {n : Int} {o : Ord} {v : V} (h : GoodV n o v) (hk : v.k ≤ 4096) (hd : v.d ≤ 16) : o.len = n := (h.w 0 1 (by omega) (by omega) (by omega)).1
def vD (n : Nat) : V := ⟨1, n, 0, 1, 1⟩
def vF (n : Nat) : V := ⟨2, n + 1, 0, 1, 1⟩
def tD (a b : Nat) (w : V) : V := ⟨a * (w.s + 1) + b * 2, a * (w.a + b) + b * (2 * a), a * b + a + w.c, w.k + 2, w.d + 1⟩
def tF (a b : Nat) (w : V) : V := ⟨a * (w.s + 1) + 1, a * (w.a + b) + b, w.c, w.k + 2, w.d + 1⟩
def vB (m : Nat) (w : V) : V := ⟨3 * w.s + 10, 3 * w.a + 10 * m, 4 * m + w.c, w.k + 1, w.d + 1⟩
theorem good_D {n : Nat} (h1 : 1 ≤ n) (h2 : n ≤ 64) : GoodV n (.mk 1 n []) (vD n) :=
  ⟨by simpa [vD] using dg_direct (n := n) (by omega), fun p d hp h3 h4 => by
    simp only [vD] at hp h4
    rw [wl_leaf (by omega) rfl, if_pos ⟨rfl, by simp only [Ord.n]; omega, by simp only [Ord.n]; omega⟩]
    exact ⟨rfl, by simp [vD]⟩⟩
theorem good_F {n : Nat} (h1 : 2 ≤ n) (h2 : n ≤ 5) : GoodV n (.mk 2 n []) (vF n) :=
  ⟨by simpa [vF] using dg_fly (n := n) (by omega), fun p d hp h3 h4 => by
    simp only [vF] at hp h4
    rw [wl_leaf (by omega) rfl, if_neg (by simp [Ord.kind]), if_pos ⟨rfl, by simp only [Ord.n]; omega, by simp only [Ord.n]; omega⟩]
    exact ⟨rfl, by simp [vF]⟩⟩
theorem wl_times {a b : Nat} {h o : Ord} {x w : V} (gh : GoodV a h x) (go : GoodV b o w) (hx : x.k = 1 ∧ x.d = 1) (ha : 2 ≤ a) (hb : 2 ≤ b) (hab : a * b ≤ 16384) (hw : 1 ≤ w.d) {p d : Int} (hp : p + (w.k + 2 : Nat) ≤ 4096) (h3 : 1 ≤ d) (h4 : d + (w.d + 1 : Nat) ≤ 17) :
    (wl (.mk 3 0 [h, o]) p d).2 = ((a * b : Nat) : Int) ∧ (wl (.mk 3 0 [h, o]) p d).1 ≤ p + (w.k + 2 : Nat) := by
  have w1 := gh.w (p + 1) (d + 1) (by omega) (by omega) (by omega)
  rw [wl_two (a := h) (b := o) (by omega) rfl, if_pos ⟨rfl, rfl⟩, w1.1, if_neg (by omega)]
  have hle := w1.2
  have w2 := go.w (wl h (p + 1) (d + 1)).1 (d + 1) (by omega) (by omega) (by omega)
  have e : (a : Int) * (b : Int) = ((a * b : Nat) : Int) := by push_cast; rfl
  rw [w2.1, e, if_neg (by omega)]
  exact ⟨rfl, by have := w2.2; simp only; omega⟩
theorem good_tD {a b : Nat} {o : Ord} {w : V} (go : GoodV b o w) (ha : 2 ≤ a) (ha2 : a ≤ 16) (hb : 2 ≤ b) (hab : a * b ≤ 16384) (hw : 1 ≤ w.d) (hk : w.k ≤ 4096) (hd : w.d ≤ 16) : GoodV ((a * b : Nat) : Int) (.mk 3 0 [.mk 1 a [], o]) (tD a b w) := by
  have gh := good_D (n := a) (by omega) (by omega)
  refine ⟨?_, fun p d hp h3 h4 => wl_times gh go ⟨rfl, rfl⟩ ha hb hab hw hp h3 h4⟩
  have h1 := dg_timesD (a := .mk 1 a []) (b := o) (by simp [Ord.kind]) gh.g go.g (by omega) (by simp only [vD]; omega) (by omega) (by omega) (by omega) (by omega)
  have la : (Ord.mk 1 (a : Int) []).len = a := gh.len (by simp [vD]) (by simp [vD])
  have lb : o.len = b := go.len hk hd
  rw [la, lb] at h1
  intro x bl
  refine (h1 x bl).mono ?_ ?_ ?_ <;> simp only [tD, vD] <;> push_cast
  · omega
  · have : (b : Int) * (2 * (a : Int)) = (b : Int) * ((a : Int) + (a : Int)) := by rw [Int.two_mul]
    omega
  · omega
theorem good_tF {a b : Nat} {o : Ord} {w : V} (go : GoodV b o w) (ha : 2 ≤ a) (ha2 : a ≤ 5) (hb : 2 ≤ b) (hab : a * b ≤ 16384) (hw : 1 ≤ w.d) (hk : w.k ≤ 4096) (hd : w.d ≤ 16) : GoodV ((a * b : Nat) : Int) (.mk 3 0 [.mk 2 a [], o]) (tF a b w) := by
  have gh := good_F (n := a) ha ha2
  refine ⟨?_, fun p d hp h3 h4 => wl_times gh go ⟨rfl, rfl⟩ ha hb hab hw hp h3 h4⟩
  have h1 := dg_timesF (a := .mk 2 a []) (b := o) rfl go.g (by omega) (by omega) (by omega)
  have la : (Ord.mk 2 (a : Int) []).len = a := gh.len (by simp [vF]) (by simp [vF])
  have lb : o.len = b := go.len hk hd
  rw [la, lb] at h1
  intro x bl
  refine (h1 x bl).mono ?_ ?_ ?_ <;> simp only [tF] <;> push_cast <;> omega
theorem good_B {n m : Nat} {o : Ord} {w : V} (go : GoodV m o w) (hn : 2 ≤ n) (hn2 : n ≤ 16384) (hm : 2 * n - 1 ≤ m) (hk : w.k ≤ 4096) (hd : w.d ≤ 16) : GoodV n (.mk 4 n [o]) (vB m w) := by
  have lb : o.len = m := go.len hk hd
  refine ⟨?_, fun p d hp h3 h4 => ?_⟩
  · have h1 := dg_blue (n := n) go.g (by omega) (by rw [lb]; omega) (by omega) (by omega) (by omega)
    rw [lb] at h1
    intro x bl
    refine (h1 x bl).mono ?_ ?_ ?_ <;> simp only [vB] <;> push_cast <;> omega
  · simp only [vB] at hp h4
    have w1 := go.w (p + 1) (d + 1) (by omega) (by omega) (by omega)
    rw [wl_one (a := o) (by omega) rfl, if_pos ⟨rfl, by simp only [Ord.n]; omega, by simp only [Ord.n]; omega⟩, w1.1, if_neg (by simp only [Ord.n]; omega)]
    exact ⟨rfl, by have := w1.2; simp only [vB]; omega⟩
/-- What an order of products of leaves has. -/
def szF : Nat → Ord → Option (Nat × V)
  | 0, _ => none
  | f + 1, .mk k n ks => match ks with
    | [] => if k = 1 ∧ 1 ≤ n ∧ n ≤ 16 then some (n.toNat, vD n.toNat) else if k = 2 ∧ 2 ≤ n ∧ n ≤ 5 then some (n.toNat, vF n.toNat) else none
    | [.mk k1 n1 [], b] => if k = 3 ∧ n = 0 then
        match szF f b with
        | none => none
        | some (m, w) => if 2 ≤ n1 ∧ n1 ≤ 16 ∧ 2 ≤ m ∧ n1.toNat * m ≤ 16384 ∧ 1 ≤ w.d ∧ w.k ≤ 4096 ∧ w.d ≤ 16 then
            (if k1 = 1 then some (n1.toNat * m, tD n1.toNat m w) else if k1 = 2 ∧ n1 ≤ 5 then some (n1.toNat * m, tF n1.toNat m w) else none) else none
      else none
    | _ => none
theorem szF_good : ∀ (f : Nat) (o : Ord) {m : Nat} {v : V}, szF f o = some (m, v) → GoodV m o v
  | 0, _, _, _, h => by cases h
  | f + 1, .mk k n ks, m, v, h => by
    unfold szF at h
    split at h
    · split at h
      · rename_i h1
        obtain ⟨rfl, h2, h3⟩ := h1
        injection h with h
        injection h with h4 h5
        subst h4 h5
        have := good_D (n := n.toNat) (by omega) (by omega)
        rwa [show ((n.toNat : Nat) : Int) = n by omega] at this ⊢
      · split at h
        · rename_i h1
          obtain ⟨rfl, h2, h3⟩ := h1
          injection h with h
          injection h with h4 h5
          subst h4 h5
          have := good_F (n := n.toNat) (by omega) (by omega)
          rwa [show ((n.toNat : Nat) : Int) = n by omega] at this ⊢
        · cases h
    · rename_i k1 n1 b
      split at h
      · rename_i h1
        obtain ⟨rfl, rfl⟩ := h1
        split at h
        · cases h
        · rename_i m' w hb
          have gb := szF_good f b hb
          split at h
          · rename_i h2
            obtain ⟨c1, c2, c3, c4, c5, c6, c7⟩ := h2
            have e : ((n1.toNat : Nat) : Int) = n1 := by omega
            split at h
            · rename_i hk
              subst hk
              injection h with h
              injection h with h4 h5
              subst h4 h5
              have := good_tD gb (a := n1.toNat) (by omega) (by omega) c3 c4 c5 c6 c7
              rwa [e] at this
            · split at h
              · rename_i hk
                obtain ⟨rfl, hk⟩ := hk
                injection h with h
                injection h with h4 h5
                subst h4 h5
                have := good_tF gb (a := n1.toNat) (by omega) (by omega) c3 c4 c5 c6 c7
                rwa [e] at this
              · cases h
          · cases h
      · cases h
    · cases h
end Go.Tm
namespace Go.Tm
inductive Trie where
  | e
  | n (v : Option V) (l r : Trie)
def Trie.get : Trie → Nat → Option V
  | .e, _ => none
  | .n v l r, i => if Nat.ble i 1 = true then v else if Nat.beq (i % 2) 0 = true then l.get (i / 2) else r.get (i / 2)
def Trie.val : Trie → Option V
  | .e => none
  | .n v _ _ => v
def Trie.left : Trie → Trie
  | .e => .e
  | .n _ l _ => l
def Trie.right : Trie → Trie
  | .e => .e
  | .n _ _ r => r
def Trie.set : Nat → Trie → Nat → V → Trie
  | 0, t, _, _ => t
  | f + 1, t, i, x => if Nat.ble i 1 = true then .n (some x) t.left t.right else if Nat.beq (i % 2) 0 = true then .n t.val (Trie.set f t.left (i / 2) x) t.right else .n t.val t.left (Trie.set f t.right (i / 2) x)
theorem Trie.get_eq (t : Trie) (i : Nat) : t.get i = if i ≤ 1 then t.val else if i % 2 = 0 then t.left.get (i / 2) else t.right.get (i / 2) := by
  cases t with
  | e => simp [Trie.get, Trie.val, Trie.left, Trie.right]
  | n v l r => simp [Trie.get, Trie.val, Trie.left, Trie.right]
theorem Trie.get_set : ∀ (f : Nat) (t : Trie) (i j : Nat) (x u : V), 1 ≤ i → 1 ≤ j → (Trie.set f t i x).get j = some u → (j = i ∧ u = x) ∨ t.get j = some u
  | 0, t, i, j, x, u, _, _, h => .inr h
  | f + 1, t, i, j, x, u, hi, hj, h => by
    rw [Trie.set] at h
    simp only [Nat.ble_eq, Nat.beq_eq] at h
    rw [Trie.get_eq t j]
    split at h
    · rename_i h1
      rw [Trie.get_eq] at h
      simp only [Trie.val, Trie.left, Trie.right] at h
      split at h
      · rename_i h2
        injection h with h
        exact .inl ⟨by omega, h.symm⟩
      · rename_i h2
        rw [if_neg h2]; exact .inr h
    · rename_i h1
      split at h
      · rename_i h2
        rw [Trie.get_eq] at h
        simp only [Trie.val, Trie.left, Trie.right] at h
        split at h
        · rename_i h3; rw [if_pos h3]; exact .inr h
        · rename_i h3
          rw [if_neg h3]
          split at h
          · rename_i h4
            rw [if_pos h4]
            rcases Trie.get_set f t.left (i / 2) (j / 2) x u (by omega) (by omega) h with ⟨h5, h6⟩ | h5
            · exact .inl ⟨by omega, h6⟩
            · exact .inr h5
          · rename_i h4; rw [if_neg h4]; exact .inr h
      · rename_i h2
        rw [Trie.get_eq] at h
        simp only [Trie.val, Trie.left, Trie.right] at h
        split at h
        · rename_i h3; rw [if_pos h3]; exact .inr h
        · rename_i h3
          rw [if_neg h3]
          split at h
          · rename_i h4; rw [if_pos h4]; exact .inr h
          · rename_i h4
            rw [if_neg h4]
            rcases Trie.get_set f t.right (i / 2) (j / 2) x u (by omega) (by omega) h with ⟨h5, h6⟩ | h5
            · exact .inl ⟨by omega, h6⟩
            · exact .inr h5
def addA (T : Trie) (n : Nat) : Option V → Nat → Option V
  | none, _ => none
  | some v, a => if (Nat.beq (n % a) 0 && Nat.blt a n) = true then
      (match T.get (n / a) with
      | none => none
      | some w => some (if Nat.ble a 5 = true then (v.max (tD a (n / a) w)).max (tF a (n / a) w) else v.max (tD a (n / a) w)))
    else some v
def heads16 : List Nat := [2, 3, 4, 5, 6, 7, 8, 9, 10, 11, 12, 13, 14, 15, 16]
def v0 (n : Nat) : V := if Nat.ble n 16 = true then (if Nat.ble n 5 = true then (vD n).max (vF n) else vD n) else ⟨0, 0, 0, 1, 1⟩
def addH (T : Trie) (n : Nat) (h : Bool) : Option V → Option V
  | none => none
  | some v => if h = true then
      (match T.get (up2 (2 * n - 1)).toNat with
      | none => none
      | some w => some (v.max (vB (up2 (2 * n - 1)).toNat w)))
    else some v
def fitV (n : Nat) (v : V) : Bool := Nat.ble v.s 65536 && Nat.ble v.a 67108864 && Nat.ble (2 * n + v.c) 262144 && Nat.ble v.k 4096 && Nat.ble v.d 16 && Nat.ble 1 v.d
def someN (n : Nat) (h : Bool) : Bool := Nat.ble n 16 || (h || heads16.any fun a => Nat.beq (n % a) 0)
/-- One length more; the new table is looked into, so that the kernel reckons it at once. -/
def stepT (T : Trie) (n : Nat) (h : Bool) : Option Trie :=
  match addH T n h (heads16.foldl (addA T n) (some (v0 n))) with
  | none => none
  | some v => if (fitV n v && someN n h) = true then (fun T' : Trie => if (T'.get n).isSome = true then some T' else none) (T.set 14 n v) else none
def nextT (H : Nat → Bool) (T : Trie) (n : Nat) : Option Trie := if (T.get n).isSome = true then some T else stepT T n (H n)
def runT (H : Nat → Bool) : Nat → Nat → Trie → Option Trie
  | 0, _, T => some T
  | f + 1, n, T => match nextT H T n with
    | none => none
    | some T' => runT H f (n + 1) T'
def hardN (n : Nat) : Bool := hardM PU (facs n) n
/-- The powers of two: what the planner finds for them. -/
def baseL : List (Nat × V) := [(0, ⟨1, 1, 0, 1, 1⟩), (1, ⟨2, 3, 0, 1, 1⟩), (2, ⟨2, 5, 0, 1, 1⟩), (3, ⟨7, 22, 0, 3, 2⟩), (4, ⟨13, 40, 0, 3, 2⟩), (5, ⟨29, 128, 0, 5, 3⟩), (6, ⟨57, 240, 0, 5, 3⟩), (7, ⟨117, 672, 0, 7, 4⟩), (8, ⟨233, 1280, 0, 7, 4⟩), (9, ⟨469, 3328, 0, 9, 5⟩), (10, ⟨937, 6400, 0, 9, 5⟩), (11, ⟨1877, 15872, 0, 11, 6⟩), (12, ⟨3753, 30720, 0, 11, 6⟩), (13, ⟨7509, 73728, 0, 13, 7⟩)]
def base0 : Trie := baseL.foldl (fun T x => Trie.set 14 T (2 ^ x.1) x.2) .e
/-- A bound for the planner's choice of a length. -/
structure EntV (m : Nat) (v : V) : Prop where
  fit : fitV m v = true
  ok : ∀ r, Best PU m r → 0 ≤ r.2 ∧ GoodV m r.1 v
structure FitP (n : Nat) (v : V) : Prop where
  s : v.s ≤ 65536
  a : v.a ≤ 67108864
  c : 2 * n + v.c ≤ 262144
  k : v.k ≤ 4096
  d : v.d ≤ 16
  d1 : 1 ≤ v.d
theorem fit_of {n : Nat} {v : V} (h : fitV n v = true) : FitP n v := by
  simp only [fitV, Bool.and_eq_true, Nat.ble_eq] at h
  exact ⟨h.1.1.1.1.1, h.1.1.1.1.2, h.1.1.1.2, h.1.1.2, h.1.2, h.2⟩
def Inv (T : Trie) : Prop := ∀ m v, 1 ≤ m → T.get m = some v → EntV m v
theorem upGo_dvd {n a : Int} : ∀ c : Nat, a ∈ upGo n c → 1 ≤ a ∧ n % a = 0
  | 0, h => by simp [upGo] at h
  | c + 1, h => by
    rw [upGo, List.mem_append] at h
    rcases h with h | h
    · exact upGo_dvd c h
    · split at h
      · rename_i h1
        simp at h
        subst h
        exact ⟨by omega, h1⟩
      · simp at h
theorem dnGo_dvd {n a : Int} (hn : 1 ≤ n) (e : Nat) : ∀ c : Nat, c ≤ e → a ∈ dnGo n e c → 1 ≤ a ∧ n % a = 0
  | 0, _, h => by simp [dnGo] at h
  | c + 1, hc, h => by
    rw [dnGo, List.mem_append] at h
    rcases h with h | h
    · exact dnGo_dvd hn e c (by omega) h
    · split at h
      · rename_i h1
        simp at h
        subst h
        have := divE_ok hn (d := (e : Int) - c) (by omega) h1.1
        exact ⟨this.1, this.2.2⟩
      · simp at h
theorem divs_dvd {n a : Int} (hn : 1 ≤ n) {e : Nat} (h : a ∈ divsAt n e) : 1 ≤ a ∧ n % a = 0 := by
  rw [divsAt, List.mem_append] at h
  rcases h with h | h
  · exact upGo_dvd _ h
  · exact dnGo_dvd hn e e (Nat.le_refl e) h
theorem upGo_mem {n : Int} {a : Nat} (h1 : 1 ≤ a) (h : n % (a : Int) = 0) : ∀ c : Nat, a ≤ c → (a : Int) ∈ upGo n c
  | 0, hc => by omega
  | c + 1, hc => by
    rw [upGo, List.mem_append]
    by_cases e : a = c + 1
    · subst e
      exact .inr (by rw [if_pos (by exact_mod_cast h)]; simp)
    · exact .inl (upGo_mem h1 h c (by omega))
theorem dnGo_mem {n : Int} {e d : Nat} (hd : 1 ≤ d) (he : d ≤ e) (h : n % (d : Int) = 0) (h2 : (d : Int) ≤ n / d) : ∀ c : Nat, e - d < c → n / (d : Int) ∈ dnGo n e c
  | 0, hc => by omega
  | c + 1, hc => by
    rw [dnGo, List.mem_append]
    by_cases q : c = e - d
    · have e1 : (e : Int) - (c : Int) = d := by omega
      exact .inr (by rw [e1, if_pos ⟨h, h2⟩]; simp)
    · exact .inl (dnGo_mem hd he h h2 c (by omega))
theorem isq_spec {n : Int} (hn : n ≤ 16384) : 1 ≤ isq n ∧ n ≤ (isq n : Int) * isq n := by
  unfold isq
  cases h : (List.range 200).find? fun e : Nat => decide (n ≤ (e : Int) * e) && decide (1 ≤ e) with
  | none =>
    have := List.find?_eq_none.1 h 128 (by simp)
    simp at this
    omega
  | some e =>
    have := List.find?_some h
    simp only [Bool.and_eq_true, decide_eq_true_eq] at this
    exact ⟨this.2, this.1⟩
/-- A small divisor is found. -/
theorem divs_mem {n a : Nat} (hn : n ≤ 16384) (ha : 1 ≤ a) (han : a ≤ n) (h : n % a = 0) : (a : Int) ∈ divsAt n (isq n) := by
  obtain ⟨h1, h2⟩ := isq_spec (n := n) (by omega)
  rw [divsAt, List.mem_append]
  have hz : (n : Int) % (a : Int) = 0 := by exact_mod_cast h
  by_cases hl : a ≤ isq n - 1
  · exact .inl (upGo_mem ha hz _ hl)
  · have hge : isq n ≤ a := by omega
    have e : n / a * a = n := Nat.div_mul_cancel (Nat.dvd_of_mod_eq_zero h)
    have h2' : n ≤ isq n * isq n := by exact_mod_cast h2
    have hd1 : 1 ≤ n / a := Nat.div_pos han ha
    have hd2 : n / a ≤ isq n := by
      have h3 : n / a * a ≤ isq n * a := by rw [e]; exact Nat.le_trans h2' (Nat.mul_le_mul_left _ hge)
      exact Nat.le_of_mul_le_mul_right h3 ha
    have e2 : n / (n / a) = a := by
      have : n / a * a / (n / a) = a := Nat.mul_div_cancel_left a hd1
      rwa [e] at this
    have hm : n % (n / a) = 0 := by
      have : n / a * a % (n / a) = 0 := Nat.mul_mod_right _ _
      rwa [e] at this
    have := dnGo_mem (n := n) (e := isq n) (d := n / a) hd1 hd2 (by exact_mod_cast hm) (by
      have : ((n / a : Nat) : Int) ≤ ((n / (n / a) : Nat) : Int) := by rw [e2]; omega
      simpa using this) (isq n) (by omega)
    have q : (n : Int) / ((n / a : Nat) : Int) = (a : Int) := by
      have : ((n / (n / a) : Nat) : Int) = (a : Int) := by rw [e2]
      simpa using this
    rw [q] at this
    exact .inr this
theorem offerM_pos {b : Ord × Int} {o : Ord} {c : Int} (hc : 0 ≤ c) : 0 ≤ (offerM b o c).2 := by
  unfold offerM
  split
  · exact hc
  · omega
def Qv (n : Int) (v : V) (b : Ord × Int) : Prop := 0 ≤ b.2 → GoodV n b.1 v
theorem offerM_q {n : Int} {v : V} {b : Ord × Int} {o : Ord} {c : Int} (hb : Qv n v b) (ho : GoodV n o v) : Qv n v (offerM b o c) := by
  unfold offerM
  split
  · exact fun _ => ho
  · exact hb
theorem heads_mem {a : Int} {h : Ord} (hh : h ∈ headsM PU a) : (h = .mk 1 a [] ∧ a ≤ 16) ∨ (h = .mk 2 a [] ∧ 2 ≤ a ∧ a ≤ 5) := by
  unfold headsM at hh
  rw [List.mem_append] at hh
  rcases hh with hh | hh
  · split at hh
    · rename_i h1; simp at hh; exact .inl ⟨hh, h1⟩
    · simp at hh
  · split at hh
    · rename_i h1
      simp at hh
      simp [PU] at h1
      exact .inr ⟨hh, by omega, by omega⟩
    · simp at hh
theorem foldl_inv {α β : Type} {f : β → α → β} {Q : β → Prop} {l : List α} (h : ∀ b, ∀ x ∈ l, Q b → Q (f b x)) : ∀ b, Q b → Q (l.foldl f b) := by
  induction l with
  | nil => exact fun b hb => hb
  | cons x t ih => exact fun b hb => ih (fun b y hy => h b y (List.mem_cons_of_mem _ hy)) _ (h b x (List.mem_cons_self ..) hb)
theorem best0_q {n : Nat} {v : V} (h1 : n ≤ 16 → (vD n).Le v) (h2 : 2 ≤ n ∧ n ≤ 5 → (vF n).Le v) (hn : 1 ≤ n) : Qv n v (best0 PU n) := by
  unfold best0
  refine foldl_inv (Q := Qv n v) (fun b x hx hb => ?_) _ (fun h => absurd h (by decide))
  rcases heads_mem hx with ⟨rfl, h⟩ | ⟨rfl, h, h'⟩
  · exact offerM_q hb ((good_D hn (by omega)).le (h1 (by omega)))
  · exact offerM_q hb ((good_F (by omega) (by omega)).le (h2 (by omega)))
theorem foldl_offer_pos {l : List Ord} : ∀ {b : Ord × Int} {F : Ord × Int → Ord → Ord × Int}, (∀ b x, 0 ≤ (F b x).2) → l ≠ [] ∨ 0 ≤ b.2 → 0 ≤ (l.foldl F b).2 := by
  induction l with
  | nil => intro b F _ h; rcases h with h | h; exact absurd rfl h; exact h
  | cons x t ih => intro b F hF _; exact ih hF (.inr (hF b x))
theorem best0_pos {n : Nat} (h : n ≤ 16) : 0 ≤ (best0 PU n).2 := by
  unfold best0
  have hl : ∀ o ∈ headsM PU n, 0 ≤ lcost o.kind o.n := fun o ho => by
    rcases heads_mem ho with ⟨rfl, h1⟩ | ⟨rfl, h1, h2⟩ <;> exact (lcost_bd (by simp only [Ord.n]; omega) (by simp only [Ord.n]; omega)).1
  have key : ∀ (l : List Ord) (b : Ord × Int), (∀ o ∈ l, 0 ≤ lcost o.kind o.n) → (l ≠ [] ∨ 0 ≤ b.2) → 0 ≤ (l.foldl (fun b o => offerM b o (lcost o.kind o.n)) b).2 := by
    intro l
    induction l with
    | nil => intro b _ h; rcases h with h | h; exact absurd rfl h; exact h
    | cons x t ih => intro b hx _; exact ih _ (fun o ho => hx o (List.mem_cons_of_mem _ ho)) (.inr (offerM_pos (hx x (List.mem_cons_self ..))))
  refine key _ _ hl (.inl ?_)
  have : (PU.direct : Int) = 16 := rfl
  unfold headsM
  rw [this, if_pos (by omega)]
  simp
/-- What the divisors give. -/
theorem goM_q {rec : Int → Option (Ord × Int)} {n : Nat} {v : V} (hn : 1 ≤ n) (hn2 : n ≤ 16384) (hrec : ∀ (a : Nat), 2 ≤ a → a ≤ 16 → a < n → n % a = 0 → ∀ r', rec ((n : Int) / a) = some r' → 0 ≤ r'.2 ∧ (GoodV n (.mk 3 0 [.mk 1 a [], r'.1]) v) ∧ (a ≤ 5 → GoodV n (.mk 3 0 [.mk 2 a [], r'.1]) v)) :
    ∀ (l : List Int) (b r : Ord × Int), (∀ a ∈ l, 1 ≤ a ∧ (n : Int) % a = 0) → goM rec PU n l b = some r → Qv n v b → Qv n v r ∧ (0 ≤ b.2 → 0 ≤ r.2) ∧ ((∃ a ∈ l, 2 ≤ a ∧ a ≤ 16 ∧ a < n) → 0 ≤ r.2)
  | [], b, r, _, h, hb => by
    simp only [goM] at h
    injection h with h
    subst h
    exact ⟨hb, id, fun ⟨a, h, _⟩ => absurd h (by simp)⟩
  | a :: t, b, r, hl, h, hb => by
    simp only [goM] at h
    obtain ⟨ha1, ha2⟩ := hl a (List.mem_cons_self ..)
    have key : ∀ b', stepM rec PU n b a = some b' → Qv n v b' ∧ (0 ≤ b.2 → 0 ≤ b'.2) ∧ ((2 ≤ a ∧ a ≤ 16 ∧ a < n) → 0 ≤ b'.2) := by
      intro b' hs
      unfold stepM at hs
      split at hs
      · rename_i h1
        injection hs with hs
        subst hs
        exact ⟨hb, id, fun h => by omega⟩
      · rename_i h1
        have hale : a ≤ n := Int.le_of_dvd (by omega) (Int.dvd_of_emod_eq_zero ha2)
        split at hs
        · rename_i h2
          injection hs with hs
          subst hs
          refine ⟨hb, id, fun h => ?_⟩
          exfalso
          have : (PU.direct : Int) = 16 := rfl
          unfold headsM at h2
          rw [this, if_pos (by omega)] at h2
          simp at h2
        · rename_i h2
          split at hs
          · cases hs
          · rename_i r' hr'
            injection hs with hs
            subst hs
            obtain ⟨x, hx⟩ : ∃ x, x ∈ headsM PU a := List.exists_mem_of_ne_nil _ h2
            have ha16 : a ≤ 16 := by rcases heads_mem hx with ⟨_, h⟩ | ⟨_, _, h⟩ <;> omega
            obtain ⟨m, rfl⟩ : ∃ m : Nat, a = m := ⟨a.toNat, by omega⟩
            obtain ⟨g1, g2, g3⟩ := hrec m (by omega) (by omega) (by omega) (by exact_mod_cast ha2) r' hr'
            have hq1 : 1 ≤ (n : Int) / (m : Int) ∧ (n : Int) / (m : Int) ≤ n := by
              have := divE_ok (n := n) (d := m) (by omega) (by omega) ha2
              exact ⟨this.1, this.2.1⟩
            have hpos : ∀ (b : Ord × Int) (x : Ord), x ∈ headsM PU m → 0 ≤ (offerH n m r' b x).2 := by
              intro b x hx
              unfold offerH
              rw [if_pos g1]
              refine offerM_pos (timesC_bd (by omega) (by omega) hq1.1 (by omega) ?_ g1).1
              rcases heads_mem hx with ⟨rfl, h⟩ | ⟨rfl, h, h'⟩ <;> exact (lcost_bd (by simp only [Ord.n]; omega) (by simp only [Ord.n]; omega)).1
            have hq : Qv n v ((headsM PU m).foldl (offerH n m r') b) := by
              refine foldl_inv (Q := Qv n v) (fun b x hx hb => ?_) _ hb
              unfold offerH
              rw [if_pos g1]
              rcases heads_mem hx with ⟨rfl, h⟩ | ⟨rfl, h, h'⟩
              · exact offerM_q hb g2
              · exact offerM_q hb (g3 (by omega))
            have hp2 : 0 ≤ ((headsM PU m).foldl (offerH n m r') b).2 := by
              have : ∀ (l : List Ord) (b : Ord × Int), (∀ x ∈ l, x ∈ headsM PU m) → (l ≠ [] ∨ 0 ≤ b.2) → 0 ≤ (l.foldl (offerH n m r') b).2 := by
                intro l
                induction l with
                | nil => intro b _ h; rcases h with h | h; exact absurd rfl h; exact h
                | cons x t ih => intro b hx _; exact ih _ (fun o ho => hx o (List.mem_cons_of_mem _ ho)) (.inr (hpos b x (hx x (List.mem_cons_self ..))))
              exact this _ _ (fun _ h => h) (.inl h2)
            exact ⟨hq, fun _ => hp2, fun _ => hp2⟩
    cases hs : stepM rec PU n b a with
    | none => rw [hs] at h; cases h
    | some b' =>
      rw [hs] at h
      obtain ⟨k1, k2, k3⟩ := key b' hs
      obtain ⟨i1, i2, i3⟩ := goM_q hn hn2 hrec t b' r (fun x hx => hl x (List.mem_cons_of_mem _ hx)) h k1
      refine ⟨i1, fun hb => i2 (k2 hb), ?_⟩
      rintro ⟨x, hx, h1, h2, h3⟩
      rcases List.mem_cons.1 hx with rfl | hx
      · exact i2 (k3 ⟨h1, h2, h3⟩)
      · exact i3 ⟨x, hx, h1, h2, h3⟩
/-- What the table's reckoning covers. -/
theorem addA_le (T : Trie) (n : Nat) : ∀ (l : List Nat) (x : Option V) (v : V), l.foldl (addA T n) x = some v → ∃ u, x = some u ∧ u.Le v ∧ ∀ a ∈ l, n % a = 0 → a < n → ∃ w, T.get (n / a) = some w ∧ (tD a (n / a) w).Le v ∧ (a ≤ 5 → (tF a (n / a) w).Le v)
  | [], x, v, h => ⟨v, h, V.Le.refl v, fun a h => absurd h (by simp)⟩
  | a :: t, x, v, h => by
    obtain ⟨u, h1, h2, h3⟩ := addA_le T n t (addA T n x a) v h
    cases x with
    | none => cases h1
    | some u0 =>
      unfold addA at h1
      simp only at h1
      split at h1
      · rename_i hc
        simp only [Bool.and_eq_true, Nat.beq_eq, Nat.blt_eq] at hc
        split at h1
        · cases h1
        · rename_i w hw
          injection h1 with h1
          have hle : u0.Le u ∧ (tD a (n / a) w).Le u ∧ (a ≤ 5 → (tF a (n / a) w).Le u) := by
            subst h1
            split
            · rename_i h5
              exact ⟨(V.le_maxL _ _).trans (V.le_maxL _ _), (V.le_maxR _ _).trans (V.le_maxL _ _), fun _ => V.le_maxR _ _⟩
            · rename_i h5
              simp only [Nat.ble_eq] at h5
              exact ⟨V.le_maxL _ _, V.le_maxR _ _, fun h => absurd h h5⟩
          refine ⟨u0, rfl, hle.1.trans h2, fun b hb hm hlt => ?_⟩
          rcases List.mem_cons.1 hb with rfl | hb
          · exact ⟨w, hw, hle.2.1.trans h2, fun h => (hle.2.2 h).trans h2⟩
          · exact h3 b hb hm hlt
      · rename_i hc
        injection h1 with h1
        subst h1
        refine ⟨u0, rfl, h2, fun b hb hm hlt => ?_⟩
        rcases List.mem_cons.1 hb with rfl | hb
        · exfalso; apply hc; simp [hm, hlt]
        · exact h3 b hb hm hlt
theorem mem_heads16 {a : Nat} (h1 : 2 ≤ a) (h2 : a ≤ 16) : a ∈ heads16 := by
  have : ∀ a : Fin 17, 2 ≤ a.1 → a.1 ∈ heads16 := by decide
  exact this ⟨a, by omega⟩ h1
/-- One length. -/
theorem ent_step {T : Trie} (hT : Inv T) {n : Nat} (hn : 1 ≤ n) (hn2 : n ≤ 4096) {v : V} (hv : addH T n (hardM PU (facs n) n) (heads16.foldl (addA T n) (some (v0 n))) = some v) (hs : someN n (hardM PU (facs n) n) = true) : ∀ r, Best PU n r → 0 ≤ r.2 ∧ GoodV n r.1 v := by
  rintro r ⟨f, hr⟩
  cases f with
  | zero => cases hr
  | succ f =>
    obtain ⟨v1, hv1⟩ : ∃ v1, heads16.foldl (addA T n) (some (v0 n)) = some v1 := by
      cases h : heads16.foldl (addA T n) (some (v0 n)) with
      | none => rw [h] at hv; cases hv
      | some v1 => exact ⟨v1, rfl⟩
    rw [hv1] at hv
    have hle : v1.Le v := by
      unfold addH at hv
      simp only at hv
      split at hv
      · split at hv
        · cases hv
        · injection hv with hv
          subst hv
          exact V.le_maxL _ _
      · injection hv with hv
        subst hv
        exact V.Le.refl _
    obtain ⟨u, hu, hle0, hA⟩ := addA_le T n heads16 _ _ hv1
    injection hu with hu
    subst hu
    have hrec : ∀ (a : Nat), 2 ≤ a → a ≤ 16 → a < n → n % a = 0 → ∀ r', bestF PU f ((n : Int) / a) = some r' → 0 ≤ r'.2 ∧ (GoodV n (.mk 3 0 [.mk 1 a [], r'.1]) v) ∧ (a ≤ 5 → GoodV n (.mk 3 0 [.mk 2 a [], r'.1]) v) := by
      intro a h1 h2 h3 h4 r' hr'
      obtain ⟨w, hw, l1, l2⟩ := hA a (mem_heads16 h1 h2) h4 h3
      have e : n / a * a = n := Nat.div_mul_cancel (Nat.dvd_of_mod_eq_zero h4)
      have hq : 1 ≤ n / a := Nat.div_pos (by omega) (by omega)
      have hq2 : 2 ≤ n / a := by
        rcases Nat.lt_or_ge (n / a) 2 with h | h
        · have : n / a = 1 := by omega
          rw [this] at e; omega
        · exact h
      have ent := hT (n / a) w hq hw
      have ft := fit_of ent.fit
      have := ent.ok r' ⟨f, by rw [← hr']; congr 1⟩
      have e2 : a * (n / a) = n := by rw [Nat.mul_comm]; exact e
      have g1 := good_tD this.2 h1 h2 hq2 (by omega) ft.d1 ft.k ft.d
      rw [e2] at g1
      refine ⟨this.1, g1.le (l1.trans hle), fun h5 => ?_⟩
      have g2 := good_tF this.2 h1 h5 hq2 (by omega) ft.d1 ft.k ft.d
      rw [e2] at g2
      exact g2.le ((l2 h5).trans hle)
    have hb0 : Qv n v (best0 PU n) := by
      refine best0_q (fun h => ?_) (fun h => ?_) hn
      · refine V.Le.trans ?_ (hle0.trans hle)
        unfold v0
        rw [if_pos (by simpa using h)]
        split
        · exact V.le_maxL _ _
        · exact V.Le.refl _
      · refine V.Le.trans ?_ (hle0.trans hle)
        unfold v0
        rw [if_pos (by simp; omega), if_pos (by simp; omega)]
        exact V.le_maxR _ _
    rw [bestF] at hr
    cases hg : goM (bestF PU f) PU n (divsAt n (isq n)) (best0 PU n) with
    | none => rw [hg] at hr; cases hr
    | some b =>
      rw [hg] at hr
      simp only at hr
      obtain ⟨q1, q2, q3⟩ := goM_q hn (by omega) hrec (divsAt n (isq n)) (best0 PU n) b (fun a ha => divs_dvd (by omega) ha) hg hb0
      split at hr
      · rename_i hh
        split at hr
        · cases hr
        · rename_i x hx
          injection hr with hr
          subst hr
          have hm1 : 1 ≤ up2 (2 * (n : Int) - 1) := up2_pos (by omega) (by omega)
          have hm2 : 2 * (n : Int) - 1 ≤ up2 (2 * (n : Int) - 1) := (up2_spec (by omega) (by omega)).2.1
          have hm3 : up2 (2 * (n : Int) - 1) ≤ 2 ^ 13 := up2_le (by omega) (by omega) (by simp; omega)
          have hm4 : (2 : Int) ^ 13 = 8192 := by decide
          obtain ⟨w, hw, hwle⟩ : ∃ w, T.get (up2 (2 * (n : Int) - 1)).toNat = some w ∧ (vB (up2 (2 * (n : Int) - 1)).toNat w).Le v := by
            unfold addH at hv
            simp only at hv
            rw [if_pos hh] at hv
            split at hv
            · cases hv
            · rename_i w hw
              injection hv with hv
              subst hv
              exact ⟨w, hw, V.le_maxR _ _⟩
          have em : (((up2 (2 * (n : Int) - 1)).toNat : Nat) : Int) = up2 (2 * (n : Int) - 1) := by omega
          have ent := hT _ w (by omega) hw
          have ft := fit_of ent.fit
          have hx2 := ent.ok x ⟨f, by rw [em]; exact hx⟩
          have hn1 : 2 ≤ n := by
            rcases Nat.lt_or_ge n 2 with h | h
            · have : n = 1 := by omega
              subst this
              exact absurd hh (by decide)
            · exact h
          have gb := good_B (n := n) hx2.2 hn1 (by omega) (by omega) ft.k ft.d
          have hc := (blueC_bd (n := n) (m := up2 (2 * (n : Int) - 1)) (cm := x.2) (by omega) (by omega) hm1 (by omega) (by omega)).1
          have hp := offerM_pos (b := b) (o := .mk 4 n [x.1]) hc
          exact ⟨hp, offerM_q q1 (gb.le hwle) hp⟩
      · rename_i hh
        injection hr with hr
        subst hr
        have hp : 0 ≤ b.2 := by
          unfold someN at hs
          simp only [Bool.or_eq_true, Nat.ble_eq, List.any_eq_true, Nat.beq_eq] at hs
          rcases hs with hs | hs | ⟨a, ha, hm⟩
          · exact q2 (best0_pos hs)
          · exact absurd hs hh
          · have ha2 : 2 ≤ a ∧ a ≤ 16 := (by decide : ∀ a ∈ heads16, 2 ≤ a ∧ a ≤ 16) a ha
            by_cases h16 : n ≤ 16
            · exact q2 (best0_pos h16)
            · exact q3 ⟨a, divs_mem (by omega) (by omega) (by omega) hm, by omega, by omega, by omega⟩
        exact ⟨hp, q1 hp⟩
theorem stepT_inv {T T' : Trie} (hT : Inv T) {n : Nat} (hn : 1 ≤ n) (hn2 : n ≤ 4096) (h : stepT T n (hardM PU (facs n) n) = some T') : Inv T' ∧ ∃ v, EntV n v := by
  unfold stepT at h
  split at h
  · cases h
  · rename_i v hv
    split at h
    · rename_i hc
      simp only [Bool.and_eq_true] at hc
      simp only at h
      split at h
      · injection h with h
        subst h
        have e : EntV n v := ⟨hc.1, ent_step hT hn hn2 hv hc.2⟩
        refine ⟨fun m u hm hu => ?_, v, e⟩
        rcases Trie.get_set 14 T n m v u hn hm hu with ⟨rfl, rfl⟩ | hu
        · exact e
        · exact hT m u hm hu
      · cases h
    · cases h
theorem runT_inv {H : Nat → Bool} (hH : ∀ n : Nat, n ≤ 4096 → H n = hardM PU (facs n) n) (f : Nat) : ∀ (n : Nat) (T T' : Trie), Inv T → 1 ≤ n → n + f ≤ 4097 → runT H f n T = some T' → ∀ m, n ≤ m → m < n + f → ∃ v, EntV m v := by
  induction f with
  | zero => intro n T T' _ _ _ _ m h1 h2; omega
  | succ f ih =>
    intro n T T' hT hn hf h m h1 h2
    rw [runT] at h
    split at h
    · cases h
    · rename_i T1 hs
      have key : Inv T1 ∧ ∃ v, EntV n v := by
        unfold nextT at hs
        split at hs
        · rename_i hg
          injection hs with hs
          subst hs
          obtain ⟨v, hv⟩ := Option.isSome_iff_exists.1 hg
          exact ⟨hT, v, hT n v hn hv⟩
        · rw [hH n (by omega)] at hs
          exact stepT_inv hT hn (by omega) hs
      obtain ⟨i1, v, hv⟩ := key
      by_cases e : m = n
      · subst e; exact ⟨v, hv⟩
      · exact ih (n + 1) T1 T' i1 (by omega) (by omega) h m (by omega) (by omega)
/-- What the planner finds for the powers of two. -/
def exO : Nat → Ord
  | 0 => .mk 1 1 []
  | 1 => .mk 2 2 []
  | 2 => .mk 2 4 []
  | k + 3 => if Nat.beq (k % 2) 0 = true then .mk 3 0 [.mk 2 2 [], exO (k + 2)] else .mk 3 0 [.mk 2 4 [], exO (k + 1)]
def exC : List Int := [8, 4, 16, 66, 182, 518, 1254, 3142, 7174, 16902, 37382, 84998, 184326, 409606]
def ex (k : Nat) : Ord × Int := (exO k, exC.getD k 0)
def recK (k : Nat) (m : Int) : Option (Ord × Int) := ((List.range k).find? fun j => decide ((2 : Int) ^ j = m)).map ex
def goK (k : Nat) : Option (Ord × Int) := goM (recK k) PU (2 ^ k) (divsAt (2 ^ k) (isq (2 ^ k))) (best0 PU (2 ^ k))
theorem best_pow (h : ∀ k, k < 14 → goK k = some (ex k)) : ∀ k : Nat, k < 14 → bestF PU (k + 1) (2 ^ k) = some (ex k) := by
  intro k
  induction k using Nat.strongRecOn with
  | _ k ih =>
    intro hk
    have hrec : ∀ n r, recK k n = some r → bestF PU k n = some r := by
      intro n r hr
      unfold recK at hr
      rw [Option.map_eq_some_iff] at hr
      obtain ⟨j, hj, rfl⟩ := hr
      have h1 := List.find?_some hj
      have h2 := List.mem_range.1 (List.mem_of_find?_eq_some hj)
      simp only [decide_eq_true_eq] at h1
      subst h1
      exact bestF_le (by omega) (ih j h2 (by omega))
    have hg := goM_mono hrec (h k hk)
    have hp : (2 : Int) ^ k ≤ 16384 := by
      have h1 : (2 : Int) ^ k ≤ 2 ^ 13 := by exact_mod_cast Nat.pow_le_pow_right (by omega : 0 < 2) (by omega : k ≤ 13)
      have h2 : (2 : Int) ^ 13 = 8192 := by decide
      omega
    have hh := hard_pow2 (P := PU) (n := 2 ^ k) (by decide) hp ⟨k, rfl⟩
    rw [bestF, hg]
    simp only [hh, Bool.false_eq_true, if_false]
def baseOk (x : Nat × V) : Bool := fitV (2 ^ x.1) x.2 && (Nat.blt x.1 14 && (decide (0 ≤ (ex x.1).2) && (match szF 40 (ex x.1).1 with
    | some (m, u) => Nat.beq m (2 ^ x.1) && u.leB x.2
    | none => false)))
theorem baseOk_ent (hE : ∀ k, k < 14 → goK k = some (ex k)) {x : Nat × V} (h : baseOk x = true) : EntV (2 ^ x.1) x.2 := by
  unfold baseOk at h
  simp only [Bool.and_eq_true, decide_eq_true_eq, Nat.blt_eq] at h
  obtain ⟨h1, hk, h3, h4⟩ := h
  refine ⟨h1, fun r hr => ?_⟩
  obtain rfl := hr.unique ⟨x.1 + 1, by rw [← best_pow hE x.1 hk]; congr 1⟩
  split at h4
  · rename_i m u hz
    simp only [Bool.and_eq_true, Nat.beq_eq] at h4
    obtain ⟨rfl, h5⟩ := h4
    exact ⟨h3, (szF_good 40 _ hz).le (V.le_of h5)⟩
  · cases h4
theorem base_inv (hE : ∀ k, k < 14 → goK k = some (ex k)) (hb : ∀ x ∈ baseL, baseOk x = true) : Inv base0 := by
  unfold base0
  have h0 : Inv .e := fun m v _ h => by cases h
  have key : ∀ (l : List (Nat × V)) (T : Trie), (∀ x ∈ l, baseOk x = true) → Inv T → Inv (l.foldl (fun T x => Trie.set 14 T (2 ^ x.1) x.2) T) := by
    intro l
    induction l with
    | nil => exact fun T _ h => h
    | cons x t ih =>
      intro T hx hT
      refine ih _ (fun y hy => hx y (List.mem_cons_of_mem _ hy)) fun m u hm hu => ?_
      rcases Trie.get_set 14 T (2 ^ x.1) m x.2 u (Nat.two_pow_pos _) hm hu with ⟨rfl, rfl⟩ | hu
      · exact baseOk_ent hE (hx x (List.mem_cons_self ..))
      · exact hT m u hm hu
  exact key baseL _ hb h0
theorem EntV.has {n : Nat} {v : V} (hn : 1 ≤ n) (h : EntV n v) : HasP PU n := by
  intro r hr
  obtain ⟨h1, h2⟩ := h.ok r hr
  have ft := fit_of h.fit
  have hl := h2.len ft.k ft.d
  refine ⟨hl, ?_⟩
  unfold buildM
  rw [hl]
  have g := h2.g ⟨0, 1, (n : Int)⟩ (bld0 n)
  have f1 := ft.s; have f2 := ft.a; have f3 := ft.c
  obtain ⟨e1, e2, e3, e4⟩ := g
  have b1 : (bld0 n).steps.length = 0 := rfl
  have b2 : (bld0 n).acts = 0 := rfl
  have b3 : (bld0 n).fr = 2 * n := by show (0 : Int) + 2 * n = _; omega
  have b4 : (bld0 n).cl ≤ 2 * n := by
    simp only [bld0, Bld.region]
    split <;> omega
  rw [b1] at e1
  rw [b2] at e2
  rw [b3] at e3
  simp only [Bld.full, Bool.or_eq_false_iff, decide_eq_false_iff_not]
  refine ⟨⟨by omega, by omega⟩, by omega⟩
end Go.Tm
