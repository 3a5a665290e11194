/- Lemmas of this claim, joined by program. Rows of complex numbers; comparisons of floats; make, clear and copy over owned rows; arrays and slices of them. The machine in plain Lean: complex numbers as pairs of floats, butterflies, roots, sums, acts. Walks of functions: butterflies, roots of unity, sums. Conditions: each lemma names its own. -/
import Derived.Test.YtdgiiehbbmfgoaaGreatDoorA11
import Derived.Laws.CopyRow
import Derived.Laws.IdiomCopy
import Derived.Test.YtdgiiehbbmfgoaaGreatDoorA05
set_option linter.all false
namespace Go.Tm
open Go.RowKit
abbrev Cx := Fl × Fl
abbrev CB := Nat × Nat
abbrev cxV (z : CB) : Value := .complex .f64 z.1 z.2
def cx (z : CB) : Cx := (cn z.1, cn z.2)
/-- A row of complex numbers that the call owns. -/
abbrev CR (e : TypeId) (w : World) (r : Nat) (A : Option Addr) (l c : Nat) (xs : List CB) : Prop := Ow w r e 1 A l c (xs.map cxV)
theorem CR.len {e : TypeId} {w : World} {r : Nat} {A : Option Addr} {l c : Nat} {xs : List CB} (h : CR e w r A l c xs) : xs.length = l := by
  have := Ow.len h
  simpa using this
theorem made_one (z : Value) (n : Nat) : madeCells #[z] n = (List.replicate n z).toArray := by
  apply Array.ext <;> simp [madeCells, Nat.mod_one]
section
variable {P : Program} {n : Fr} {k : K} {w : World} {d : Option Tmp} {ty : TypeId} {pos : String} {aft : Array Edge} {g : Option (Nat × Bool)}
theorem Rn.feql {t t' : TypeId} {x y : Operand} {a b : Nat} (hx : ev k x = some (.float .f64 a)) (hy : ev k y = some (.float .f64 b)) :
    Rn P n k w { dst := d, op := .binOp .eql t x y t', type := ty, pos := pos, after := aft, guard := g } (.bool (Ieee.double.order a b == some .eq)) :=
  Rn.bin hx hy (fun x y => by simp [eqGuard, binOp, Op.floatCmp, FloatKind.format])
theorem Rn.fneq {t t' : TypeId} {x y : Operand} {a b : Nat} (hx : ev k x = some (.float .f64 a)) (hy : ev k y = some (.float .f64 b)) :
    Rn P n k w { dst := d, op := .binOp .neq t x y t', type := ty, pos := pos, after := aft, guard := g } (.bool (Ieee.double.order a b != some .eq)) :=
  Rn.bin hx hy (fun x y => by simp [eqGuard, binOp, Op.floatCmp, FloatKind.format])
/-- Are these complex numbers equal, by ==? -/
def ceq (x y : CB) : Bool := (Ieee.double.order x.1 y.1 == some .eq) && (Ieee.double.order x.2 y.2 == some .eq)
theorem Rn.ceql {t t' : TypeId} {x y : Operand} {a b c e : Nat} (hx : ev k x = some (.complex .f64 a b)) (hy : ev k y = some (.complex .f64 c e)) :
    Rn P n k w { dst := d, op := .binOp .eql t x y t', type := ty, pos := pos, after := aft, guard := g } (.bool (ceq (a, b) (c, e))) :=
  Rn.bin hx hy (fun x y => by
    simp [eqGuard, binOp, Op.complexOp, Op.Complex.cmp, Op.floatCmp, FloatKind.format, asBool, ceq])
theorem Rn.cneq {t t' : TypeId} {x y : Operand} {a b c e : Nat} (hx : ev k x = some (.complex .f64 a b)) (hy : ev k y = some (.complex .f64 c e)) :
    Rn P n k w { dst := d, op := .binOp .neq t x y t', type := ty, pos := pos, after := aft, guard := g } (.bool (!ceq (a, b) (c, e))) :=
  Rn.bin hx hy (fun x y => by
    simp [eqGuard, binOp, Op.complexOp, Op.Complex.cmp, Op.floatCmp, FloatKind.format, asBool, ceq])
theorem Rn.minI {t t' : TypeId} {x y : Operand} {q : IntKind} {a b : Int} (hx : ev k x = some (.int q a)) (hy : ev k y = some (.int q b)) :
    Rn P n k w { dst := d, op := .call { callee := .builtin .min, args := #[x, y], argTypes := #[t, t'] }, type := ty, pos := pos, after := aft, guard := g } (.int q (if b < a then b else a)) :=
  fun ac ha => by simp [execOp, resolve, invoke, builtin, ha.eval hx, ha.eval hy, Builtin.min_, Builtin.min2]
/-- make([]complex128, l). -/
theorem Wk.mkC {t e : TypeId} {by' : Nat} {x y : Operand} {ql qc : IntKind} {l : Int} (ht : P.underlying t = some (.slice e)) (hi : Inf P e (.complex .f64 0 0) 1 by') (hx : ev k x = some (.int ql l)) (hy : ev k y = some (.int qc l)) (h0 : 0 ≤ l) (hb : (by' : Int) * l ≤ 281474976710656) (hm : l ≤ 281474976710656) :
    Wk P n k w { dst := d, op := .makeSlice t x y, type := ty, pos := pos, after := aft, guard := g }
      (fun v w' => ∃ p, v = .slice (some ⟨p, 0, none⟩) l.toNat l.toNat ∧ CR e w' (p + 1) (some ⟨p, 0, none⟩) l.toNat l.toNat (List.replicate l.toNat (0, 0)) ∧ Ch No w w' ∧ p = w.heap.size ∧ w'.heap.size = w.heap.size + 1) :=
  (Wk.make ht hi hx hy h0 (Int.le_refl _) hb (by omega)).mono fun v w' ⟨p, hv, N⟩ => by
    rw [Nat.mul_one] at N
    have e1 : (Value.complex .f64 0 0).cells = #[.complex .f64 0 0] := rfl
    rw [e1, made_one] at N
    refine ⟨p, hv, ?_, N.ch, N.p, N.size⟩
    have : (List.replicate l.toNat ((0, 0) : CB)).map cxV = List.replicate l.toNat (.complex .f64 0 0) := by simp
    show Ow _ _ _ _ _ _ _ (List.map cxV _)
    rw [this]
    exact Ow.of_new N (by simp) (by simp only [maxLen]; omega)
theorem Wk.putC {t e : TypeId} {r l c i : Nat} {A : Option Addr} {xs : List CB} {x y : Operand} {a b : Nat} (hz : ∀ w, (sizeOf t).run P w = .ok 1 w) (hx : ev k x = some (.pointer (some ((sAddr A).add (i * 1))))) (hy : ev k y = some (.complex .f64 a b)) (hi : i < l) (hown : CR e w r A l c xs) :
    Wk P n k w { dst := none, op := .store t x y, type := ty, pos := pos, after := aft, guard := g } (fun _ w' => CR e w' r A l c (xs.set i (a, b)) ∧ Ch (At r) w w' ∧ w'.heap.size = w.heap.size) :=
  (Wk.putOw hz hx hy rfl hi hown).mono fun _ w' ⟨h1, h2, h3⟩ => ⟨by show Ow _ _ _ _ _ _ _ (List.map cxV _); rw [List.map_set]; exact h1, h2, h3⟩
/-- clear(s), s a row that the call owns. -/
theorem Wk.clearC {t e : TypeId} {by' r l c : Nat} {A : Option Addr} {xs : List CB} {x : Operand} (ht : P.underlying t = some (.slice e)) (hi : Inf P e (.complex .f64 0 0) 1 by') (hx : ev k x = some (.slice A l c)) (hown : CR e w r A l c xs) (hl : 0 < l) :
    Wk P n k w { dst := none, op := .call { callee := .builtin .clear, args := #[x], argTypes := #[t] }, type := ty, pos := pos, after := aft, guard := g } (fun _ w' => CR e w' r A l c (List.replicate l (0, 0)) ∧ Ch (At r) w w' ∧ w'.heap.size = w.heap.size) := by
  obtain ⟨g', cur, rfl, rfl, hg, hlc, hcm, hcs, htk⟩ := Ow.open' hown hl
  obtain ⟨inf, h1, h2, h3, h4⟩ := hi
  have hzv : (zeroValue e).run P w = .ok (.complex .f64 0 0) w := by simp [zeroValue, typeInfo, h1, h2]
  obtain ⟨m, rfl⟩ : ∃ m, l = m + 1 := ⟨l - 1, by omega⟩
  have hzc : ∀ u ∈ (Builtin.zeroCells (Value.complex .f64 0 0).cells (m + 1)).toList, u = .complex .f64 0 0 := fun u hu => by
    simp only [Builtin.zeroCells, show (Value.complex .f64 0 0).cells = #[.complex .f64 0 0] from rfl] at hu
    simp [Nat.mod_one] at hu
    exact hu.2.symm
  have hzl : (Builtin.zeroCells (Value.complex .f64 0 0).cells (m + 1)).toList.length = m + 1 := by simp [size_zeroCells, show (Value.complex .f64 0 0).cells = #[.complex .f64 0 0] from rfl]
  have hZ : (Builtin.zeroCells (Value.complex .f64 0 0).cells (m + 1)).toList = List.replicate (m + 1) (.complex .f64 0 0) := List.eq_replicate_iff.2 ⟨hzl, hzc⟩
  have hst := run_storeCells_at P g' 0 e (List.replicate (m + 1) (.complex .f64 0 0)) 0 cur w hg (by simp; omega) (fun u hu => by rw [List.eq_of_mem_replicate hu]; rfl)
  simp only [Nat.add_zero, Nat.zero_add, List.take_zero, List.nil_append] at hst
  have hs := Sts.of_row (w' := w.setRow g' (List.replicate (m + 1) (Value.complex .f64 0 0) ++ cur.toList.drop (List.replicate (m + 1) (Value.complex .f64 0 0)).length).toArray) rfl hg
  refine Wk.of_run fun a ha => ⟨.tuple #[], _, ?_, ⟨by simp, .inr ⟨g', _, rfl, rfl, hs.same, hlc, hcm, ?_, ?_⟩⟩, hs.ch.more (fun q _ hq => by rw [hq]), hs.size⟩
  · simp [execOp, resolve, invoke, builtin, ha.eval hx, Builtin.clear_, run_underlying ht, hzv, hZ, hst]
  · simp; omega
  · simp
/-- copy(dst[off:], src), dst a row that the call owns. -/
theorem Wk.copyC {S : Nat → Prop} {t u e : TypeId} {by' r l c m mc : Nat} {A B : Option Addr} {xs ys : List CB} {x y : Operand} {off : Int} (ht : P.underlying t = some (.slice e)) (hi : Inf P e (.complex .f64 0 0) 1 by')
    (hx : ev k x = some (.slice (if c = off.toNat then A else A.map (·.add (off.toNat * 1))) (l - off.toNat) (c - off.toNat))) (hy : ev k y = some (.slice B m mc)) (hown : CR e w r A l c xs) (hsrc : SlR S w B m 1 (ys.map cxV)) (hoff : off.toNat + m ≤ l) (hl : l ≤ c) :
    Wk P n k w { dst := d, op := .call { callee := .builtin .copy, args := #[x, y], argTypes := #[t, u] }, type := ty, pos := pos, after := aft, guard := g } (fun v w' => v = .int .i64 m ∧ CR e w' r A l c (xs.take off.toNat ++ ys ++ xs.drop (off.toNat + m)) ∧ Ch (At r) w w' ∧ w'.heap.size = w.heap.size) := by
  have hxl := CR.len hown
  have hyl : ys.length = m := by have := hsrc.len; simpa using this
  obtain ⟨inf, h1, h2, h3, h4⟩ := hi
  have hsz : (P.info? e).map (·.size) = some 1 := by rw [h1]; simp [h3]
  generalize hoo : off.toNat = o at *
  by_cases hm : m = 0
  · subst hm
    obtain rfl : ys = [] := List.eq_nil_of_length_eq_zero hyl
    generalize (if c = o then A else A.map (·.add (o * 1))) = AA at hx
    refine Wk.of_run fun a ha => ⟨goInt 0, w, ?_, rfl, ?_, Ch.refl _ _, rfl⟩
    · have := run_copy_none (P := P) w t u ty e AA B (l - o) (c - o) 0 mc ht hsz (by simp)
      simp [execOp, resolve, invoke, builtin, ha.eval hx, ha.eval hy, this]
    · simpa using hown
  · obtain ⟨g', cur, rfl, rfl, hg, hlc, hcm, hcs, htk⟩ := Ow.open' hown (by omega)
    obtain ⟨ad, rfl⟩ := hsrc.ne (by omega)
    rw [if_neg (by omega)] at hx
    have hx' : ev k x = some (.slice (some ⟨g', o, none⟩) (l - o) (c - o)) := by rw [hx]; simp [Addr.add_lit]
    have hmin : (ys.map cxV).length = Nat.min m (l - o) := by rw [List.length_map, hyl]; exact (Nat.min_eq_left (by omega)).symm
    have hr := run_copy_row (P := P) w t u ty e g' o (l - o) (c - o) ad m mc cur e (ys.map cxV) ht hsz hg hmin (fun j v hj => hsrc.cells ad rfl j v hj) (by simp; omega) (fun v hv => by obtain ⟨z, _, rfl⟩ := List.mem_map.1 hv; rfl)
    have hs := Sts.of_row (w' := w.setRow g' (cur.toList.take o ++ ys.map cxV ++ cur.toList.drop (o + (ys.map cxV).length)).toArray) rfl hg
    refine Wk.of_run fun a ha => ⟨goInt (ys.map cxV).length, _, ?_, by simp [goInt, hyl], ⟨by simp; omega, .inr ⟨g', _, rfl, rfl, hs.same, hlc, hcm, ?_, ?_⟩⟩, hs.ch.more (fun q _ hq => by rw [hq]), hs.size⟩
    · simp [execOp, resolve, invoke, builtin, ha.eval hx', ha.eval hy, hr]
    · simp; omega
    · rw [Nat.mul_one] at htk ⊢
      have hc : cur.toList.length = c := by simp [hcs]
      have e1 : cur.toList.take o = (xs.map cxV).take o := by rw [← htk, List.take_take, Nat.min_eq_left (by omega)]
      have e2 : (cur.toList.drop (o + m)).take (l - (o + m)) = (xs.map cxV).drop (o + m) := by rw [← htk, List.drop_take]
      have hA : (cur.toList.take o).length = o := by simp [hcs]; omega
      have hB : (ys.map cxV).length = m := by rw [List.length_map, hyl]
      rw [hB, List.take_append, List.take_of_length_le (by rw [List.length_append, hA, hB]; omega), List.length_append, hA, hB, e2, e1]
      simp only [List.map_append, List.map_take, List.map_drop]
theorem Rn.indexArrL {t e : TypeId} {m sz b o o' : Nat} {x y : Operand} {q : IntKind} {i : Int} (ht : P.underlying t = some (.array m e)) (hz : ∀ w, (sizeOf e).run P w = .ok sz w) (hx : ev k x = some (.pointer (some ⟨b, o, none⟩))) (hy : ev k y = some (.int q i)) (h0 : 0 ≤ i) (h1 : i < m) (ho : o + i.toNat * sz = o') :
    Rn P n k w { dst := d, op := .indexAddr t x y, type := ty, pos := pos, after := aft, guard := g } (.pointer (some ⟨b, o', none⟩)) :=
  fun a ha => by subst ho; simp [execOp, ha.eval hx, ha.eval hy, Instr.indexAt, run_underlying ht, asIntOf, Instr.sureAddr, h0, h1, hz, Addr.add_lit]
/-- [N]T(s), as a pointer. -/
theorem Rn.toArr {t e : TypeId} {N l c : Nat} {A : Option Addr} {x : Operand} (ht : P.underlying t = some (.array N e)) (hx : ev k x = some (.slice A l c)) (hl : N ≤ l) :
    Rn P n k w { dst := d, op := .sliceToArrayPointer t x, type := ty, pos := pos, after := aft, guard := g } (.pointer A) :=
  fun a ha => by
    have : ¬ l < N := by omega
    simp [execOp, ha.eval hx, Instr.arrayAt, run_underlying ht, this]
/-- a[:], a an array. -/
theorem Rn.sliceAll {t e : TypeId} {m sz : Nat} {x : Operand} {ad : Addr} (ht : P.underlying t = some (.array m e)) (hz : ∀ w, (sizeOf e).run P w = .ok sz w) (hx : ev k x = some (.pointer (some ad))) (hm : m ≠ 0) :
    Rn P n k w { dst := d, op := .slice t x none none none, type := ty, pos := pos, after := aft, guard := g } (.slice (some (ad.add 0)) m m) :=
  fun a ha => by simp [execOp, ha.eval hx, Instr.sliceAt, run_underlying ht, Instr.sureAddr, Instr.sliceBounds, hz, hm]
/-- s[lo:hi]. -/
theorem Rn.sliceLH {t e : TypeId} {sz l c : Nat} {A : Option Addr} {x y z : Operand} {q q' : IntKind} {i j : Int} (ht : P.underlying t = some (.slice e)) (hz : ∀ w, (sizeOf e).run P w = .ok sz w) (hx : ev k x = some (.slice A l c)) (hy : ev k y = some (.int q i)) (hj : ev k z = some (.int q' j)) (h0 : 0 ≤ i) (h1 : i ≤ j) (h2 : j ≤ c) :
    Rn P n k w { dst := d, op := .slice t x (some y) (some z) none, type := ty, pos := pos, after := aft, guard := g } (.slice (if c = i.toNat then A else A.map (·.add (i.toNat * sz))) (j.toNat - i.toNat) (c - i.toNat)) :=
  fun a ha => by
    have h3 : 0 ≤ j := by omega
    have h4 : i ≤ (j.toNat : Int) := by omega
    simp [execOp, ha.eval hx, ha.eval hy, ha.eval hj, Instr.sliceAt, Instr.slice, run_underlying ht, Instr.sliceBounds, Instr.sliceBound, asIntOf, h0, h3, h4, h2, hz]
    intro h; omega
end
theorem SlR.sub {S : Nat → Prop} {w : World} {A : Option Addr} {l c : Nat} {cs : List Value} (h : SlR S w A l 1 cs) {i j : Nat} (h1 : i ≤ j) (h2 : j ≤ l) (hc : l ≤ c) : SlR S w (if c = i then A else A.map (·.add (i * 1))) (j - i) 1 ((cs.drop i).take (j - i)) := by
  have hl : cs.length = l := by have := h.len; omega
  refine ⟨by simp; omega, fun h0 => ?_, fun ad had => ?_, fun ad had => ?_⟩
  · obtain ⟨ad, rfl⟩ := h.ne (by omega)
    rw [if_neg (by omega)]; exact ⟨_, rfl⟩
  · intro q v hq
    have hq0 : q < j - i := by
      have := (List.getElem?_eq_some_iff.1 hq).1
      simp at this; omega
    rw [if_neg (by omega)] at had
    obtain ⟨ad', rfl⟩ := h.ne (by omega)
    injection had with had
    subst had
    rw [List.getElem?_take, if_pos hq0, List.getElem?_drop] at hq
    rw [Nat.mul_one, add_add]
    exact h.cells ad' rfl _ v hq
  · split at had
    · exact h.ok ad had
    · cases A with
      | none => cases had
      | some ad' =>
        injection had with had
        subst had
        have := h.ok ad' rfl
        unfold Addr.add
        split <;> exact this
/-- Element i of a row of complex numbers. -/
theorem SlR.getC {S : Nat → Prop} {w : World} {A : Option Addr} {l : Nat} {xs : List CB} (h : SlR S w A l 1 (xs.map cxV)) {i : Int} (h0 : 0 ≤ i) (h1 : i < l) : w.cell? ((sAddr A).add (i.toNat * 1)) = some (.complex .f64 (xs.getD i.toNat (0, 0)).1 (xs.getD i.toNat (0, 0)).2) := SlR.get (f := cxV) h (0, 0) h0 h1
end Go.Tm
namespace Go.Tm
def plusC (x y : Cx) : Cx := (fadd x.1 y.1, fadd x.2 y.2)
def lessC (x y : Cx) : Cx := (fsub x.1 y.1, fsub x.2 y.2)
def mulC (a b : Cx) : Cx := (fsub (fmul a.1 b.1) (fmul a.2 b.2), fadd (fmul a.1 b.2) (fmul a.2 b.1))
def conjC (a : Cx) : Cx := (a.1, fneg a.2)
def timesI (a : Cx) : Cx := (fneg a.2, a.1)
def minusI (a : Cx) : Cx := (a.2, fneg a.1)
def fi (n : Int) : Fl := cn (FloatKind.f64.nearest n)
def overC (a : Cx) (n : Int) : Cx := (fquo a.1 (fi n), fquo a.2 (fi n))
def flyC : List Cx → List Cx
  | [a, b] => [plusC a b, lessC a b]
  | [a, b, c, d] => [plusC (plusC a c) (plusC b d), plusC (lessC a c) (minusI (lessC b d)), lessC (plusC a c) (plusC b d), plusC (lessC a c) (timesI (lessC b d))]
  | l => l
/-- A float, but 0 for -0. -/
def pzB (b : Nat) : Nat := if (Ieee.double.order b 0 == some .eq) = true then 0 else b
/-- Cosine and sine of so many quarters of a turn. -/
def tur : Nat → Nat × Nat
  | 0 => (4607182418800017408, 0)
  | q + 1 => (Op.negFloat .f64 (tur q).2, (tur q).1)
/-- The root w(n, k), where it is a power of minus i. -/
def rootB (n k : Nat) : CB := (pzB (tur (4 * (k % n) / n)).1, pzB (Op.negFloat .f64 (pzB (tur (4 * (k % n) / n)).2)))
def sumC (n k : Nat) (x : Nat → Cx) : Nat → Cx
  | 0 => x 0
  | j + 1 => plusC (sumC n k x j) (if (j + 1) * k % n = 0 then x (j + 1) else mulC (x (j + 1)) (cx (rootB n ((j + 1) * k % n))))
/-- Element k of the transform of n elements by its sum. -/
def directC (n k : Nat) (x : Nat → Cx) : Cx := sumC n k x (n - 1)
abbrev z0 : Cx := cx (0, 0)
/-- So many elements laid in, from place u on, v apart. -/
def putN (c : List Cx) (u v : Nat) (ys : List Cx) : Nat → List Cx
  | 0 => c
  | q + 1 => (putN c u v ys q).set (u + q * v) (ys.getD q z0)
theorem map_getD (xs : List CB) (j : Nat) : (xs.map cx).getD j z0 = cx (xs.getD j (0, 0)) := by
  simp only [List.getD, List.getElem?_map]
  cases xs[j]? <;> rfl
theorem cn_cx (z : CB) : cn z.1 = (cx z).1 ∧ cn z.2 = (cx z).2 := ⟨rfl, rfl⟩
/-- A row that is filled from the left. -/
def rowF (n : Nat) (f : Nat → CB) (j : Nat) : List CB := (List.range j).map f ++ List.replicate (n - j) (0, 0)
theorem rowF_set {n j : Nat} {f : Nat → CB} (h : j < n) : (rowF n f j).set j (f j) = rowF n f (j + 1) := by
  unfold rowF
  obtain ⟨m, hm⟩ : ∃ m, n - j = m + 1 := ⟨n - j - 1, by omega⟩
  rw [hm, show n - (j + 1) = m by omega, List.set_append_right _ _ (by simp), List.range_succ, List.map_append]
  simp [List.replicate_succ]
theorem rowF_zero (n : Nat) (f : Nat → CB) : rowF n f 0 = List.replicate n (0, 0) := by simp [rowF]
theorem rowF_all (n : Nat) (f : Nat → CB) : rowF n f n = (List.range n).map f := by simp [rowF]
theorem range_getD {n e : Nat} {f : Nat → CB} {d : CB} (h : e < n) : ((List.range n).map f).getD e d = f e := by simp [List.getD, h]
theorem sumC_step {n k j : Nat} {X : Nat → Cx} (h : 1 ≤ j) : sumC n k X (j + 1 - 1) = plusC (sumC n k X (j - 1)) (if j * k % n = 0 then X j else mulC (X j) (cx (rootB n (j * k % n)))) := by
  obtain ⟨i, rfl⟩ : ∃ i, j = i + 1 := ⟨j - 1, by omega⟩
  rfl
theorem sum_next {n k j : Nat} {X : Nat → Cx} {a b p q r s : Nat} (h : 1 ≤ j) (hs : cx (a, b) = sumC n k X (j - 1)) (f1 : cn r = fop .add (cn a) (cn p)) (f2 : cn s = fop .add (cn b) (cn q)) (hz : cx (p, q) = if j * k % n = 0 then X j else mulC (X j) (cx (rootB n (j * k % n)))) : cx (r, s) = sumC n k X (j + 1 - 1) := by
  rw [sumC_step h, ← hs, ← hz]
  show (cn r, cn s) = _
  rw [f1, f2]; rfl
/-- An act (of the operations gather, fly and direct). -/
def actC (s : Stp) (i : Nat) (c : List Cx) : List Cx :=
  if s.op = 1 then c.set (s.dst.toNat + i) (c.getD (s.src.toNat + i * s.jump.toNat) z0)
  else if s.op = 5 then putN c (s.dst.toNat + i) s.jump.toNat (flyC ((List.range s.n.toNat).map fun q => c.getD (s.dst.toNat + i + q * s.jump.toNat) z0)) s.n.toNat
  else if s.op = 6 then c.set (s.dst.toNat + i) (directC s.n.toNat i fun j => c.getD (s.src.toNat + j * s.jump.toNat) z0)
  else c
/-- A step's first acts. -/
def actsC (s : Stp) (c : List Cx) : Nat → List Cx
  | 0 => c
  | i + 1 => actC s i (actsC s c i)
def runC (l : List Stp) (c : List Cx) : List Cx := l.foldl (fun c s => actsC s c s.count.toNat) c
theorem runC_take {L : List Stp} {j : Nat} {s : Stp} (h : L[j]? = some s) (c : List Cx) : runC (L.take (j + 1)) c = actsC s (runC (L.take j) c) s.count.toNat := by
  rw [List.take_add_one, h]; simp [runC]
def cntS : List Stp → Int
  | [] => 0
  | s :: t => s.count + cntS t
theorem cntS_drop {L : List Stp} {j : Nat} {s : Stp} (h : L[j]? = some s) : cntS (L.drop j) = s.count + cntS (L.drop (j + 1)) := by
  rw [← List.cons_getElem?_drop_succ' h]; rfl
/-- A step that the machine can do on N cells, of the operations gather, fly (2, 4) and direct (1, 2, 4). -/
def StepOk (s : Stp) (N : Nat) : Prop := 1 ≤ s.count ∧ s.count ≤ 1000000 ∧ 0 ≤ s.dst ∧ 0 ≤ s.src ∧ 1 ≤ s.jump ∧ s.jump ≤ 1000000 ∧ ((s.op = 1 ∧ s.dst + s.count ≤ N ∧ s.src + (s.count - 1) * s.jump < N) ∨ (s.op = 5 ∧ (s.n = 2 ∨ s.n = 4) ∧ s.dst + s.count - 1 + (s.n - 1) * s.jump < N) ∨ (s.op = 6 ∧ (s.n = 1 ∨ s.n = 2 ∨ s.n = 4) ∧ s.count ≤ s.n ∧ s.dst + s.count ≤ N ∧ s.src + (s.n - 1) * s.jump < N))
instance (s : Stp) (N : Nat) : Decidable (StepOk s N) := by unfold StepOk; infer_instance
theorem StepOk.op {s : Stp} {N : Nat} (h : StepOk s N) : s.op = 1 ∨ s.op = 5 ∨ s.op = 6 := by
  rcases h.2.2.2.2.2.2 with h | h | h
  · exact .inl h.1
  · exact .inr (.inl h.1)
  · exact .inr (.inr h.1)
theorem cntS_pos {L : List Stp} {N : Nat} (h : ∀ s ∈ L, StepOk s N) : 0 ≤ cntS L ∧ (cntS L = 0 → L = []) := by
  induction L with
  | nil => exact ⟨Int.le_refl _, fun _ => rfl⟩
  | cons s t ih =>
    have h1 := ih fun x hx => h x (List.mem_cons_of_mem _ hx)
    have h2 := (h s (List.mem_cons_self ..)).1
    exact ⟨by show 0 ≤ s.count + cntS t; omega, fun e => by have : s.count + cntS t = 0 := e; omega⟩
theorem mul_leN {a b v c : Nat} (h : a ≤ b) (hb : b * v ≤ c) : a * v ≤ c := Nat.le_trans (Nat.mul_le_mul_right v h) hb
theorem cntS_drop_le {L : List Stp} {N : Nat} (h : ∀ s ∈ L, StepOk s N) (j : Nat) : 0 ≤ cntS (L.drop j) ∧ cntS (L.drop j) ≤ cntS L := by
  refine ⟨(cntS_pos fun s hs => h s (List.mem_of_mem_drop hs)).1, ?_⟩
  induction L generalizing j with
  | nil => simp
  | cons s t ih =>
    cases j with
    | zero => exact Int.le_refl _
    | succ j =>
      have h1 := ih (fun x hx => h x (List.mem_cons_of_mem _ hx)) j
      have h2 := (h s (List.mem_cons_self ..)).1
      show cntS (t.drop j) ≤ s.count + cntS t
      omega
theorem cntS_some {L : List Stp} {j : Nat} (h : 0 < cntS (L.drop j)) : ∃ s, L[j]? = some s := by
  by_cases hj : j < L.length
  · exact ⟨_, List.getElem?_eq_getElem hj⟩
  · rw [List.drop_of_length_le (by omega)] at h
    exact absurd h (by decide)
theorem cntS_all {L : List Stp} {N j : Nat} (h : ∀ s ∈ L, StepOk s N) (h0 : cntS (L.drop j) = 0) : L.take j = L ∧ L.length ≤ j := by
  have h1 := (cntS_pos fun s hs => h s (List.mem_of_mem_drop hs)).2 h0
  have h2 : L.length ≤ j := by
    have := congrArg List.length h1
    simp at this; omega
  exact ⟨List.take_of_length_le h2, h2⟩
end Go.Tm
namespace Go.Tm
open Go.RowKit Go.Proofs
/-- What the closure of direct.At holds. -/
structure AtR (S : Nat → Prop) (w : World) (p5 p6 p7 : Nat) (A : Option Addr) (l c : Nat) (xs : List CB) (u v : Nat) : Prop where
  b5 : Bk w p5 #[.slice A l c] 39
  b6 : Bk w p6 #[.int .i64 u] 3
  b7 : Bk w p7 #[.int .i64 v] 3
  sl : SlR S w A l 1 (xs.map cxV)
theorem AtR.keep {S : Nat → Prop} {w w' : World} {p5 p6 p7 : Nat} {A : Option Addr} {l c : Nat} {xs : List CB} {u v : Nat} (h : AtR S w p5 p6 p7 A l c xs u v) (m : Ch No w w') : AtR S w' p5 p6 p7 A l c xs u v := ⟨h.b5.keep m, h.b6.keep m, h.b7.keep m, h.sl.keep m⟩
abbrev XX (xs : List CB) (u v : Nat) : Nat → Cx := fun i => cx (xs.getD (u + i * v) (0, 0))

set_option maxRecDepth 100000 in
theorem inf53w40 : Inf Tryz.prog 53 (.complex .f64 0 0) 1 16 := ⟨Tryz.t53, Tryz.type53, rfl, rfl, rfl⟩
theorem bld238_0_1w40 {v0 v1 : Value} (h : [v0, v1].all Value.oneCell' = true) (w : World) : (Instr.build 238 ([(0, v0), (1, v1)] : List (Nat × Value)).toArray).run Tryz.prog w = .ok (.agg #[v0, v1]) w := by
  simp only [List.all_cons, Bool.and_eq_true, List.all_nil, and_true] at h
  have hv0 := oneCell_cells (v := v0) (by simp_all)
  have hv1 := oneCell_cells (v := v1) (by simp_all)
  have h1 := fill_set (fun i => some (i * 1, 1)) [(0, v0), (1, v1)] [.complex .f64 0 0, .complex .f64 0 0] (by simp [okF, agg_cells, hv0, hv1, Nat.beq, Nat.ble])
  simp [setF, agg_cells, hv0, hv1] at h1
  simp [Instr.build, Tryz.runUnderlying238, Tryz.zeroValue238, Tryz.sizeOf53, agg_cells, h1]
theorem bld242_0_1_2_3w40 {v0 v1 v2 v3 : Value} (h : [v0, v1, v2, v3].all Value.oneCell' = true) (w : World) : (Instr.build 242 ([(0, v0), (1, v1), (2, v2), (3, v3)] : List (Nat × Value)).toArray).run Tryz.prog w = .ok (.agg #[v0, v1, v2, v3]) w := by
  simp only [List.all_cons, Bool.and_eq_true, List.all_nil, and_true] at h
  have hv0 := oneCell_cells (v := v0) (by simp_all)
  have hv1 := oneCell_cells (v := v1) (by simp_all)
  have hv2 := oneCell_cells (v := v2) (by simp_all)
  have hv3 := oneCell_cells (v := v3) (by simp_all)
  have h1 := fill_set (fun i => some (i * 1, 1)) [(0, v0), (1, v1), (2, v2), (3, v3)] [.complex .f64 0 0, .complex .f64 0 0, .complex .f64 0 0, .complex .f64 0 0] (by simp [okF, agg_cells, hv0, hv1, hv2, hv3, Nat.beq, Nat.ble])
  simp [setF, agg_cells, hv0, hv1, hv2, hv3] at h1
  simp [Instr.build, Tryz.runUnderlying242, Tryz.zeroValue242, Tryz.sizeOf53, agg_cells, h1]
set_option maxRecDepth 100000 in
theorem fly_plus (a b c d : Nat) (w : World) :
    Calls Tryz.prog 221 #[.complex .f64 a b, .complex .f64 c d] w (Ret (fun v w' => ∃ p q, v = .complex .f64 p q ∧ cx (p, q) = plusC (cx (a, b)) (cx (c, d)) ∧ Ch No w w')) := by
  refine calls_of_VC (args := [.complex .f64 a b, .complex .f64 c d]) Tryz.func221 rfl Tryz.ntmps221 rfl (VC.seq (VC.region (VO.mv (Rn.assign rfl) rfl rfl rfl (VO.nil (VQ.then_code (VC.seq (VC.region ?_)))))))
  refine VO.mv (Rn.move rfl) rfl rfl rfl (VO.mv (Rn.real rfl) rfl rfl rfl (VO.mv (Rn.move rfl) rfl rfl rfl (VO.mv (Rn.real rfl) rfl rfl rfl (VO.wk (Wk.fbin (.inl rfl) rfl rfl) rfl rfl rfl ?_))))
  rintro _ w1 ⟨r1, rfl, f1, c1⟩
  have z1 := c1.size
  refine VO.mv (Rn.move rfl) rfl rfl rfl (VO.mv (Rn.imag rfl) rfl rfl rfl (VO.mv (Rn.move rfl) rfl rfl rfl (VO.mv (Rn.imag rfl) rfl rfl rfl (VO.wk (Wk.fbin (.inl rfl) rfl rfl) rfl rfl rfl ?_))))
  rintro _ w2 ⟨r2, rfl, f2, c2⟩
  have z2 := c2.size
  refine VO.mv (Rn.complex rfl rfl) rfl rfl rfl (VO.mv (Rn.assign rfl) rfl rfl rfl (VO.nil (VQ.then_code (VC.ret (VQ.ret1 rfl rfl (Ret.mk ?_))))))
  have CH_2 := (Ch.refl (No) w).and (c1.trans c2)
  exact ⟨_, _, rfl, (by show (cn _, cn _) = _; rw [f1, f2]; rfl), CH_2⟩

set_option maxRecDepth 100000 in
theorem fly_less (a b c d : Nat) (w : World) :
    Calls Tryz.prog 222 #[.complex .f64 a b, .complex .f64 c d] w (Ret (fun v w' => ∃ p q, v = .complex .f64 p q ∧ cx (p, q) = lessC (cx (a, b)) (cx (c, d)) ∧ Ch No w w')) := by
  refine calls_of_VC (args := [.complex .f64 a b, .complex .f64 c d]) Tryz.func222 rfl Tryz.ntmps222 rfl (VC.seq (VC.region (VO.mv (Rn.assign rfl) rfl rfl rfl (VO.nil (VQ.then_code (VC.seq (VC.region ?_)))))))
  refine VO.mv (Rn.move rfl) rfl rfl rfl (VO.mv (Rn.real rfl) rfl rfl rfl (VO.mv (Rn.move rfl) rfl rfl rfl (VO.mv (Rn.real rfl) rfl rfl rfl (VO.wk (Wk.fbin (.inr (.inl rfl)) rfl rfl) rfl rfl rfl ?_))))
  rintro _ w1 ⟨r1, rfl, f1, c1⟩
  have z1 := c1.size
  refine VO.mv (Rn.move rfl) rfl rfl rfl (VO.mv (Rn.imag rfl) rfl rfl rfl (VO.mv (Rn.move rfl) rfl rfl rfl (VO.mv (Rn.imag rfl) rfl rfl rfl (VO.wk (Wk.fbin (.inr (.inl rfl)) rfl rfl) rfl rfl rfl ?_))))
  rintro _ w2 ⟨r2, rfl, f2, c2⟩
  have z2 := c2.size
  refine VO.mv (Rn.complex rfl rfl) rfl rfl rfl (VO.mv (Rn.assign rfl) rfl rfl rfl (VO.nil (VQ.then_code (VC.ret (VQ.ret1 rfl rfl (Ret.mk ?_))))))
  have CH_2 := (Ch.refl (No) w).and (c1.trans c2)
  exact ⟨_, _, rfl, (by show (cn _, cn _) = _; rw [f1, f2]; rfl), CH_2⟩

set_option maxRecDepth 100000 in
theorem cplx_Mul (a b c d : Nat) (w : World) :
    Calls Tryz.prog 59 #[.complex .f64 a b, .complex .f64 c d] w (Ret (fun v w' => ∃ p q, v = .complex .f64 p q ∧ cx (p, q) = mulC (cx (a, b)) (cx (c, d)) ∧ Ch No w w')) := by
  refine calls_of_VC (args := [.complex .f64 a b, .complex .f64 c d]) Tryz.func59 rfl Tryz.ntmps59 rfl (VC.seq (VC.region (VO.mv (Rn.assign rfl) rfl rfl rfl (VO.nil (VQ.then_code (VC.seq (VC.region ?_)))))))
  refine VO.mv (Rn.move rfl) rfl rfl rfl (VO.mv (Rn.real rfl) rfl rfl rfl (VO.mv (Rn.move rfl) rfl rfl rfl (VO.mv (Rn.imag rfl) rfl rfl rfl (VO.mv (Rn.move rfl) rfl rfl rfl (VO.mv (Rn.real rfl) rfl rfl rfl (VO.mv (Rn.move rfl) rfl rfl rfl (VO.mv (Rn.imag rfl) rfl rfl rfl ?_)))))))
  refine VO.mv (Rn.assign rfl) rfl rfl rfl (VO.mv (Rn.assign rfl) rfl rfl rfl (VO.mv (Rn.assign rfl) rfl rfl rfl (VO.mv (Rn.assign rfl) rfl rfl rfl (VO.nil (VQ.then_code (VC.seq (VC.region ?_)))))))
  refine VO.mv (Rn.move rfl) rfl rfl rfl (VO.mv (Rn.move rfl) rfl rfl rfl (VO.wk (Wk.fbin (.inr (.inr (.inl rfl))) rfl rfl) rfl rfl rfl ?_))
  rintro _ w1 ⟨r1, rfl, f1, c1⟩
  have z1 := c1.size
  refine VO.mv (Rn.move rfl) rfl rfl rfl (VO.mv (Rn.move rfl) rfl rfl rfl (VO.wk (Wk.fbin (.inr (.inr (.inl rfl))) rfl rfl) rfl rfl rfl ?_))
  rintro _ w2 ⟨r2, rfl, f2, c2⟩
  have z2 := c2.size
  refine VO.wk (Wk.fbin (.inr (.inl rfl)) rfl rfl) rfl rfl rfl ?_
  rintro _ w3 ⟨r3, rfl, f3, c3⟩
  have z3 := c3.size
  refine VO.mv (Rn.move rfl) rfl rfl rfl (VO.mv (Rn.move rfl) rfl rfl rfl (VO.wk (Wk.fbin (.inr (.inr (.inl rfl))) rfl rfl) rfl rfl rfl ?_))
  rintro _ w4 ⟨r4, rfl, f4, c4⟩
  have z4 := c4.size
  refine VO.mv (Rn.move rfl) rfl rfl rfl (VO.mv (Rn.move rfl) rfl rfl rfl (VO.wk (Wk.fbin (.inr (.inr (.inl rfl))) rfl rfl) rfl rfl rfl ?_))
  rintro _ w5 ⟨r5, rfl, f5, c5⟩
  have z5 := c5.size
  refine VO.wk (Wk.fbin (.inl rfl) rfl rfl) rfl rfl rfl ?_
  rintro _ w6 ⟨r6, rfl, f6, c6⟩
  have z6 := c6.size
  refine VO.mv (Rn.complex rfl rfl) rfl rfl rfl (VO.mv (Rn.assign rfl) rfl rfl rfl (VO.nil (VQ.then_code (VC.ret (VQ.ret1 rfl rfl (Ret.mk ?_))))))
  have CH_6 := (Ch.refl (No) w).and (c1.trans (c2.trans (c3.trans (c4.trans (c5.trans c6)))))
  exact ⟨_, _, rfl, (by show (cn _, cn _) = _; rw [f3, f6, f1, f2, f4, f5]; rfl), CH_6⟩

set_option maxRecDepth 100000 in
theorem cplx_Conj (a b : Nat) (w : World) :
    Calls Tryz.prog 47 #[.complex .f64 a b] w (Ret (fun v w' => ∃ p q, v = .complex .f64 p q ∧ cx (p, q) = conjC (cx (a, b)) ∧ Ch No w w')) := by
  refine calls_of_VC (args := [.complex .f64 a b]) Tryz.func47 rfl Tryz.ntmps47 rfl (VC.seq (VC.region (VO.mv (Rn.assign rfl) rfl rfl rfl (VO.nil (VQ.then_code (VC.seq (VC.region ?_)))))))
  refine VO.mv (Rn.move rfl) rfl rfl rfl (VO.mv (Rn.real rfl) rfl rfl rfl (VO.mv (Rn.move rfl) rfl rfl rfl (VO.mv (Rn.imag rfl) rfl rfl rfl (VO.mv (Rn.fneg rfl) rfl rfl rfl (VO.mv (Rn.complex rfl rfl) rfl rfl rfl (VO.mv (Rn.assign rfl) rfl rfl rfl (VO.nil ?_)))))))
  refine VQ.then_code (VC.ret (VQ.ret1 rfl rfl (Ret.mk ?_)))
  exact ⟨_, _, rfl, (by show (cn _, cn _) = _; rw [cn_neg]; rfl), (Ch.refl (No) w)⟩

set_option maxRecDepth 100000 in
theorem cplx_TimesI (a b : Nat) (w : World) :
    Calls Tryz.prog 52 #[.complex .f64 a b] w (Ret (fun v w' => ∃ p q, v = .complex .f64 p q ∧ cx (p, q) = timesI (cx (a, b)) ∧ Ch No w w')) := by
  refine calls_of_VC (args := [.complex .f64 a b]) Tryz.func52 rfl Tryz.ntmps52 rfl (VC.seq (VC.region (VO.mv (Rn.assign rfl) rfl rfl rfl (VO.nil (VQ.then_code (VC.seq (VC.region ?_)))))))
  refine VO.mv (Rn.move rfl) rfl rfl rfl (VO.mv (Rn.imag rfl) rfl rfl rfl (VO.mv (Rn.fneg rfl) rfl rfl rfl (VO.mv (Rn.move rfl) rfl rfl rfl (VO.mv (Rn.real rfl) rfl rfl rfl (VO.mv (Rn.complex rfl rfl) rfl rfl rfl (VO.mv (Rn.assign rfl) rfl rfl rfl (VO.nil ?_)))))))
  refine VQ.then_code (VC.ret (VQ.ret1 rfl rfl (Ret.mk ?_)))
  exact ⟨_, _, rfl, (by show (cn _, cn _) = _; rw [cn_neg]; rfl), (Ch.refl (No) w)⟩

set_option maxRecDepth 100000 in
theorem cplx_MinusI (a b : Nat) (w : World) :
    Calls Tryz.prog 49 #[.complex .f64 a b] w (Ret (fun v w' => ∃ p q, v = .complex .f64 p q ∧ cx (p, q) = minusI (cx (a, b)) ∧ Ch No w w')) := by
  refine calls_of_VC (args := [.complex .f64 a b]) Tryz.func49 rfl Tryz.ntmps49 rfl (VC.seq (VC.region (VO.mv (Rn.assign rfl) rfl rfl rfl (VO.nil (VQ.then_code (VC.seq (VC.region ?_)))))))
  refine VO.mv (Rn.move rfl) rfl rfl rfl (VO.mv (Rn.imag rfl) rfl rfl rfl (VO.mv (Rn.move rfl) rfl rfl rfl (VO.mv (Rn.real rfl) rfl rfl rfl (VO.mv (Rn.fneg rfl) rfl rfl rfl (VO.mv (Rn.complex rfl rfl) rfl rfl rfl (VO.mv (Rn.assign rfl) rfl rfl rfl (VO.nil ?_)))))))
  refine VQ.then_code (VC.ret (VQ.ret1 rfl rfl (Ret.mk ?_)))
  exact ⟨_, _, rfl, (by show (cn _, cn _) = _; rw [cn_neg]; rfl), (Ch.refl (No) w)⟩

set_option maxRecDepth 100000 in
theorem cplx_Over (a b : Nat) (m : Int) (w : World) :
    Calls Tryz.prog 111 #[.complex .f64 a b, .int .i64 m] w (Ret (fun v w' => ∃ p q, v = .complex .f64 p q ∧ cx (p, q) = overC (cx (a, b)) m ∧ Ch No w w')) := by
  refine calls_of_VC (args := [.complex .f64 a b, .int .i64 m]) Tryz.func111 rfl Tryz.ntmps111 rfl (VC.seq (VC.region (VO.mv (Rn.assign rfl) rfl rfl rfl (VO.nil (VQ.then_code (VC.seq (VC.region ?_)))))))
  refine VO.mv (Rn.move rfl) rfl rfl rfl (VO.mv (Rn.conv_if Tryz.underlying3 Tryz.underlying25 rfl) rfl rfl rfl (VO.mv (Rn.assign rfl) rfl rfl rfl (VO.nil (VQ.then_code (VC.seq (VC.region (VO.mv (Rn.move rfl) rfl rfl rfl ?_)))))))
  refine VO.mv (Rn.real rfl) rfl rfl rfl (VO.mv (Rn.move rfl) rfl rfl rfl (VO.wk (Wk.fbin (.inr (.inr (.inr rfl))) rfl rfl) rfl rfl rfl ?_))
  rintro _ w1 ⟨r1, rfl, f1, c1⟩
  have z1 := c1.size
  refine VO.mv (Rn.move rfl) rfl rfl rfl (VO.mv (Rn.imag rfl) rfl rfl rfl (VO.mv (Rn.move rfl) rfl rfl rfl (VO.wk (Wk.fbin (.inr (.inr (.inr rfl))) rfl rfl) rfl rfl rfl ?_)))
  rintro _ w2 ⟨r2, rfl, f2, c2⟩
  have z2 := c2.size
  refine VO.mv (Rn.complex rfl rfl) rfl rfl rfl (VO.mv (Rn.assign rfl) rfl rfl rfl (VO.nil (VQ.then_code (VC.ret (VQ.ret1 rfl rfl (Ret.mk ?_))))))
  have CH_2 := (Ch.refl (No) w).and (c1.trans c2)
  exact ⟨_, _, rfl, (by show (cn _, cn _) = _; rw [f1, f2]; rfl), CH_2⟩

set_option maxRecDepth 100000 in
theorem fly_Two (x y : CB) (w : World) :
    Calls Tryz.prog 193 #[.agg #[.complex .f64 x.1 x.2, .complex .f64 y.1 y.2]] w (Ret (fun v w' => ∃ a b : CB, v = .agg #[cxV a, cxV b] ∧ [cx a, cx b] = flyC [cx x, cx y] ∧ Ch No w w')) := by
  refine calls_of_VC (args := [.agg #[.complex .f64 x.1 x.2, .complex .f64 y.1 y.2]]) Tryz.func193 rfl Tryz.ntmps193 rfl (VC.seq (VC.region (VO.wk (Wk.box rfl) rfl rfl rfl ?_)))
  rintro _ w1 ⟨p1, rfl, N1⟩
  have c1 := N1.ch
  have e1 := N1.p; have z1 := N1.size
  have b1 := Bk.new N1
  refine VO.wk (Wk.alloc Tryz.zeroValue238) rfl rfl rfl ?_
  rintro _ w2 ⟨p2, rfl, N2⟩
  have c2 := N2.ch
  have e2 := N2.p; have z2 := N2.size
  have b2 := Bk.new N2
  refine VO.nil (VQ.then_code (VC.seq (VC.draws 11 [(0, true), (1, true), (2, true), (3, true), (5, true), (6, true), (7, true), (8, true), (4, false), (9, false), (10, true)] (fun w1 w' => Ch (No) w1 w') mixed (by kernel_rfl) (fun _ _ => Ch.refl _ _) ?_)))
  intro w3 D3
  have c3 := Ch.of_drew D3; have z3 := c3.size
  have b1_3 := b1.keep (c2.trans c3)
  have b2_3 := b2.keep c3
  refine VH.mv (fun w' hS => Rn.indexArrL (o' := 0) Tryz.underlying238 Tryz.sizeOf53 rfl rfl (by decide) (by decide) rfl) rfl rfl rfl rfl (VH.mv (fun w' hS => Rn.load Tryz.isAgg53 rfl ((b1_3.keep hS).cell rfl)) rfl rfl rfl rfl (VH.mv (fun w' hS => Rn.indexArrL (o' := 1) Tryz.underlying238 Tryz.sizeOf53 rfl rfl (by decide) (by decide) rfl) rfl rfl rfl rfl (VH.mv (fun w' hS => Rn.load Tryz.isAgg53 rfl ((b1_3.keep hS).cell rfl)) rfl rfl rfl rfl (VH.mv (fun w' hS => Rn.indexArrL (o' := 0) Tryz.underlying238 Tryz.sizeOf53 rfl rfl (by decide) (by decide) rfl) rfl rfl rfl rfl (VH.mv (fun w' hS => Rn.load Tryz.isAgg53 rfl ((b1_3.keep hS).cell rfl)) rfl rfl rfl rfl (VH.mv (fun w' hS => Rn.indexArrL (o' := 1) Tryz.underlying238 Tryz.sizeOf53 rfl rfl (by decide) (by decide) rfl) rfl rfl rfl rfl (VH.mv (fun w' hS => Rn.load Tryz.isAgg53 rfl ((b1_3.keep hS).cell rfl)) rfl rfl rfl rfl ?_)))))))
  refine VH.wk (Wk.call Tryz.call221 rfl (fly_plus _ _ _ _ _)) rfl rfl rfl rfl ?_
  rintro _ w4 ⟨p4, q4, rfl, F4, c4⟩
  have z4 := c4.size
  have RD_4 := (Ch.refl (No) w3).and c4
  refine ⟨RD_4, ?_⟩
  refine VH.wk (Wk.call Tryz.call222 rfl (fly_less _ _ _ _ _)) rfl rfl rfl rfl ?_
  rintro _ w5 ⟨p5, q5, rfl, F5, c5⟩
  have z5 := c5.size
  have RD_5 := RD_4.and c5
  refine ⟨RD_5, ?_⟩
  refine VH.mv (fun w' hS => Rn.build rfl (bld238_0_1w40 rfl)) rfl rfl rfl rfl (VH.done ?_)
  have b2_5 := b2_3.keep (c4.trans c5)
  refine VO.wk0 (Wk.puts Tryz.sizeOf238 rfl rfl rfl rfl b2_5 (Nat.le_of_ble_eq_true rfl)) rfl rfl ?_
  intro _ w6 Z6
  have c6 := Z6.ch; have z6 := Z6.size
  have b2_6 := Bk.put Z6
  refine VO.nil (VQ.noPanic (VQ.then_code (VC.ret (VQ.retc rfl rfl Tryz.isAgg238 Tryz.sizeOf238 rfl (b2_6.all' rfl) (Ret.mk ?_)))))
  have cc_0_6 : Ch No w w6 := (Ch.then (E := No) ((((c1.and c2).and c3).and c4).and c5) c6 (by intro q h1 h2; rcases h2 with h2 | h2 <;> first | exact h2 | (exfalso; omega)))
  have CH_6 := (Ch.refl (No) w).and cc_0_6
  exact ⟨(_, _), (_, _), rfl, (by rw [F4, F5]; rfl), CH_6⟩

set_option maxRecDepth 100000 in
theorem fly_Four (x y u v : CB) (w : World) :
    Calls Tryz.prog 195 #[.agg #[.complex .f64 x.1 x.2, .complex .f64 y.1 y.2, .complex .f64 u.1 u.2, .complex .f64 v.1 v.2]] w (Ret (fun r w' => ∃ a b c d : CB, r = .agg #[cxV a, cxV b, cxV c, cxV d] ∧ [cx a, cx b, cx c, cx d] = flyC [cx x, cx y, cx u, cx v] ∧ Ch No w w')) := by
  refine calls_of_VC (args := [.agg #[.complex .f64 x.1 x.2, .complex .f64 y.1 y.2, .complex .f64 u.1 u.2, .complex .f64 v.1 v.2]]) Tryz.func195 rfl Tryz.ntmps195 rfl (VC.seq (VC.region (VO.wk (Wk.box rfl) rfl rfl rfl ?_)))
  rintro _ w1 ⟨p1, rfl, N1⟩
  have c1 := N1.ch
  have e1 := N1.p; have z1 := N1.size
  have b1 := Bk.new N1
  refine VO.wk (Wk.alloc Tryz.zeroValue242) rfl rfl rfl ?_
  rintro _ w2 ⟨p2, rfl, N2⟩
  have c2 := N2.ch
  have e2 := N2.p; have z2 := N2.size
  have b2 := Bk.new N2
  refine VO.nil (VQ.then_code (VC.seq (VC.draws 11 [(0, true), (1, true), (2, true), (3, true), (5, true), (6, true), (7, true), (8, true), (4, false), (9, false), (10, true)] (fun w1 w' => Ch (No) w1 w') mixed (by kernel_rfl) (fun _ _ => Ch.refl _ _) ?_)))
  intro w3 D3
  have c3 := Ch.of_drew D3; have z3 := c3.size
  have b1_3 := b1.keep (c2.trans c3)
  have b2_3 := b2.keep c3
  refine VH.mv (fun w' hS => Rn.indexArrL (o' := 0) Tryz.underlying242 Tryz.sizeOf53 rfl rfl (by decide) (by decide) rfl) rfl rfl rfl rfl (VH.mv (fun w' hS => Rn.load Tryz.isAgg53 rfl ((b1_3.keep hS).cell rfl)) rfl rfl rfl rfl (VH.mv (fun w' hS => Rn.indexArrL (o' := 2) Tryz.underlying242 Tryz.sizeOf53 rfl rfl (by decide) (by decide) rfl) rfl rfl rfl rfl (VH.mv (fun w' hS => Rn.load Tryz.isAgg53 rfl ((b1_3.keep hS).cell rfl)) rfl rfl rfl rfl (VH.mv (fun w' hS => Rn.indexArrL (o' := 0) Tryz.underlying242 Tryz.sizeOf53 rfl rfl (by decide) (by decide) rfl) rfl rfl rfl rfl (VH.mv (fun w' hS => Rn.load Tryz.isAgg53 rfl ((b1_3.keep hS).cell rfl)) rfl rfl rfl rfl (VH.mv (fun w' hS => Rn.indexArrL (o' := 2) Tryz.underlying242 Tryz.sizeOf53 rfl rfl (by decide) (by decide) rfl) rfl rfl rfl rfl (VH.mv (fun w' hS => Rn.load Tryz.isAgg53 rfl ((b1_3.keep hS).cell rfl)) rfl rfl rfl rfl ?_)))))))
  refine VH.wk (Wk.call Tryz.call221 rfl (fly_plus _ _ _ _ _)) rfl rfl rfl rfl ?_
  rintro _ w4 ⟨p4, q4, rfl, F4, c4⟩
  have z4 := c4.size
  have RD_4 := (Ch.refl (No) w3).and c4
  refine ⟨RD_4, ?_⟩
  refine VH.wk (Wk.call Tryz.call222 rfl (fly_less _ _ _ _ _)) rfl rfl rfl rfl ?_
  rintro _ w5 ⟨p5, q5, rfl, F5, c5⟩
  have z5 := c5.size
  have RD_5 := RD_4.and c5
  refine ⟨RD_5, ?_⟩
  refine VH.mv (fun w' hS => Rn.assign rfl) rfl rfl rfl rfl (VH.done (VO.mv (Rn.assign rfl) rfl rfl rfl (VO.nil (VQ.noPanic (VQ.then_code (VC.seq (VC.draws 11 [(0, true), (1, true), (2, true), (3, true), (5, true), (6, true), (7, true), (8, true), (4, false), (9, false), (10, true)] (fun w1 w' => Ch (No) w1 w') mixed (by kernel_rfl) (fun _ _ => Ch.refl _ _) ?_)))))))
  intro w6 D6
  have c6 := Ch.of_drew D6; have z6 := c6.size
  have b1_6 := b1_3.keep (c4.trans (c5.trans c6))
  have b2_6 := b2_3.keep (c4.trans (c5.trans c6))
  refine VH.mv (fun w' hS => Rn.indexArrL (o' := 1) Tryz.underlying242 Tryz.sizeOf53 rfl rfl (by decide) (by decide) rfl) rfl rfl rfl rfl (VH.mv (fun w' hS => Rn.load Tryz.isAgg53 rfl ((b1_6.keep hS).cell rfl)) rfl rfl rfl rfl (VH.mv (fun w' hS => Rn.indexArrL (o' := 3) Tryz.underlying242 Tryz.sizeOf53 rfl rfl (by decide) (by decide) rfl) rfl rfl rfl rfl (VH.mv (fun w' hS => Rn.load Tryz.isAgg53 rfl ((b1_6.keep hS).cell rfl)) rfl rfl rfl rfl (VH.mv (fun w' hS => Rn.indexArrL (o' := 1) Tryz.underlying242 Tryz.sizeOf53 rfl rfl (by decide) (by decide) rfl) rfl rfl rfl rfl (VH.mv (fun w' hS => Rn.load Tryz.isAgg53 rfl ((b1_6.keep hS).cell rfl)) rfl rfl rfl rfl (VH.mv (fun w' hS => Rn.indexArrL (o' := 3) Tryz.underlying242 Tryz.sizeOf53 rfl rfl (by decide) (by decide) rfl) rfl rfl rfl rfl (VH.mv (fun w' hS => Rn.load Tryz.isAgg53 rfl ((b1_6.keep hS).cell rfl)) rfl rfl rfl rfl ?_)))))))
  refine VH.wk (Wk.call Tryz.call221 rfl (fly_plus _ _ _ _ _)) rfl rfl rfl rfl ?_
  rintro _ w7 ⟨p7, q7, rfl, F7, c7⟩
  have z7 := c7.size
  have RD_7 := (Ch.refl (No) w6).and c7
  refine ⟨RD_7, ?_⟩
  refine VH.wk (Wk.call Tryz.call222 rfl (fly_less _ _ _ _ _)) rfl rfl rfl rfl ?_
  rintro _ w8 ⟨p8, q8, rfl, F8, c8⟩
  have z8 := c8.size
  have RD_8 := RD_7.and c8
  refine ⟨RD_8, ?_⟩
  refine VH.mv (fun w' hS => Rn.assign rfl) rfl rfl rfl rfl (VH.done (VO.mv (Rn.assign rfl) rfl rfl rfl (VO.nil (VQ.noPanic (VQ.then_code (VC.seq (VC.region ?_)))))))
  refine VO.mv (Rn.move rfl) rfl rfl rfl (VO.mv (Rn.move rfl) rfl rfl rfl (VO.wk (Wk.call Tryz.call221 rfl (fly_plus _ _ _ _ _)) rfl rfl rfl ?_))
  rintro _ w9 ⟨p9, q9, rfl, F9, c9⟩
  have z9 := c9.size
  refine VO.mv (Rn.move rfl) rfl rfl rfl (VO.mv (Rn.move rfl) rfl rfl rfl (VO.wk (Wk.call Tryz.call49 rfl (cplx_MinusI _ _ _)) rfl rfl rfl ?_))
  rintro _ w10 ⟨p10, q10, rfl, F10, c10⟩
  have z10 := c10.size
  refine VO.wk (Wk.call Tryz.call221 rfl (fly_plus _ _ _ _ _)) rfl rfl rfl ?_
  rintro _ w11 ⟨p11, q11, rfl, F11, c11⟩
  have z11 := c11.size
  refine VO.mv (Rn.move rfl) rfl rfl rfl (VO.mv (Rn.move rfl) rfl rfl rfl (VO.wk (Wk.call Tryz.call222 rfl (fly_less _ _ _ _ _)) rfl rfl rfl ?_))
  rintro _ w12 ⟨p12, q12, rfl, F12, c12⟩
  have z12 := c12.size
  refine VO.mv (Rn.move rfl) rfl rfl rfl (VO.mv (Rn.move rfl) rfl rfl rfl (VO.wk (Wk.call Tryz.call52 rfl (cplx_TimesI _ _ _)) rfl rfl rfl ?_))
  rintro _ w13 ⟨p13, q13, rfl, F13, c13⟩
  have z13 := c13.size
  refine VO.wk (Wk.call Tryz.call221 rfl (fly_plus _ _ _ _ _)) rfl rfl rfl ?_
  rintro _ w14 ⟨p14, q14, rfl, F14, c14⟩
  have z14 := c14.size
  refine VO.mv (Rn.build rfl (bld242_0_1_2_3w40 rfl)) rfl rfl rfl ?_
  have b2_14 := b2_6.keep (c7.trans (c8.trans (c9.trans (c10.trans (c11.trans (c12.trans (c13.trans c14)))))))
  refine VO.wk0 (Wk.puts Tryz.sizeOf242 rfl rfl rfl rfl b2_14 (Nat.le_of_ble_eq_true rfl)) rfl rfl ?_
  intro _ w15 Z15
  have c15 := Z15.ch; have z15 := Z15.size
  have b2_15 := Bk.put Z15
  refine VO.nil (VQ.then_code (VC.ret (VQ.retc rfl rfl Tryz.isAgg242 Tryz.sizeOf242 rfl (b2_15.all' rfl) (Ret.mk ?_))))
  have cc_0_15 : Ch No w w15 := (Ch.then (E := No) (((((((((((((c1.and c2).and c3).and c4).and c5).and c6).and c7).and c8).and c9).and c10).and c11).and c12).and c13).and c14) c15 (by intro q h1 h2; rcases h2 with h2 | h2 <;> first | exact h2 | (exfalso; omega)))
  have CH_15 := (Ch.refl (No) w).and cc_0_15
  exact ⟨(_, _), (_, _), (_, _), (_, _), rfl, (by rw [F9, F11, F10, F12, F14, F13, F4, F5, F7, F8]; rfl), CH_15⟩

set_option maxRecDepth 100000 in
theorem fly_Fly2 (p c : Nat) (x y : CB) (S : Nat → Prop) (w : World) (sl : SlR S w (some ⟨p, 0, none⟩) 2 1 ([x, y].map cxV)) :
    Calls Tryz.prog 174 #[.slice (some ⟨p, 0, none⟩) 2 c] w (Ret (fun r w' => ∃ (q : Nat) (zs : List CB), r = .tuple #[.slice (some ⟨q, 0, none⟩) 2 2, .nilIface] ∧ zs.map cx = flyC ([x, y].map cx) ∧ SlR (Is q) w' (some ⟨q, 0, none⟩) 2 1 (zs.map cxV) ∧ w.heap.size ≤ q ∧ Ch No w w')) := by
  refine calls_of_VC (args := [.slice (some ⟨p, 0, none⟩) 2 c]) Tryz.func174 rfl Tryz.ntmps174 rfl (VC.seq (VC.region (VO.mv (Rn.assign rfl) rfl rfl rfl (VO.mv (Rn.assign rfl) rfl rfl rfl (VO.nil (VQ.then_code (VC.seq ?_)))))))
  refine VC.seq (VC.region (VO.mv (Rn.move rfl) rfl rfl rfl (VO.mv (Rn.len Tryz.underlying39 rfl) rfl rfl rfl (VO.nil (VQ.then_code (VC.block (VC.seq ?_)))))))
  refine VC.region (VO.mv (Rn.eql rfl rfl) rfl rfl rfl (VO.mv (Rn.assign rfl) rfl rfl rfl (VO.nil (VQ.then_code (VC.cond_if rfl (fun hc1 => ?_) (fun hc1 => ?_))))))
  · skip
    refine VC.seq (VC.region (VO.mv (Rn.move rfl) rfl rfl rfl (VO.mv (Rn.toArr Tryz.underlying238 rfl (by omega)) rfl rfl rfl (VO.mv (Rn.loads Tryz.isAgg238 Tryz.sizeOf238 rfl rfl (sl.cells _ rfl)) rfl rfl rfl (VO.wk (Wk.call Tryz.call193 rfl (fly_Two _ _ _)) rfl rfl rfl ?_)))))
    rintro _ w1 ⟨u1, v1, rfl, F1, c1⟩
    have z1 := c1.size
    refine VO.wk (Wk.alloc Tryz.zeroValue238) rfl rfl rfl ?_
    rintro _ w2 ⟨p2, rfl, N2⟩
    have c2 := N2.ch
    have e2 := N2.p; have z2 := N2.size
    have b4 := Bk.new N2
    refine VO.wk0 (Wk.puts Tryz.sizeOf238 rfl rfl rfl rfl b4 (Nat.le_of_ble_eq_true rfl)) rfl rfl ?_
    intro _ w3 Z3
    have c3 := Z3.ch; have z3 := Z3.size
    have b4_3 := Bk.put Z3
    refine VO.nil (VQ.then_code (VC.seq (VC.region (VO.mv (Rn.sliceAll Tryz.underlying238 Tryz.sizeOf53 rfl (by decide)) rfl rfl rfl (VO.mv (Rn.assign rfl) rfl rfl rfl (VO.mv (Rn.assign rfl) rfl rfl rfl (VO.nil ?_)))))))
    refine VQ.then_code (VC.ret (VQ.block_ret (VQ.then_ret (VQ.ret2 rfl rfl rfl (Ret.mk ?_)))))
    have cc_0_3 : Ch No w w3 := (Ch.then (E := No) (c1.and c2) c3 (by intro q h1 h2; rcases h2 with h2 | h2 <;> first | exact h2 | (exfalso; omega)))
    have CH_3 := (Ch.refl (No) w).and cc_0_3
    have zz := CH_3.size
    exact ⟨_, [u1, v1], rfl, by rw [show List.map cx [u1, v1] = [cx u1, cx v1] from rfl, F1]; rfl, ⟨rfl, fun _ => ⟨_, rfl⟩, fun ad h => (by injection h with h; subst h; exact (b4_3).all' rfl), fun ad h => (by injection h with h; subst h; rfl)⟩, by omega, CH_3⟩
  · skip
    omega

set_option maxRecDepth 100000 in
theorem fly_Fly4 (p c : Nat) (x y u v : CB) (S : Nat → Prop) (w : World) (sl : SlR S w (some ⟨p, 0, none⟩) 4 1 ([x, y, u, v].map cxV)) :
    Calls Tryz.prog 174 #[.slice (some ⟨p, 0, none⟩) 4 c] w (Ret (fun r w' => ∃ (q : Nat) (zs : List CB), r = .tuple #[.slice (some ⟨q, 0, none⟩) 4 4, .nilIface] ∧ zs.map cx = flyC ([x, y, u, v].map cx) ∧ SlR (Is q) w' (some ⟨q, 0, none⟩) 4 1 (zs.map cxV) ∧ w.heap.size ≤ q ∧ Ch No w w')) := by
  refine calls_of_VC (args := [.slice (some ⟨p, 0, none⟩) 4 c]) Tryz.func174 rfl Tryz.ntmps174 rfl (VC.seq (VC.region (VO.mv (Rn.assign rfl) rfl rfl rfl (VO.mv (Rn.assign rfl) rfl rfl rfl (VO.nil (VQ.then_code (VC.seq ?_)))))))
  refine VC.seq (VC.region (VO.mv (Rn.move rfl) rfl rfl rfl (VO.mv (Rn.len Tryz.underlying39 rfl) rfl rfl rfl (VO.nil (VQ.then_code (VC.block (VC.seq ?_)))))))
  refine VC.region (VO.mv (Rn.eql rfl rfl) rfl rfl rfl (VO.mv (Rn.assign rfl) rfl rfl rfl (VO.nil (VQ.then_code (VC.cond_if rfl (fun hc1 => ?_) (fun hc1 => ?_))))))
  · skip
    omega
  · skip
    refine VC.seq (VC.region (VO.mv (Rn.eql rfl rfl) rfl rfl rfl (VO.mv (Rn.assign rfl) rfl rfl rfl (VO.nil (VQ.then_code (VC.cond_if rfl (fun hc2 => ?_) (fun hc2 => ?_)))))))
    · skip
      omega
    · skip
      refine VC.seq (VC.region (VO.mv (Rn.eql rfl rfl) rfl rfl rfl (VO.mv (Rn.assign rfl) rfl rfl rfl (VO.nil (VQ.then_code (VC.cond_if rfl (fun hc3 => ?_) (fun hc3 => ?_)))))))
      · skip
        refine VC.seq (VC.region (VO.mv (Rn.move rfl) rfl rfl rfl (VO.mv (Rn.toArr Tryz.underlying242 rfl (by omega)) rfl rfl rfl (VO.mv (Rn.loads Tryz.isAgg242 Tryz.sizeOf242 rfl rfl (sl.cells _ rfl)) rfl rfl rfl (VO.wk (Wk.call Tryz.call195 rfl (fly_Four _ _ _ _ _)) rfl rfl rfl ?_)))))
        rintro _ w1 ⟨u1, v1, x1, y1, rfl, F1, c1⟩
        have z1 := c1.size
        refine VO.wk (Wk.alloc Tryz.zeroValue242) rfl rfl rfl ?_
        rintro _ w2 ⟨p2, rfl, N2⟩
        have c2 := N2.ch
        have e2 := N2.p; have z2 := N2.size
        have b6 := Bk.new N2
        refine VO.wk0 (Wk.puts Tryz.sizeOf242 rfl rfl rfl rfl b6 (Nat.le_of_ble_eq_true rfl)) rfl rfl ?_
        intro _ w3 Z3
        have c3 := Z3.ch; have z3 := Z3.size
        have b6_3 := Bk.put Z3
        refine VO.nil (VQ.then_code (VC.seq (VC.region (VO.mv (Rn.sliceAll Tryz.underlying242 Tryz.sizeOf53 rfl (by decide)) rfl rfl rfl (VO.mv (Rn.assign rfl) rfl rfl rfl (VO.mv (Rn.assign rfl) rfl rfl rfl (VO.nil ?_)))))))
        refine VQ.then_code (VC.ret (VQ.block_ret (VQ.then_ret (VQ.ret2 rfl rfl rfl (Ret.mk ?_)))))
        have cc_0_3 : Ch No w w3 := (Ch.then (E := No) (c1.and c2) c3 (by intro q h1 h2; rcases h2 with h2 | h2 <;> first | exact h2 | (exfalso; omega)))
        have CH_3 := (Ch.refl (No) w).and cc_0_3
        have zz := CH_3.size
        exact ⟨_, [u1, v1, x1, y1], rfl, by rw [show List.map cx [u1, v1, x1, y1] = [cx u1, cx v1, cx x1, cx y1] from rfl, F1]; rfl, ⟨rfl, fun _ => ⟨_, rfl⟩, fun ad h => (by injection h with h; subst h; exact (b6_3).all' rfl), fun ad h => (by injection h with h; subst h; rfl)⟩, by omega, CH_3⟩
      · skip
        omega

set_option maxRecDepth 100000 in
theorem roots_mod (a n : Nat) (hn : 0 < n) (ha : a ≤ 1000000000000) (hn2 : n ≤ 1000000000000) (w : World) :
    Calls Tryz.prog 72 #[.int .i64 a, .int .i64 n] w (Ret (fun v w' => v = .int .i64 ((a % n : Nat) : Int) ∧ w = w')) := by
  have h1 := Int.emod_nonneg (a : Int) (show (n : Int) ≠ 0 by omega)
  have h2 := Int.emod_lt_of_pos (a : Int) (show (0 : Int) < n by omega)
  refine calls_of_VC (args := [.int .i64 a, .int .i64 n]) Tryz.func72 rfl Tryz.ntmps72 rfl (VC.seq (VC.region (VO.mv (Rn.assign rfl) rfl rfl rfl (VO.nil (VQ.then_code (VC.seq (VC.region ?_)))))))
  refine VO.mv (Rn.move rfl) rfl rfl rfl (VO.mv (Rn.move rfl) rfl rfl rfl (VO.mv (Rn.rem0 rfl rfl (by omega) (by omega)) rfl rfl rfl (VO.mv (Rn.move rfl) rfl rfl rfl ?_)))
  refine VO.mv (Rn.add rfl rfl (by rw [IntKind.wrap_i64]; omega)) rfl rfl rfl ?_
  refine VO.mv (Rn.move rfl) rfl rfl rfl (VO.mv (Rn.rem0 rfl rfl (by omega) (by omega)) rfl rfl rfl (VO.mv (Rn.assign rfl) rfl rfl rfl (VO.nil (VQ.then_code (VC.ret (VQ.ret1 rfl rfl (Ret.mk ?_)))))))
  exact ⟨by rw [Int.add_emod_right, Int.emod_emod]; rfl, rfl⟩

set_option maxRecDepth 100000 in
theorem roots_plus (b : Nat) (w : World) :
    Calls Tryz.prog 88 #[.float .f64 b] w (Ret (fun v w' => v = .float .f64 (pzB b) ∧ w = w')) := by
  refine calls_of_VC (args := [.float .f64 b]) Tryz.func88 rfl Tryz.ntmps88 rfl (VC.seq (VC.region (VO.mv (Rn.assign rfl) rfl rfl rfl (VO.nil (VQ.then_code (VC.seq (VC.seq ?_)))))))
  refine VC.region (VO.mv (Rn.move rfl) rfl rfl rfl (VO.mv (Rn.feql rfl rfl) rfl rfl rfl (VO.nil (VQ.then_code (VC.cond rfl (fun hc1 => ?_) (fun hc1 => ?_))))))
  · skip
    try simp only [Bool.and_eq_true, Bool.or_eq_true, Bool.not_eq_true', Bool.not_eq_false', Bool.and_eq_false_iff, Bool.or_eq_false_iff, decide_eq_true_eq, decide_eq_false_iff_not] at hc1
    refine VC.seq (VC.region (VO.mv (Rn.assign rfl) rfl rfl rfl (VO.nil (VQ.then_code (VC.ret (VQ.then_ret (VQ.ret1 rfl rfl ?_)))))))
    refine Ret.mk ?_
    exact ⟨by unfold pzB; rw [if_pos hc1], rfl⟩
  · skip
    try simp only [Bool.and_eq_true, Bool.or_eq_true, Bool.not_eq_true', Bool.not_eq_false', Bool.and_eq_false_iff, Bool.or_eq_false_iff, decide_eq_true_eq, decide_eq_false_iff_not] at hc1
    refine VC.skip (VQ.then_code (VC.seq (VC.region (VO.mv (Rn.move rfl) rfl rfl rfl (VO.mv (Rn.assign rfl) rfl rfl rfl (VO.nil (VQ.then_code ?_)))))))
    refine VC.ret (VQ.ret1 rfl rfl (Ret.mk ?_))
    exact ⟨by unfold pzB; rw [if_neg (by simpa using hc1)], rfl⟩

set_option maxRecDepth 100000 in
theorem roots_eighth0 (r m : Int) (hr : r = 0) (w : World) :
    Calls Tryz.prog 87 #[.int .i64 r, .int .i64 m] w (Ret (fun v w' => v = .tuple #[.float .f64 4607182418800017408, .float .f64 0] ∧ w = w')) := by
  refine calls_of_VC (args := [.int .i64 r, .int .i64 m]) Tryz.func87 rfl Tryz.ntmps87 rfl (VC.seq (VC.region (VO.mv (Rn.assign rfl) rfl rfl rfl (VO.mv (Rn.assign rfl) rfl rfl rfl (VO.nil (VQ.then_code (VC.seq ?_)))))))
  refine VC.block (VC.seq (VC.region (VO.mv (Rn.move rfl) rfl rfl rfl (VO.mv (Rn.eql rfl rfl) rfl rfl rfl (VO.mv (Rn.assign rfl) rfl rfl rfl (VO.nil (VQ.then_code ?_)))))))
  refine VC.cond_if rfl (fun hc1 => ?_) (fun hc1 => ?_)
  · skip
    refine VC.seq (VC.region (VO.mv (Rn.assign rfl) rfl rfl rfl (VO.mv (Rn.assign rfl) rfl rfl rfl (VO.nil (VQ.then_code (VC.ret (VQ.block_ret ?_)))))))
    refine VQ.then_ret (VQ.ret2 rfl rfl rfl (Ret.mk ?_))
    exact ⟨rfl, rfl⟩
  · skip
    exact absurd hr hc1

set_option maxRecDepth 100000 in
theorem roots_pair (n a : Nat) (hn : 1 ≤ n) (hn2 : n ≤ 4194304) (ha : a ≤ 1000000000000) (hr : 4 * (a % n) % n = 0) (w : World) :
    Calls Tryz.prog 68 #[.int .i64 n, .int .i64 a] w (Ret (fun v w' => v = .tuple #[.float .f64 (pzB (tur (4 * (a % n) / n)).1), .float .f64 (pzB (tur (4 * (a % n) / n)).2), .nilIface] ∧ w = w')) := by
  have hm := Nat.mod_lt a (show 0 < n by omega)
  have hr' : (4 * ((a % n : Nat) : Int)) % (n : Int) = 0 := by exact_mod_cast hr
  have hq : (4 * ((a % n : Nat) : Int)) / (n : Int) = ((4 * (a % n) / n : Nat) : Int) := by norm_cast
  have hq2 := Nat.div_le_self (4 * (a % n)) n
  refine calls_of_VC (args := [.int .i64 n, .int .i64 a]) Tryz.func68 rfl Tryz.ntmps68 rfl (VC.seq (VC.region (VO.mv (Rn.assign rfl) rfl rfl rfl (VO.mv (Rn.assign rfl) rfl rfl rfl (VO.mv (Rn.assign rfl) rfl rfl rfl (VO.nil (VQ.then_code ?_)))))))
  refine VC.seq (VC.seq (VC.region (VO.mv (Rn.move rfl) rfl rfl rfl (VO.mv (Rn.lss rfl rfl) rfl rfl rfl (VO.mv (Rn.move rfl) rfl rfl rfl ?_)))))
  refine VO.orJoin (b := _) 3 13 16 rfl (fun hc1 Jhc1 => by
      refine VO.skip rfl rfl rfl (VO.skip rfl rfl rfl (VO.mv (Rn.pick_true rfl rfl) rfl rfl rfl ?_))
      exact (VO.fg rfl (VO.fg rfl Jhc1))) (fun hc1 Jhc1 => by
      try simp only [Bool.and_eq_true, Bool.or_eq_true, Bool.not_eq_true', Bool.not_eq_false', Bool.and_eq_false_iff, Bool.or_eq_false_iff, decide_eq_true_eq, decide_eq_false_iff_not] at hc1
      refine VO.mv (Rn.move rfl) rfl rfl rfl (VO.mv (Rn.gtr rfl rfl) rfl rfl rfl (VO.mv (Rn.pick_false rfl rfl) rfl rfl rfl ?_))
      exact (VO.fg rfl (VO.fg rfl Jhc1))) ?_
  refine VO.nil (VQ.then_code (VC.cond rfl (fun hc2 => ?_) (fun hc2 => ?_)))
  · skip
    try simp only [Bool.and_eq_true, Bool.or_eq_true, Bool.not_eq_true', Bool.not_eq_false', Bool.and_eq_false_iff, Bool.or_eq_false_iff, decide_eq_true_eq, decide_eq_false_iff_not] at hc2
    omega
  · skip
    try simp only [Bool.and_eq_true, Bool.or_eq_true, Bool.not_eq_true', Bool.not_eq_false', Bool.and_eq_false_iff, Bool.or_eq_false_iff, decide_eq_true_eq, decide_eq_false_iff_not] at hc2
    refine VC.skip (VQ.then_code (VC.seq (VC.region (VO.mv (Rn.move rfl) rfl rfl rfl (VO.mv (Rn.move rfl) rfl rfl rfl (VO.wk (Wk.call Tryz.call72 rfl (roots_mod _ _ (by omega) (by omega) (by omega) _)) rfl rfl rfl ?_))))))
    rintro _ _ ⟨rfl, rfl⟩
    refine VO.mv (Rn.mul rfl rfl (by rw [IntKind.wrap_i64]; omega)) rfl rfl rfl ?_
    refine VO.mv (Rn.assign rfl) rfl rfl rfl (VO.nil (VQ.then_code (VC.seq (VC.region (VO.mv (Rn.move rfl) rfl rfl rfl (VO.mv (Rn.move rfl) rfl rfl rfl (VO.mv (Rn.rem0 rfl rfl (by omega) (by omega)) rfl rfl rfl ?_)))))))
    refine VO.mv (Rn.assign rfl) rfl rfl rfl (VO.nil (VQ.then_code (VC.seq (VC.region (VO.mv (Rn.assign rfl) rfl rfl rfl (VO.mv (Rn.assign rfl) rfl rfl rfl (VO.nil ?_)))))))
    refine VQ.then_code (VC.seq (VC.seq (VC.region (VO.mv (Rn.move rfl) rfl rfl rfl ?_))))
    refine VO.mv (Rn.mul rfl rfl (by rw [IntKind.wrap_i64]; omega)) rfl rfl rfl ?_
    refine VO.mv (Rn.move rfl) rfl rfl rfl (VO.mv (Rn.leq rfl rfl) rfl rfl rfl (VO.nil (VQ.then_code (VC.cond_if rfl (fun hc3 => ?_) (fun hc3 => ?_)))))
    · skip
      refine VC.region (VO.mv (Rn.move rfl) rfl rfl rfl (VO.mv (Rn.move rfl) rfl rfl rfl ?_))
      refine VO.mv (Rn.mul rfl rfl (by rw [IntKind.wrap_i64]; omega)) rfl rfl rfl ?_
      refine VO.wk (Wk.call Tryz.call87 rfl (roots_eighth0 _ _ hr' _)) rfl rfl rfl ?_
      rintro _ _ ⟨rfl, rfl⟩
      refine VO.mv (Rn.move rfl) rfl rfl rfl (VO.mv (Rn.extract rfl rfl) rfl rfl rfl (VO.mv (Rn.extract rfl rfl) rfl rfl rfl (VO.mv (Rn.assign rfl) rfl rfl rfl (VO.mv (Rn.assign rfl) rfl rfl rfl (VO.nil (VQ.then_code (VC.seq ?_)))))))
      refine VC.seq (VC.region (VO.mv (Rn.move rfl) rfl rfl rfl (VO.mv (Rn.move rfl) rfl rfl rfl (VO.mv (Rn.quo0 rfl rfl (by omega) (by omega) (by omega)) rfl rfl rfl (VO.mv (Rn.move rfl) rfl rfl rfl (VO.nil (VQ.then_code ?_)))))))
      refine VC.block (VC.loopS (σ := Nat) (fun j => [(0, .int .i64 n), (1, .int .i64 a), (7, .int .i64 (4 * ((a % n : Nat) : Int))), (9, .float .f64 (tur j).1), (10, .float .f64 (tur j).2), (47, .int .i64 (4 * ((a % n : Nat) : Int) / (n : Int))), (48, .int .i64 j)]) (fun j w' => w = w' ∧ j ≤ 4 * (a % n) / n) (fun j => 4 * (a % n) / n - j) 0 ?_ ⟨rfl, rfl, rfl, rfl, rfl, rfl, rfl, trivial⟩ ?_)
      · exact ⟨rfl, Nat.zero_le _⟩
      rintro j w1 ⟨rfl, hj⟩
      show VC _ _ _ _ [(0, .int .i64 n), (1, .int .i64 a), (7, .int .i64 (4 * ((a % n : Nat) : Int))), (9, .float .f64 (tur j).1), (10, .float .f64 (tur j).2), (47, .int .i64 (4 * ((a % n : Nat) : Int) / (n : Int))), (48, .int .i64 j)] _
      refine VC.seq (VC.region (VO.mv (Rn.lss rfl rfl) rfl rfl rfl (VO.nil (VQ.then_code (VC.seq (VC.cond_if rfl (fun hc4 => ?_) (fun hc4 => ?_)))))))
      · skip
        refine VC.skip (VQ.then_code (VC.seq (VC.block (VC.region (VO.mv (Rn.move rfl) rfl rfl rfl (VO.mv (Rn.fneg rfl) rfl rfl rfl (VO.mv (Rn.move rfl) rfl rfl rfl ?_)))))))
        refine VO.mv (Rn.assign rfl) rfl rfl rfl (VO.mv (Rn.assign rfl) rfl rfl rfl (VO.nil (VQ.block_normal (VQ.then_code (VC.region ?_)))))
        refine VO.mv (Rn.add rfl rfl (by rw [IntKind.wrap_i64]; omega)) rfl rfl rfl ?_
        refine VO.mv (Rn.move rfl) rfl rfl rfl (VO.nil ?_)
        refine VQ.round (j + 1) (by first | omega | (dsimp only; omega)) ?_ ⟨rfl, rfl, rfl, rfl, rfl, rfl, rfl, trivial⟩
        exact ⟨rfl, by omega⟩
      · skip
        refine VC.exit (VQ.then_exit (VQ.then_exit (VQ.block_exit (VQ.then_code (VC.seq (VC.region (VO.mv (Rn.move rfl) rfl rfl rfl ?_)))))))
        refine VO.wk (Wk.call Tryz.call88 rfl (roots_plus _ _)) rfl rfl rfl ?_
        rintro _ _ ⟨rfl, rfl⟩
        refine VO.mv (Rn.move rfl) rfl rfl rfl (VO.wk (Wk.call Tryz.call88 rfl (roots_plus _ _)) rfl rfl rfl ?_)
        rintro _ _ ⟨rfl, rfl⟩
        refine VO.mv (Rn.assign rfl) rfl rfl rfl (VO.mv (Rn.assign rfl) rfl rfl rfl (VO.mv (Rn.assign rfl) rfl rfl rfl (VO.nil (VQ.then_code (VC.ret (VQ.ret3 rfl rfl rfl rfl (Ret.mk ?_)))))))
        have e : j = 4 * (a % n) / n := by omega
        subst e
        exact ⟨rfl, rfl⟩
    · skip
      rw [hr'] at hc3; omega

set_option maxRecDepth 100000 in
theorem roots_Root (n a : Nat) (hn : 1 ≤ n) (hn2 : n ≤ 4194304) (ha : a ≤ 1000000000000) (hr : 4 * (a % n) % n = 0) (w : World) :
    Calls Tryz.prog 71 #[.int .i64 n, .int .i64 a] w (Ret (fun v w' => v = .tuple #[.complex .f64 (rootB n a).1 (rootB n a).2, .nilIface] ∧ w = w')) := by
  refine calls_of_VC (args := [.int .i64 n, .int .i64 a]) Tryz.func71 rfl Tryz.ntmps71 rfl (VC.seq (VC.region (VO.mv (Rn.assign rfl) rfl rfl rfl (VO.mv (Rn.assign rfl) rfl rfl rfl (VO.nil (VQ.then_code (VC.seq ?_)))))))
  refine VC.region (VO.mv (Rn.move rfl) rfl rfl rfl (VO.mv (Rn.move rfl) rfl rfl rfl (VO.wk (Wk.call Tryz.call68 rfl (roots_pair _ _ (by omega) (by omega) (by omega) hr _)) rfl rfl rfl ?_)))
  rintro _ _ ⟨rfl, rfl⟩
  refine VO.mv (Rn.move rfl) rfl rfl rfl (VO.mv (Rn.extract rfl rfl) rfl rfl rfl (VO.mv (Rn.extract rfl rfl) rfl rfl rfl (VO.mv (Rn.extract rfl rfl) rfl rfl rfl (VO.mv (Rn.assign rfl) rfl rfl rfl (VO.mv (Rn.assign rfl) rfl rfl rfl (VO.mv (Rn.assign rfl) rfl rfl rfl (VO.nil ?_)))))))
  refine VQ.then_code (VC.seq (VC.seq (VC.region (VO.mv (Rn.move rfl) rfl rfl rfl (VO.mv (Rn.nil_neq_nil Tryz.underlying29 rfl) rfl rfl rfl (VO.nil (VQ.then_code ?_)))))))
  refine VC.cond_false rfl (VC.skip (VQ.then_code (VC.seq (VC.region (VO.mv (Rn.move rfl) rfl rfl rfl (VO.mv (Rn.move rfl) rfl rfl rfl (VO.mv (Rn.fneg rfl) rfl rfl rfl ?_)))))))
  refine VO.wk (Wk.call Tryz.call88 rfl (roots_plus _ _)) rfl rfl rfl ?_
  rintro _ _ ⟨rfl, rfl⟩
  refine VO.mv (Rn.complex rfl rfl) rfl rfl rfl (VO.mv (Rn.assign rfl) rfl rfl rfl (VO.mv (Rn.assign rfl) rfl rfl rfl (VO.nil (VQ.then_code (VC.ret (VQ.ret2 rfl rfl rfl (Ret.mk ?_)))))))
  exact ⟨rfl, rfl⟩

set_option maxRecDepth 100000 in
theorem roots_All (n : Nat) (hn : 1 ≤ n) (hn2 : n ≤ 16384) (hr : ∀ a, 4 * (a % n) % n = 0) (w : World) :
    Calls Tryz.prog 223 #[.int .i64 n] w (Ret (fun v w' => ∃ q, v = .tuple #[.slice (some ⟨q, 0, none⟩) n n, .nilIface] ∧ w.heap.size ≤ q ∧ CR 53 w' (q + 1) (some ⟨q, 0, none⟩) n n ((List.range n).map (rootB n)) ∧ Ch No w w')) := by
  refine calls_of_VC (args := [.int .i64 n]) Tryz.func223 rfl Tryz.ntmps223 rfl (VC.seq (VC.region (VO.mv (Rn.assign rfl) rfl rfl rfl (VO.mv (Rn.assign rfl) rfl rfl rfl (VO.nil (VQ.then_code (VC.seq ?_)))))))
  refine VC.seq (VC.region (VO.mv (Rn.move rfl) rfl rfl rfl (VO.mv (Rn.lss rfl rfl) rfl rfl rfl (VO.mv (Rn.move rfl) rfl rfl rfl ?_))))
  refine VO.orJoin (b := _) 3 8 11 rfl (fun hc1 Jhc1 => by
      refine VO.skip rfl rfl rfl (VO.skip rfl rfl rfl (VO.mv (Rn.pick_true rfl rfl) rfl rfl rfl ?_))
      exact (VO.fg rfl (VO.fg rfl Jhc1))) (fun hc1 Jhc1 => by
      try simp only [Bool.and_eq_true, Bool.or_eq_true, Bool.not_eq_true', Bool.not_eq_false', Bool.and_eq_false_iff, Bool.or_eq_false_iff, decide_eq_true_eq, decide_eq_false_iff_not] at hc1
      refine VO.mv (Rn.move rfl) rfl rfl rfl (VO.mv (Rn.gtr rfl rfl) rfl rfl rfl (VO.mv (Rn.pick_false rfl rfl) rfl rfl rfl ?_))
      exact (VO.fg rfl (VO.fg rfl Jhc1))) ?_
  refine VO.nil (VQ.then_code (VC.cond rfl (fun hc2 => ?_) (fun hc2 => ?_)))
  · skip
    try simp only [Bool.and_eq_true, Bool.or_eq_true, Bool.not_eq_true', Bool.not_eq_false', Bool.and_eq_false_iff, Bool.or_eq_false_iff, decide_eq_true_eq, decide_eq_false_iff_not] at hc2
    omega
  · skip
    try simp only [Bool.and_eq_true, Bool.or_eq_true, Bool.not_eq_true', Bool.not_eq_false', Bool.and_eq_false_iff, Bool.or_eq_false_iff, decide_eq_true_eq, decide_eq_false_iff_not] at hc2
    refine VC.skip (VQ.then_code (VC.seq (VC.region (VO.mv (Rn.move rfl) rfl rfl rfl (VO.wk (Wk.mkC Tryz.underlying39 inf53w40 rfl rfl (by omega) (by omega) (by omega)) rfl rfl rfl ?_)))))
    rintro _ w1 ⟨p1, rfl, o1, c1, e1, z1⟩
    refine VO.mv (Rn.assign rfl) rfl rfl rfl (VO.nil (VQ.then_code (VC.seq (VC.seq (VC.region (VO.mv (Rn.move rfl) rfl rfl rfl (VO.mv (Rn.len Tryz.underlying39 rfl) rfl rfl rfl ?_)))))))
    refine VO.mv (Rn.move rfl) rfl rfl rfl (VO.nil (VQ.then_code (VC.block ?_)))
    have CH_1 := (Ch.refl (No) w).and c1
    refine VC.loopS (σ := Nat) (fun j => [(0, .int .i64 n), (4, .slice (some ⟨p1, 0, none⟩) n n), (16, .int .i64 n), (17, .int .i64 j)]) (fun j w' => j ≤ n ∧ w1.heap.size ≤ w'.heap.size ∧ CR 53 w' (p1 + 1) (some ⟨p1, 0, none⟩) n n (rowF n (rootB n) j) ∧ Ch (No) w w') (fun j => n - j) 0 ?_ ⟨rfl, rfl, rfl, rfl, trivial⟩ ?_
    · exact ⟨(by omega), (Nat.le_refl _), (by rw [rowF_zero]; exact o1), CH_1⟩
    rintro j w2 ⟨hj, hsz2, row_2, CH_2⟩
    show VC _ _ _ _ [(0, .int .i64 n), (4, .slice (some ⟨p1, 0, none⟩) n n), (16, .int .i64 n), (17, .int .i64 j)] _
    refine VC.seq (VC.region (VO.mv (Rn.lss rfl rfl) rfl rfl rfl (VO.nil (VQ.then_code (VC.seq (VC.cond_if rfl (fun hc3 => ?_) (fun hc3 => ?_)))))))
    · skip
      refine VC.skip (VQ.then_code (VC.seq (VC.block (VC.seq (VC.region (VO.mv (Rn.move rfl) rfl rfl rfl (VO.mv (Rn.assign rfl) rfl rfl rfl ?_)))))))
      refine VO.nil (VQ.then_code (VC.region (VO.mv (Rn.move rfl) rfl rfl rfl (VO.mv (Rn.move rfl) rfl rfl rfl (VO.mv (Rn.move rfl) rfl rfl rfl (VO.mv (Rn.move rfl) rfl rfl rfl (VO.wk (Wk.call Tryz.call71 rfl (roots_Root _ _ (by omega) (by omega) (by omega) (hr _) _)) rfl rfl rfl ?_)))))))
      rintro _ _ ⟨rfl, rfl⟩
      refine VO.mv (Rn.move rfl) rfl rfl rfl (VO.mv (Rn.extract rfl rfl) rfl rfl rfl (VO.mv (Rn.extract rfl rfl) rfl rfl rfl (VO.mv (Rn.indexS Tryz.underlying39 Tryz.sizeOf53 rfl rfl (row_2.sl.ne (by omega)) (by omega) (by omega)) rfl rfl rfl (VO.wk0 (Wk.putC Tryz.sizeOf53 rfl rfl (by omega) row_2) rfl rfl ?_))))
      rintro _ w3 ⟨o3, c3, z3⟩
      have y3 := o3.lt
      refine VO.nil (VQ.block_normal (VQ.then_code (VC.region ?_)))
      refine VO.mv (Rn.add rfl rfl (by rw [IntKind.wrap_i64]; omega)) rfl rfl rfl ?_
      refine VO.mv (Rn.move rfl) rfl rfl rfl (VO.nil ?_)
      refine VQ.round (j + 1) (by first | omega | (dsimp only; omega)) ?_ ⟨rfl, rfl, rfl, rfl, trivial⟩
      have CH_3 : Ch (No) w w3 := CH_2.then c3 (by intro q h1 h2; rcases h2 with h2 | h2 <;> first | exact h2 | (exfalso; omega) | omega)
      exact ⟨(by omega), (by omega), (by have := o3; rw [Int.toNat_natCast] at this; rw [← rowF_set (by omega)]; exact this), CH_3⟩
    · skip
      refine VC.exit (VQ.then_exit (VQ.then_exit (VQ.block_exit (VQ.then_code (VC.seq (VC.region (VO.mv (Rn.move rfl) rfl rfl rfl ?_)))))))
      refine VO.mv (Rn.assign rfl) rfl rfl rfl (VO.mv (Rn.assign rfl) rfl rfl rfl (VO.nil (VQ.then_code (VC.ret (VQ.ret2 rfl rfl rfl (Ret.mk ?_))))))
      have e : j = n := by omega
      subst e
      have o9 := row_2; rw [rowF_all] at o9
      exact ⟨_, rfl, by omega, o9, CH_2⟩

set_option maxRecDepth 100000 in
theorem direct_table (n : Nat) (hn : 1 ≤ n) (hn2 : n ≤ 64) (hr : ∀ a, 4 * (a % n) % n = 0) (w : World) :
    Calls Tryz.prog 197 #[.int .i64 n] w (Ret (fun v w' => ∃ q, v = .tuple #[.slice (some ⟨q, 0, none⟩) n n, .nilIface] ∧ w.heap.size ≤ q ∧ CR 53 w' (q + 1) (some ⟨q, 0, none⟩) n n ((List.range n).map (rootB n)) ∧ Ch No w w')) := by
  refine calls_of_VC (args := [.int .i64 n]) Tryz.func197 rfl Tryz.ntmps197 rfl (VC.seq (VC.region (VO.mv (Rn.assign rfl) rfl rfl rfl (VO.mv (Rn.assign rfl) rfl rfl rfl (VO.nil (VQ.then_code (VC.seq ?_)))))))
  refine VC.seq (VC.region (VO.mv (Rn.move rfl) rfl rfl rfl (VO.mv (Rn.lss rfl rfl) rfl rfl rfl (VO.mv (Rn.move rfl) rfl rfl rfl ?_))))
  refine VO.orJoin (b := _) 3 6 9 rfl (fun hc1 Jhc1 => by
      refine VO.skip rfl rfl rfl (VO.skip rfl rfl rfl (VO.mv (Rn.pick_true rfl rfl) rfl rfl rfl ?_))
      exact (VO.fg rfl (VO.fg rfl Jhc1))) (fun hc1 Jhc1 => by
      try simp only [Bool.and_eq_true, Bool.or_eq_true, Bool.not_eq_true', Bool.not_eq_false', Bool.and_eq_false_iff, Bool.or_eq_false_iff, decide_eq_true_eq, decide_eq_false_iff_not] at hc1
      refine VO.mv (Rn.move rfl) rfl rfl rfl (VO.mv (Rn.gtr rfl rfl) rfl rfl rfl (VO.mv (Rn.pick_false rfl rfl) rfl rfl rfl ?_))
      exact (VO.fg rfl (VO.fg rfl Jhc1))) ?_
  refine VO.nil (VQ.then_code (VC.cond rfl (fun hc2 => ?_) (fun hc2 => ?_)))
  · skip
    try simp only [Bool.and_eq_true, Bool.or_eq_true, Bool.not_eq_true', Bool.not_eq_false', Bool.and_eq_false_iff, Bool.or_eq_false_iff, decide_eq_true_eq, decide_eq_false_iff_not] at hc2
    omega
  · skip
    try simp only [Bool.and_eq_true, Bool.or_eq_true, Bool.not_eq_true', Bool.not_eq_false', Bool.and_eq_false_iff, Bool.or_eq_false_iff, decide_eq_true_eq, decide_eq_false_iff_not] at hc2
    refine VC.skip (VQ.then_code (VC.seq (VC.region (VO.mv (Rn.move rfl) rfl rfl rfl (VO.wk (Wk.call Tryz.call223 rfl (roots_All _ (by omega) (by omega) hr _)) rfl rfl rfl ?_)))))
    rintro _ w1 ⟨q1, rfl, e1, ro1, c1⟩
    have z1 := c1.size
    refine VO.mv (Rn.extract rfl rfl) rfl rfl rfl (VO.mv (Rn.extract rfl rfl) rfl rfl rfl (VO.mv (Rn.assign rfl) rfl rfl rfl (VO.mv (Rn.assign rfl) rfl rfl rfl (VO.nil (VQ.then_code (VC.ret (VQ.ret2 rfl rfl rfl ?_)))))))
    refine Ret.mk ?_
    have CH_1 := (Ch.refl (No) w).and c1
    exact ⟨_, rfl, by omega, ro1, CH_1⟩

set_option maxRecDepth 100000 in
theorem direct_At1 (S : Nat → Prop) (w : World) (p5 p6 p7 : Nat) (A : Option Addr) (l c : Nat) (xs : List CB) (u v : Nat) (hl : l ≤ 1000000) (hu : u ≤ 1000000) (at_ : AtR S w p5 p6 p7 A l c xs u v) (j : Nat) (hj : j ≤ 64) (hb : u + j * v < l) :
    Calls Tryz.prog 199 #[.int .i64 j, .pointer (some ⟨p5, 0, none⟩), .pointer (some ⟨p6, 0, none⟩), .pointer (some ⟨p7, 0, none⟩)] w (Ret (fun r w' => r = .complex .f64 (xs.getD (u + j * v) (0, 0)).1 (xs.getD (u + j * v) (0, 0)).2 ∧ w = w')) := by
  obtain ⟨b5, b6, b7, sl⟩ := at_
  have e0 : ((j * v : Nat) : Int) = (j : Int) * (v : Int) := by push_cast; rfl
  refine calls_of_VC (args := [.int .i64 j, .pointer (some ⟨p5, 0, none⟩), .pointer (some ⟨p6, 0, none⟩), .pointer (some ⟨p7, 0, none⟩)]) Tryz.func199 rfl Tryz.ntmps199 rfl (VC.seq (VC.region (VO.mv (Rn.assign rfl) rfl rfl rfl (VO.nil (VQ.then_code (VC.seq (VC.region ?_)))))))
  refine VO.mv (Rn.load Tryz.isAgg39 rfl (b5.cell rfl)) rfl rfl rfl (VO.mv (Rn.load Tryz.isAgg3 rfl (b6.cell rfl)) rfl rfl rfl (VO.mv (Rn.move rfl) rfl rfl rfl (VO.mv (Rn.load Tryz.isAgg3 rfl (b7.cell rfl)) rfl rfl rfl ?_)))
  refine VO.mv (Rn.mul rfl rfl (by rw [IntKind.wrap_i64]; omega)) rfl rfl rfl ?_
  refine VO.mv (Rn.add rfl rfl (by rw [IntKind.wrap_i64]; omega)) rfl rfl rfl ?_
  refine VO.mv (Rn.indexS Tryz.underlying39 Tryz.sizeOf53 rfl rfl (sl.ne (by omega)) (by omega) (by omega)) rfl rfl rfl (VO.mv (Rn.load Tryz.isAgg53 rfl (sl.getC (by omega) (by omega))) rfl rfl rfl (VO.mv (Rn.assign rfl) rfl rfl rfl (VO.nil (VQ.then_code (VC.ret (VQ.ret1 rfl rfl (Ret.mk ?_)))))))
  exact ⟨by rw [show ((u : Int) + (j : Int) * (v : Int)).toNat = u + j * v by omega], rfl⟩

set_option maxRecDepth 100000 in
theorem direct_sum (S : Nat → Prop) (w : World) (p5 p6 p7 : Nat) (A : Option Addr) (l c : Nat) (xs : List CB) (u v : Nat) (hl : l ≤ 1000000) (hu : u ≤ 1000000) (at_ : AtR S w p5 p6 p7 A l c xs u v) (n k : Nat) (hn : 1 ≤ n) (hn2 : n ≤ 64) (hk : k < n) (hb : ∀ j, j < n → u + j * v < l) (q : Nat) (ro : CR 53 w (q + 1) (some ⟨q, 0, none⟩) n n ((List.range n).map (rootB n))) :
    Calls Tryz.prog 198 #[.slice (some ⟨q, 0, none⟩) n n, .int .i64 k, .func (.func 199) #[] #[.pointer (some ⟨p5, 0, none⟩), .pointer (some ⟨p6, 0, none⟩), .pointer (some ⟨p7, 0, none⟩)]] w (Ret (fun r w' => ∃ a b, r = .complex .f64 a b ∧ cx (a, b) = directC n k (XX xs u v) ∧ Ch No w w')) := by
  have hke : (((k : Int) % (n : Int) + (n : Int)) % (n : Int)) = (k : Int) := by rw [Int.add_emod_right, Int.emod_emod]; exact Int.emod_eq_of_lt (by omega) (by omega)
  have h1 := Int.emod_nonneg (k : Int) (show (n : Int) ≠ 0 by omega)
  have h2 := Int.emod_lt_of_pos (k : Int) (show (0 : Int) < n by omega)
  refine calls_of_VC (args := [.slice (some ⟨q, 0, none⟩) n n, .int .i64 k, .func (.func 199) #[] #[.pointer (some ⟨p5, 0, none⟩), .pointer (some ⟨p6, 0, none⟩), .pointer (some ⟨p7, 0, none⟩)]]) Tryz.func198 rfl Tryz.ntmps198 rfl (VC.seq (VC.region (VO.mv (Rn.assign rfl) rfl rfl rfl (VO.nil (VQ.then_code (VC.seq (VC.region ?_)))))))
  refine VO.mv (Rn.move rfl) rfl rfl rfl (VO.mv (Rn.len Tryz.underlying39 rfl) rfl rfl rfl (VO.mv (Rn.assign rfl) rfl rfl rfl (VO.nil (VQ.then_code (VC.seq (VC.region (VO.mv (Rn.move rfl) rfl rfl rfl ?_)))))))
  refine VO.mv (Rn.move rfl) rfl rfl rfl (VO.mv (Rn.rem0 rfl rfl (by omega) (by omega)) rfl rfl rfl (VO.mv (Rn.move rfl) rfl rfl rfl ?_))
  refine VO.mv (Rn.add rfl rfl (by rw [IntKind.wrap_i64]; omega)) rfl rfl rfl ?_
  refine VO.mv (Rn.move rfl) rfl rfl rfl (VO.mv (Rn.rem0 rfl rfl (by omega) (by omega)) rfl rfl rfl (VO.mv (Rn.assign rfl) rfl rfl rfl (VO.nil (VQ.then_code (VC.seq (VC.region (VO.mv (Rn.move rfl) rfl rfl rfl ?_)))))))
  refine VO.wk (Wk.callv Tryz.call199 rfl rfl (by rfl) (direct_At1 _ _ _ _ _ _ _ _ _ _ _ hl hu at_ 0 (by omega) (hb 0 (by omega)))) rfl rfl rfl ?_
  rintro _ _ ⟨rfl, rfl⟩
  refine VO.mv (Rn.assign rfl) rfl rfl rfl (VO.nil (VQ.then_code (VC.seq (VC.seq (VC.region (VO.mv (Rn.assign rfl) rfl rfl rfl (VO.nil ?_)))))))
  refine VQ.then_code (VC.block (VC.loopS (σ := Nat × Nat × Nat) (fun (j, a, b) => [(0, .slice (some ⟨q, 0, none⟩) n n), (1, .int .i64 (((k : Int) % (n : Int) + (n : Int)) % (n : Int))), (2, .func (.func 199) #[] #[.pointer (some ⟨p5, 0, none⟩), .pointer (some ⟨p6, 0, none⟩), .pointer (some ⟨p7, 0, none⟩)]), (7, .int .i64 n), (8, .complex .f64 a b), (9, .int .i64 j)]) (fun (j, a, b) w' => (1 ≤ j ∧ j ≤ n) ∧ cx (a, b) = sumC n k (XX xs u v) (j - 1) ∧ w.heap.size ≤ w'.heap.size ∧ AtR S w' p5 p6 p7 A l c xs u v ∧ CR 53 w' (q + 1) (some ⟨q, 0, none⟩) n n ((List.range n).map (rootB n)) ∧ Ch (No) w w') (fun (j, a, b) => n - j) (1, _, _) ?_ ⟨rfl, rfl, rfl, rfl, rfl, rfl, trivial⟩ ?_))
  · exact ⟨⟨by omega, by omega⟩, (by rfl), (Nat.le_refl _), at_, ro, (Ch.refl (No) w)⟩
  rintro ⟨j, a, b⟩ w1 ⟨hj, hs, hsz1, at__1, ro_1, CH_1⟩
  show VC _ _ _ _ [(0, .slice (some ⟨q, 0, none⟩) n n), (1, .int .i64 (((k : Int) % (n : Int) + (n : Int)) % (n : Int))), (2, .func (.func 199) #[] #[.pointer (some ⟨p5, 0, none⟩), .pointer (some ⟨p6, 0, none⟩), .pointer (some ⟨p7, 0, none⟩)]), (7, .int .i64 n), (8, .complex .f64 a b), (9, .int .i64 j)] _
  have hjk : (j : Int) * (((k : Int) % (n : Int) + (n : Int)) % (n : Int)) = ((j * k : Nat) : Int) := by rw [hke]; push_cast; rfl
  have hjk2 : j * k ≤ 64 * 64 := Nat.mul_le_mul (by omega) (by omega)
  have he : (j : Int) * (((k : Int) % (n : Int) + (n : Int)) % (n : Int)) % (n : Int) = ((j * k % n : Nat) : Int) := by rw [hjk]; norm_cast
  have hlt := Nat.mod_lt (j * k) (show 0 < n by omega)
  refine VC.seq (VC.seq (VC.region (VO.mv (Rn.move rfl) rfl rfl rfl (VO.mv (Rn.move rfl) rfl rfl rfl (VO.mv (Rn.lss rfl rfl) rfl rfl rfl (VO.nil (VQ.then_code ?_)))))))
  refine VC.cond_if rfl (fun hc1 => ?_) (fun hc1 => ?_)
  · skip
    refine VC.skip (VQ.then_code (VC.seq (VC.block (VC.seq (VC.region (VO.mv (Rn.move rfl) rfl rfl rfl (VO.mv (Rn.move rfl) rfl rfl rfl ?_)))))))
    refine VO.wk (Wk.callv Tryz.call199 rfl rfl (by rfl) (direct_At1 _ _ _ _ _ _ _ _ _ _ _ hl hu at__1 j (by omega) (hb j (by omega)))) rfl rfl rfl ?_
    rintro _ _ ⟨rfl, rfl⟩
    refine VO.mv (Rn.assign rfl) rfl rfl rfl (VO.nil (VQ.then_code (VC.seq (VC.seq (VC.region (VO.mv (Rn.move rfl) rfl rfl rfl (VO.mv (Rn.move rfl) rfl rfl rfl ?_)))))))
    refine VO.mv (Rn.mul rfl rfl (by rw [IntKind.wrap_i64]; omega)) rfl rfl rfl ?_
    refine VO.mv (Rn.move rfl) rfl rfl rfl (VO.mv (Rn.rem0 rfl rfl (by omega) (by omega)) rfl rfl rfl (VO.mv (Rn.assign rfl) rfl rfl rfl (VO.nil (VQ.then_code (VC.seq (VC.region (VO.mv (Rn.move rfl) rfl rfl rfl ?_)))))))
    refine VO.mv (Rn.neq rfl rfl) rfl rfl rfl (VO.nil (VQ.then_code (VC.cond_if rfl (fun hc2 => ?_) (fun hc2 => ?_))))
    · skip
      refine VC.region (VO.mv (Rn.move rfl) rfl rfl rfl (VO.mv (Rn.move rfl) rfl rfl rfl (VO.mv (Rn.move rfl) rfl rfl rfl (VO.mv (Rn.indexS Tryz.underlying39 Tryz.sizeOf53 rfl rfl (ro_1.sl.ne (by omega)) (by omega) (by omega)) rfl rfl rfl (VO.mv (Rn.load Tryz.isAgg53 rfl (ro_1.sl.getC (by omega) (by omega))) rfl rfl rfl (VO.wk (Wk.call Tryz.call59 rfl (cplx_Mul _ _ _ _ _)) rfl rfl rfl ?_))))))
      rintro _ w2 ⟨p2, q2, rfl, F2, c2⟩
      have z2 := c2.size
      refine VO.mv (Rn.assign rfl) rfl rfl rfl (VO.nil (VQ.then_code (VC.region (VO.mv (Rn.move rfl) rfl rfl rfl (VO.mv (Rn.real rfl) rfl rfl rfl (VO.mv (Rn.move rfl) rfl rfl rfl (VO.mv (Rn.real rfl) rfl rfl rfl ?_)))))))
      refine VO.wk (Wk.fbin (.inl rfl) rfl rfl) rfl rfl rfl ?_
      rintro _ w3 ⟨r3, rfl, f3, c3⟩
      have z3 := c3.size
      refine VO.mv (Rn.move rfl) rfl rfl rfl (VO.mv (Rn.imag rfl) rfl rfl rfl (VO.mv (Rn.move rfl) rfl rfl rfl (VO.mv (Rn.imag rfl) rfl rfl rfl (VO.wk (Wk.fbin (.inl rfl) rfl rfl) rfl rfl rfl ?_))))
      rintro _ w4 ⟨r4, rfl, f4, c4⟩
      have z4 := c4.size
      refine VO.mv (Rn.complex rfl rfl) rfl rfl rfl (VO.mv (Rn.assign rfl) rfl rfl rfl (VO.nil (VQ.block_normal (VQ.then_code (VC.region (VO.mv (Rn.move rfl) rfl rfl rfl ?_))))))
      refine VO.mv (Rn.add rfl rfl (by rw [IntKind.wrap_i64]; omega)) rfl rfl rfl ?_
      refine VO.mv (Rn.assign rfl) rfl rfl rfl (VO.nil ?_)
      refine VQ.round (j + 1, _, _) (by first | omega | (dsimp only; omega)) ?_ ⟨rfl, rfl, rfl, rfl, rfl, rfl, trivial⟩
      have at__4 := at__1.keep (c2.trans (c3.trans c4))
      have ro_4 := ro_1.keep (c2.trans (c3.trans c4))
      have CH_4 := CH_1.and (c2.trans (c3.trans c4))
      exact ⟨⟨by omega, by omega⟩, sum_next hj.1 hs f3 f4 (by rw [if_neg (by omega), F2, show ((j : Int) * (((k : Int) % (n : Int) + (n : Int)) % (n : Int)) % (n : Int)).toNat = j * k % n by omega, range_getD hlt]), by omega, at__4, ro_4, CH_4⟩
    · skip
      refine VC.skip (VQ.then_code (VC.region (VO.mv (Rn.move rfl) rfl rfl rfl (VO.mv (Rn.real rfl) rfl rfl rfl (VO.mv (Rn.move rfl) rfl rfl rfl (VO.mv (Rn.real rfl) rfl rfl rfl (VO.wk (Wk.fbin (.inl rfl) rfl rfl) rfl rfl rfl ?_)))))))
      rintro _ w5 ⟨r5, rfl, f5, c5⟩
      have z5 := c5.size
      refine VO.mv (Rn.move rfl) rfl rfl rfl (VO.mv (Rn.imag rfl) rfl rfl rfl (VO.mv (Rn.move rfl) rfl rfl rfl (VO.mv (Rn.imag rfl) rfl rfl rfl (VO.wk (Wk.fbin (.inl rfl) rfl rfl) rfl rfl rfl ?_))))
      rintro _ w6 ⟨r6, rfl, f6, c6⟩
      have z6 := c6.size
      refine VO.mv (Rn.complex rfl rfl) rfl rfl rfl (VO.mv (Rn.assign rfl) rfl rfl rfl (VO.nil (VQ.block_normal (VQ.then_code (VC.region (VO.mv (Rn.move rfl) rfl rfl rfl ?_))))))
      refine VO.mv (Rn.add rfl rfl (by rw [IntKind.wrap_i64]; omega)) rfl rfl rfl ?_
      refine VO.mv (Rn.assign rfl) rfl rfl rfl (VO.nil ?_)
      refine VQ.round (j + 1, _, _) (by first | omega | (dsimp only; omega)) ?_ ⟨rfl, rfl, rfl, rfl, rfl, rfl, trivial⟩
      have at__6 := at__1.keep (c5.trans c6)
      have ro_6 := ro_1.keep (c5.trans c6)
      have CH_6 := CH_1.and (c5.trans c6)
      exact ⟨⟨by omega, by omega⟩, sum_next hj.1 hs f5 f6 (by rw [if_pos (by omega)]), by omega, at__6, ro_6, CH_6⟩
  · skip
    refine VC.exit (VQ.then_exit (VQ.then_exit (VQ.block_exit (VQ.then_code (VC.seq (VC.region (VO.mv (Rn.move rfl) rfl rfl rfl ?_)))))))
    refine VO.mv (Rn.assign rfl) rfl rfl rfl (VO.nil (VQ.then_code (VC.ret (VQ.ret1 rfl rfl (Ret.mk ?_)))))
    have e : j = n := by omega
    subst e
    exact ⟨_, _, rfl, hs, CH_1⟩

set_option maxRecDepth 100000 in
theorem direct_At (S : Nat → Prop) (w : World) (A : Option Addr) (l c : Nat) (xs : List CB) (u v : Nat) (hl : l ≤ 1000000) (hu : u ≤ 1000000) (sl : SlR S w A l 1 (xs.map cxV)) (n k : Nat) (hn : 1 ≤ n) (hn2 : n ≤ 64) (hr : ∀ a, 4 * (a % n) % n = 0) (hk : k < n) (hv : 1 ≤ v) (hv2 : v ≤ 1000000) (hb : ∀ j, j < n → u + j * v < l) :
    Calls Tryz.prog 175 #[.slice A l c, .int .i64 u, .int .i64 v, .int .i64 n, .int .i64 k] w (Ret (fun r w' => ∃ a b, r = .tuple #[.complex .f64 a b, .nilIface] ∧ cx (a, b) = directC n k (XX xs u v) ∧ Ch No w w')) := by
  have hb0 := hb 0 (by omega); rw [Nat.zero_mul] at hb0
  have hq : 1 < n → (v : Int) ≤ ((l : Int) - 1 - u) / ((n : Int) - 1) := fun h => by
    have h9 := hb (n - 1) (by omega)
    have h8 : (((n - 1) * v : Nat) : Int) = (v : Int) * ((n : Int) - 1) := by rw [Nat.mul_comm]; push_cast [show 1 ≤ n by omega]; rfl
    exact Int.le_ediv_of_mul_le (by omega) (by omega)
  refine calls_of_VC (args := [.slice A l c, .int .i64 u, .int .i64 v, .int .i64 n, .int .i64 k]) Tryz.func175 rfl Tryz.ntmps175 rfl (VC.seq (VC.region (VO.wk (Wk.box rfl) rfl rfl rfl ?_)))
  rintro _ w1 ⟨p1, rfl, N1⟩
  have c1 := N1.ch
  have e1 := N1.p; have z1 := N1.size
  have b5 := Bk.new N1
  refine VO.wk (Wk.box rfl) rfl rfl rfl ?_
  rintro _ w2 ⟨p2, rfl, N2⟩
  have c2 := N2.ch
  have e2 := N2.p; have z2 := N2.size
  have b6 := Bk.new N2
  refine VO.wk (Wk.box rfl) rfl rfl rfl ?_
  rintro _ w3 ⟨p3, rfl, N3⟩
  have c3 := N3.ch
  have e3 := N3.p; have z3 := N3.size
  have b7 := Bk.new N3
  refine VO.mv (Rn.assign rfl) rfl rfl rfl (VO.mv (Rn.assign rfl) rfl rfl rfl (VO.nil (VQ.then_code (VC.seq (VC.region (VO.mv (Rn.move rfl) rfl rfl rfl (VO.wk (Wk.call Tryz.call197 rfl (direct_table _ (by omega) (by omega) hr _)) rfl rfl rfl ?_)))))))
  rintro _ w4 ⟨q4, rfl, e4, ro4, c4⟩
  have z4 := c4.size
  refine VO.mv (Rn.move rfl) rfl rfl rfl (VO.mv (Rn.extract rfl rfl) rfl rfl rfl (VO.mv (Rn.extract rfl rfl) rfl rfl rfl (VO.mv (Rn.assign rfl) rfl rfl rfl (VO.mv (Rn.assign rfl) rfl rfl rfl (VO.nil (VQ.then_code (VC.seq ?_)))))))
  refine VC.seq (VC.region (VO.mv (Rn.move rfl) rfl rfl rfl (VO.mv (Rn.nil_neq_nil Tryz.underlying29 rfl) rfl rfl rfl (VO.nil (VQ.then_code (VC.cond_false rfl (VC.skip ?_)))))))
  refine VQ.then_code (VC.seq (VC.seq (VC.draws 28 [(0, true), (1, true), (2, true), (3, true), (4, true), (5, true), (6, true), (7, true), (8, true), (9, true), (10, true), (11, true), (12, true), (13, true), (14, true), (15, true), (16, true), (17, true), (18, true), (19, true), (20, true), (21, true), (22, true), (23, true), (24, true), (25, true), (26, true), (27, true)] (fun w1 w' => Ch (No) w1 w') mixed (by kernel_rfl) (fun _ _ => Ch.refl _ _) ?_)))
  intro w5 D5
  have c5 := Ch.of_drew D5; have z5 := c5.size
  have sl_5 := sl.keep (c1.trans (c2.trans (c3.trans (c4.trans c5))))
  have b5_5 := b5.keep (c2.trans (c3.trans (c4.trans c5)))
  have b6_5 := b6.keep (c3.trans (c4.trans c5))
  have b7_5 := b7.keep (c4.trans c5)
  have ro_5 := ro4.keep c5
  refine VH.mv (fun w' hS => Rn.load Tryz.isAgg3 rfl ((b6_5.keep hS).cell rfl)) rfl rfl rfl rfl (VH.mv (fun w' hS => Rn.lss rfl rfl) rfl rfl rfl rfl (VH.mv (fun w' hS => Rn.move rfl) rfl rfl rfl rfl (VH.split_if 24 rfl (fun hc1 => ?_) (fun hc1 => ?_))))
  · skip
    omega
  · skip
    refine VH.mv (fun w' hS => Rn.load Tryz.isAgg3 rfl ((b6_5.keep hS).cell rfl)) rfl rfl rfl rfl (VH.mv (fun w' hS => Rn.load Tryz.isAgg39 rfl ((b5_5.keep hS).cell rfl)) rfl rfl rfl rfl (VH.mv (fun w' hS => Rn.len Tryz.underlying39 rfl) rfl rfl rfl rfl (VH.mv (fun w' hS => Rn.geq rfl rfl) rfl rfl rfl rfl (VH.mv (fun w' hS => Rn.pick_false rfl rfl) rfl rfl rfl rfl (VH.mv (fun w' hS => Rn.move rfl) rfl rfl rfl rfl (VH.split_if 30 rfl (fun hc2 => ?_) (fun hc2 => ?_)))))))
    · skip
      omega
    · skip
      refine VH.mv (fun w' hS => Rn.load Tryz.isAgg3 rfl ((b7_5.keep hS).cell rfl)) rfl rfl rfl rfl (VH.mv (fun w' hS => Rn.lss rfl rfl) rfl rfl rfl rfl (VH.mv (fun w' hS => Rn.pick_false rfl rfl) rfl rfl rfl rfl (VH.mv (fun w' hS => Rn.move rfl) rfl rfl rfl rfl (VH.split_if 34 rfl (fun hc3 => ?_) (fun hc3 => ?_)))))
      · skip
        omega
      · skip
        refine VH.mv (fun w' hS => Rn.move rfl) rfl rfl rfl rfl (VH.mv (fun w' hS => Rn.gtr rfl rfl) rfl rfl rfl rfl (VH.mv (fun w' hS => Rn.move rfl) rfl rfl rfl rfl (VH.split_if 37 rfl (fun hc4 => ?_) (fun hc4 => ?_))))
        · skip
          have hq9 := hq (by omega)
          refine VH.mv (fun w' hS => Rn.load Tryz.isAgg3 rfl ((b7_5.keep hS).cell rfl)) rfl rfl rfl rfl (VH.mv (fun w' hS => Rn.load Tryz.isAgg39 rfl ((b5_5.keep hS).cell rfl)) rfl rfl rfl rfl (VH.mv (fun w' hS => Rn.len Tryz.underlying39 rfl) rfl rfl rfl rfl ?_))
          refine VH.mv (fun w' hS => Rn.sub rfl rfl (by rw [IntKind.wrap_i64]; omega)) rfl rfl rfl rfl ?_
          refine VH.mv (fun w' hS => Rn.load Tryz.isAgg3 rfl ((b6_5.keep hS).cell rfl)) rfl rfl rfl rfl ?_
          refine VH.mv (fun w' hS => Rn.sub rfl rfl (by rw [IntKind.wrap_i64]; omega)) rfl rfl rfl rfl ?_
          refine VH.mv (fun w' hS => Rn.move rfl) rfl rfl rfl rfl ?_
          refine VH.mv (fun w' hS => Rn.sub rfl rfl (by rw [IntKind.wrap_i64]; omega)) rfl rfl rfl rfl ?_
          refine VH.mv (fun w' hS => Rn.quo0 rfl rfl (by omega) (by omega) (by omega)) rfl rfl rfl rfl (VH.mv (fun w' hS => Rn.gtr rfl rfl) rfl rfl rfl rfl (VH.mv (fun w' hS => Rn.pick_true rfl rfl) rfl rfl rfl rfl (VH.mv (fun w' hS => Rn.pick_false rfl rfl) rfl rfl rfl rfl (VH.done (VO.nil (VQ.noPanic (VQ.then_code ?_)))))))
          refine VC.cond_if rfl (fun hc5 => ?_) (fun hc5 => ?_)
          · skip
            omega
          · skip
            refine VC.skip (VQ.then_code (VC.seq ?_))
            have at9 := AtR.mk b5_5 b6_5 b7_5 sl_5
            refine VC.region (VO.mv (Rn.move rfl) rfl rfl rfl (VO.mv (Rn.move rfl) rfl rfl rfl (VO.mv (Rn.func rfl rfl) rfl rfl rfl (VO.wk (Wk.call Tryz.call198 rfl (direct_sum _ _ _ _ _ _ _ _ _ _ _ hl hu at9 _ _ hn hn2 hk hb _ ro_5)) rfl rfl rfl ?_))))
            rintro _ w6 ⟨p6, q6, rfl, F6, c6⟩
            have z6 := c6.size
            refine VO.mv (Rn.assign rfl) rfl rfl rfl (VO.mv (Rn.assign rfl) rfl rfl rfl (VO.nil (VQ.then_code (VC.ret (VQ.ret2 rfl rfl rfl (Ret.mk ?_))))))
            have CH_6 := (Ch.refl (No) w).and (c1.trans (c2.trans (c3.trans (c4.trans (c5.trans c6)))))
            exact ⟨_, _, rfl, F6, CH_6⟩
        · skip
          refine VH.skip rfl rfl rfl rfl (VH.skip rfl rfl rfl rfl (VH.skip rfl rfl rfl rfl (VH.skip rfl rfl rfl rfl (VH.skip rfl rfl rfl rfl (VH.skip rfl rfl rfl rfl (VH.skip rfl rfl rfl rfl (VH.skip rfl rfl rfl rfl ?_)))))))
          refine VH.skip rfl rfl rfl rfl (VH.skip rfl rfl rfl rfl (VH.mv (fun w' hS => Rn.pick_false rfl rfl) rfl rfl rfl rfl (VH.mv (fun w' hS => Rn.pick_false rfl rfl) rfl rfl rfl rfl (VH.done (VO.nil (VQ.noPanic (VQ.then_code ?_)))))))
          refine VC.cond_false rfl (VC.skip (VQ.then_code (VC.seq ?_)))
          have at9 := AtR.mk b5_5 b6_5 b7_5 sl_5
          refine VC.region (VO.mv (Rn.move rfl) rfl rfl rfl (VO.mv (Rn.move rfl) rfl rfl rfl (VO.mv (Rn.func rfl rfl) rfl rfl rfl (VO.wk (Wk.call Tryz.call198 rfl (direct_sum _ _ _ _ _ _ _ _ _ _ _ hl hu at9 _ _ hn hn2 hk hb _ ro_5)) rfl rfl rfl ?_))))
          rintro _ w7 ⟨p7, q7, rfl, F7, c7⟩
          have z7 := c7.size
          refine VO.mv (Rn.assign rfl) rfl rfl rfl (VO.mv (Rn.assign rfl) rfl rfl rfl (VO.nil (VQ.then_code (VC.ret (VQ.ret2 rfl rfl rfl (Ret.mk ?_))))))
          have CH_7 := (Ch.refl (No) w).and (c1.trans (c2.trans (c3.trans (c4.trans (c5.trans c7)))))
          exact ⟨_, _, rfl, F7, CH_7⟩

theorem fly_Fly (p c : Nat) (zs : List CB) (n : Nat) (hn : n = 2 ∨ n = 4) (S : Nat → Prop) (w : World) (sl : SlR S w (some ⟨p, 0, none⟩) n 1 (zs.map cxV)) : Calls Tryz.prog 174 #[.slice (some ⟨p, 0, none⟩) n c] w (Ret fun r w' => ∃ (q : Nat) (ys : List CB), r = .tuple #[.slice (some ⟨q, 0, none⟩) n n, .nilIface] ∧ ys.map cx = flyC (zs.map cx) ∧ SlR (Is q) w' (some ⟨q, 0, none⟩) n 1 (ys.map cxV) ∧ w.heap.size ≤ q ∧ Ch No w w') := by
  have hl : zs.length = n := by have := sl.len; simpa using this
  rcases hn with rfl | rfl
  · match zs, hl with
    | [x, y], _ => exact fly_Fly2 p c x y S w sl
  · match zs, hl with
    | [x, y, u, v], _ => exact fly_Fly4 p c x y u v S w sl

end Go.Tm
