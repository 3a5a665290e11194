/- Lemmas of this claim, joined by program. Rows of complex numbers; comparisons of floats; make, clear and copy over owned rows; arrays and slices of them. The machine in plain Lean: complex numbers as pairs of floats, butterflies, roots, sums, acts. Walks of functions: butterflies, roots of unity, sums. Arrays of floats in an own block; roots of unity in plain Lean: series, eighths of a turn, pairs. Rules for comparisons whose outcome is known; rows of whole numbers. Walks of functions: roots of unity in general. The machine in general, in plain Lean: all operations; roots as floats. Conditions: each lemma names its own. -/
import Derived.Test.YtpfglkohcfjelaaGreatDoorC09
import Derived.Laws.CopyRow
import Derived.Laws.IdiomCopy
import Derived.Test.YtpfglkohcfjelaaGreatDoorC04
set_option linter.all false
namespace Go.Tm
open Go.RowKit
abbrev Cx := Fl × Fl
abbrev CB := Nat × Nat
abbrev cxV (z : CB) : Value := .complex .f64 z.1 z.2
def cx (z : CB) : Cx := (cn z.1, cn z.2)
abbrev CR (e : TypeId) (w : World) (r : Nat) (A : Option Addr) (l c : Nat) (xs : List CB) : Prop := Ow w r e 1 A l c (xs.map cxV)
theorem CR.len {e : TypeId} {w : World} {r : Nat} {A : Option Addr} {l c : Nat} {xs : List CB} (h : CR e w r A l c xs) : xs.length = l := by
  have := Ow.len h
  simpa using this
theorem made_one (z : Value) (n : Nat) : madeCells #[z] n = (List.replicate n z).toArray := by
  apply Array.ext <;> simp [madeCells, Nat.mod_one]
section
variable {P : Program} {n : Fr} {k : K} {w : World} {d : Option Tmp} {ty : TypeId} {pos : String} {aft : Array Edge} {g : Option (Nat × Bool)}
theorem Rn.feql {t t' : TypeId} {x y : Operand} {a b : Nat} (hx : ev k x = some (.float .f64 a)) (hy : ev k y = some (.float .f64 b)) :
    Rn P n k w { dst := d, op := .binOp .eql t x y t', type := ty, pos := pos, after := aft, guard := g } (.bool (Ieee.double.order a b == some .eq)) :=
  Rt hx hy (fun x y => by simp [eqGuard, binOp, Op.floatCmp, FloatKind.format])
theorem Rn.fneq {t t' : TypeId} {x y : Operand} {a b : Nat} (hx : ev k x = some (.float .f64 a)) (hy : ev k y = some (.float .f64 b)) :
    Rn P n k w { dst := d, op := .binOp .neq t x y t', type := ty, pos := pos, after := aft, guard := g } (.bool (Ieee.double.order a b != some .eq)) :=
  Rt hx hy (fun x y => by simp [eqGuard, binOp, Op.floatCmp, FloatKind.format])
def ceq (x y : CB) : Bool := (Ieee.double.order x.1 y.1 == some .eq) && (Ieee.double.order x.2 y.2 == some .eq)
theorem Rn.ceql {t t' : TypeId} {x y : Operand} {a b c e : Nat} (hx : ev k x = some (.complex .f64 a b)) (hy : ev k y = some (.complex .f64 c e)) :
    Rn P n k w { dst := d, op := .binOp .eql t x y t', type := ty, pos := pos, after := aft, guard := g } (.bool (ceq (a, b) (c, e))) :=
  Rt hx hy (fun x y => by
    simp [eqGuard, binOp, Op.complexOp, Op.Complex.cmp, Op.floatCmp, FloatKind.format, asBool, ceq])
theorem Rn.cneq {t t' : TypeId} {x y : Operand} {a b c e : Nat} (hx : ev k x = some (.complex .f64 a b)) (hy : ev k y = some (.complex .f64 c e)) :
    Rn P n k w { dst := d, op := .binOp .neq t x y t', type := ty, pos := pos, after := aft, guard := g } (.bool (!ceq (a, b) (c, e))) :=
  Rt hx hy (fun x y => by
    simp [eqGuard, binOp, Op.complexOp, Op.Complex.cmp, Op.floatCmp, FloatKind.format, asBool, ceq])
theorem Rn.minI {t t' : TypeId} {x y : Operand} {q : IntKind} {a b : Int} (hx : ev k x = some (.int q a)) (hy : ev k y = some (.int q b)) :
    Rn P n k w { dst := d, op := .call { callee := .builtin .min, args := #[x, y], argTypes := #[t, t'] }, type := ty, pos := pos, after := aft, guard := g } (.int q (if b < a then b else a)) :=
  fun ac ha => by simp [execOp, resolve, invoke, builtin, ha.eval hx, ha.eval hy, Builtin.min_, Builtin.min2]
theorem Wk.mkC {t e : TypeId} {by' : Nat} {x y : Operand} {ql qc : IntKind} {l : Int} (ht : P.underlying t = some (.slice e)) (hi : Inf P e (.complex .f64 0 0) 1 by') (hx : ev k x = some (.int ql l)) (hy : ev k y = some (.int qc l)) (h0 : 0 ≤ l) (hb : (by' : Int) * l ≤ 281474976710656) (hm : l ≤ 281474976710656) :
    Wk P n k w { dst := d, op := .makeSlice t x y, type := ty, pos := pos, after := aft, guard := g }
      (fun v w' => ∃ p, v = .slice (some ⟨p, 0, none⟩) l.toNat l.toNat ∧ CR e w' (p + 1) (some ⟨p, 0, none⟩) l.toNat l.toNat (List.replicate l.toNat (0, 0)) ∧ Ch No w w' ∧ p = w.heap.size ∧ w'.heap.size = w.heap.size + 1) :=
  (Wk.make ht hi hx hy h0 (Int.le_refl _) hb (by omega)).mono fun v w' ⟨p, hv, N⟩ => by
    rw [Nat.mul_one] at N
    have e1 : (Value.complex .f64 0 0).cells = #[.complex .f64 0 0] := rfl
    rw [e1, made_one] at N
    refine ⟨p, hv, ?_, N.ch, N.p, N.size⟩
    have : (List.replicate l.toNat ((0, 0) : CB)).map cxV = List.replicate l.toNat (.complex .f64 0 0) := by simp
    show Ow _ _ _ _ _ _ _ (List.map cxV _)
    rw [this]
    exact Ow.of_new N (by simp) (by simp only [maxLen]; omega)
theorem Rl {t e : TypeId} {r l c i : Nat} {A : Option Addr} {xs : List CB} {x y : Operand} {a b : Nat} (hz : ∀ w, (sizeOf t).run P w = .ok 1 w) (hx : ev k x = some (.pointer (some ((sAddr A).add (i * 1))))) (hy : ev k y = some (.complex .f64 a b)) (hi : i < l) (hown : CR e w r A l c xs) :
    Wk P n k w { dst := none, op := .store t x y, type := ty, pos := pos, after := aft, guard := g } (fun _ w' => CR e w' r A l c (xs.set i (a, b)) ∧ Ch (At r) w w' ∧ w'.heap.size = w.heap.size) :=
  (Wk.putOw hz hx hy rfl hi hown).mono fun _ w' ⟨h1, h2, h3⟩ => ⟨by show Ow _ _ _ _ _ _ _ (List.map cxV _); rw [List.map_set]; exact h1, h2, h3⟩
theorem Wk.clearC {t e : TypeId} {by' r l c : Nat} {A : Option Addr} {xs : List CB} {x : Operand} (ht : P.underlying t = some (.slice e)) (hi : Inf P e (.complex .f64 0 0) 1 by') (hx : ev k x = some (.slice A l c)) (hown : CR e w r A l c xs) (hl : 0 < l) :
    Wk P n k w { dst := none, op := .call { callee := .builtin .clear, args := #[x], argTypes := #[t] }, type := ty, pos := pos, after := aft, guard := g } (fun _ w' => CR e w' r A l c (List.replicate l (0, 0)) ∧ Ch (At r) w w' ∧ w'.heap.size = w.heap.size) := by
  obtain ⟨g', cur, rfl, rfl, hg, hlc, hcm, hcs, htk⟩ := Ow.open' hown hl
  obtain ⟨inf, h1, h2, h3, h4⟩ := hi
  have hzv : (zeroValue e).run P w = .ok (.complex .f64 0 0) w := by simp [zeroValue, typeInfo, h1, h2]
  obtain ⟨m, rfl⟩ : ∃ m, l = m + 1 := ⟨l - 1, by omega⟩
  have hzc : ∀ u ∈ (Builtin.zeroCells (Value.complex .f64 0 0).cells (m + 1)).toList, u = .complex .f64 0 0 := fun u hu => by
    simp only [Builtin.zeroCells, show (Value.complex .f64 0 0).cells = #[.complex .f64 0 0] from rfl] at hu
    simp [Nat.mod_one] at hu
    exact hu.2.symm
  have hzl : (Builtin.zeroCells (Value.complex .f64 0 0).cells (m + 1)).toList.length = m + 1 := by simp [size_zeroCells, show (Value.complex .f64 0 0).cells = #[.complex .f64 0 0] from rfl]
  have hZ : (Builtin.zeroCells (Value.complex .f64 0 0).cells (m + 1)).toList = List.replicate (m + 1) (.complex .f64 0 0) := List.eq_replicate_iff.2 ⟨hzl, hzc⟩
  have hst := run_storeCells_at P g' 0 e (List.replicate (m + 1) (.complex .f64 0 0)) 0 cur w hg (by simp; omega) (fun u hu => by rw [List.eq_of_mem_replicate hu]; rfl)
  simp only [Nat.add_zero, Nat.zero_add, List.take_zero, List.nil_append] at hst
  have hs := Sts.of_row (w' := w.setRow g' (List.replicate (m + 1) (Value.complex .f64 0 0) ++ cur.toList.drop (List.replicate (m + 1) (Value.complex .f64 0 0)).length).toArray) rfl hg
  refine Rm fun a ha => ⟨.tuple #[], _, ?_, ⟨by simp, .inr ⟨g', _, rfl, rfl, hs.same, hlc, hcm, ?_, ?_⟩⟩, hs.ch.more (fun q _ hq => by rw [hq]), hs.size⟩
  · simp [execOp, resolve, invoke, builtin, ha.eval hx, Builtin.clear_, run_underlying ht, hzv, hZ, hst]
  · simp; omega
  · simp
theorem Wk.copyC {S : Nat → Prop} {t u e : TypeId} {by' r l c m mc : Nat} {A B : Option Addr} {xs ys : List CB} {x y : Operand} {off : Int} (ht : P.underlying t = some (.slice e)) (hi : Inf P e (.complex .f64 0 0) 1 by')
    (hx : ev k x = some (.slice (if c = off.toNat then A else A.map (·.add (off.toNat * 1))) (l - off.toNat) (c - off.toNat))) (hy : ev k y = some (.slice B m mc)) (hown : CR e w r A l c xs) (hsrc : SlR S w B m 1 (ys.map cxV)) (hoff : off.toNat + m ≤ l) (hl : l ≤ c) :
    Wk P n k w { dst := d, op := .call { callee := .builtin .copy, args := #[x, y], argTypes := #[t, u] }, type := ty, pos := pos, after := aft, guard := g } (fun v w' => v = .int .i64 m ∧ CR e w' r A l c (xs.take off.toNat ++ ys ++ xs.drop (off.toNat + m)) ∧ Ch (At r) w w' ∧ w'.heap.size = w.heap.size) := by
  have hxl := CR.len hown
  have hyl : ys.length = m := by have := hsrc.len; simpa using this
  obtain ⟨inf, h1, h2, h3, h4⟩ := hi
  have hsz : (P.info? e).map (·.size) = some 1 := by rw [h1]; simp [h3]
  generalize hoo : off.toNat = o at *
  by_cases hm : m = 0
  · subst hm
    obtain rfl : ys = [] := List.eq_nil_of_length_eq_zero hyl
    generalize (if c = o then A else A.map (·.add (o * 1))) = AA at hx
    refine Rm fun a ha => ⟨goInt 0, w, ?_, rfl, ?_, Ch.refl _ _, rfl⟩
    · have := run_copy_none (P := P) w t u ty e AA B (l - o) (c - o) 0 mc ht hsz (by simp)
      simp [execOp, resolve, invoke, builtin, ha.eval hx, ha.eval hy, this]
    · simpa using hown
  · obtain ⟨g', cur, rfl, rfl, hg, hlc, hcm, hcs, htk⟩ := Ow.open' hown (by omega)
    obtain ⟨ad, rfl⟩ := hsrc.ne (by omega)
    rw [if_neg (by omega)] at hx
    have hx' : ev k x = some (.slice (some ⟨g', o, none⟩) (l - o) (c - o)) := by rw [hx]; simp [Addr.add_lit]
    have hmin : (ys.map cxV).length = Nat.min m (l - o) := by rw [List.length_map, hyl]; exact (Nat.min_eq_left (by omega)).symm
    have hr := run_copy_row (P := P) w t u ty e g' o (l - o) (c - o) ad m mc cur e (ys.map cxV) ht hsz hg hmin (fun j v hj => hsrc.cells ad rfl j v hj) (by simp; omega) (fun v hv => by obtain ⟨z, _, rfl⟩ := List.mem_map.1 hv; rfl)
    have hs := Sts.of_row (w' := w.setRow g' (cur.toList.take o ++ ys.map cxV ++ cur.toList.drop (o + (ys.map cxV).length)).toArray) rfl hg
    refine Rm fun a ha => ⟨goInt (ys.map cxV).length, _, ?_, by simp [goInt, hyl], ⟨by simp; omega, .inr ⟨g', _, rfl, rfl, hs.same, hlc, hcm, ?_, ?_⟩⟩, hs.ch.more (fun q _ hq => by rw [hq]), hs.size⟩
    · simp [execOp, resolve, invoke, builtin, ha.eval hx', ha.eval hy, hr]
    · simp; omega
    · rw [Nat.mul_one] at htk ⊢
      have hc : cur.toList.length = c := by simp [hcs]
      have e1 : cur.toList.take o = (xs.map cxV).take o := by rw [← htk, List.take_take, Nat.min_eq_left (by omega)]
      have e2 : (cur.toList.drop (o + m)).take (l - (o + m)) = (xs.map cxV).drop (o + m) := by rw [← htk, List.drop_take]
      have hA : (cur.toList.take o).length = o := by simp [hcs]; omega
      have hB : (ys.map cxV).length = m := by rw [List.length_map, hyl]
      rw [hB, List.take_append, List.take_of_length_le (by rw [List.length_append, hA, hB]; omega), List.length_append, hA, hB, e2, e1]
      simp only [List.map_append, List.map_take, List.map_drop]
theorem Co {t e : TypeId} {m sz b o o' : Nat} {x y : Operand} {q : IntKind} {i : Int} (ht : P.underlying t = some (.array m e)) (hz : ∀ w, (sizeOf e).run P w = .ok sz w) (hx : ev k x = some (.pointer (some ⟨b, o, none⟩))) (hy : ev k y = some (.int q i)) (h0 : 0 ≤ i) (h1 : i < m) (ho : o + i.toNat * sz = o') :
    Rn P n k w { dst := d, op := .indexAddr t x y, type := ty, pos := pos, after := aft, guard := g } (.pointer (some ⟨b, o', none⟩)) :=
  fun a ha => by subst ho; simp [execOp, ha.eval hx, ha.eval hy, Instr.indexAt, run_underlying ht, asIntOf, Instr.sureAddr, h0, h1, hz, Addr.add_lit]
theorem Rn.toArr {t e : TypeId} {N l c : Nat} {A : Option Addr} {x : Operand} (ht : P.underlying t = some (.array N e)) (hx : ev k x = some (.slice A l c)) (hl : N ≤ l) :
    Rn P n k w { dst := d, op := .sliceToArrayPointer t x, type := ty, pos := pos, after := aft, guard := g } (.pointer A) :=
  fun a ha => by
    have : ¬ l < N := by omega
    simp [execOp, ha.eval hx, Instr.arrayAt, run_underlying ht, this]
theorem Rn.sliceAll {t e : TypeId} {m sz : Nat} {x : Operand} {ad : Addr} (ht : P.underlying t = some (.array m e)) (hz : ∀ w, (sizeOf e).run P w = .ok sz w) (hx : ev k x = some (.pointer (some ad))) (hm : m ≠ 0) :
    Rn P n k w { dst := d, op := .slice t x none none none, type := ty, pos := pos, after := aft, guard := g } (.slice (some (ad.add 0)) m m) :=
  fun a ha => by simp [execOp, ha.eval hx, Instr.sliceAt, run_underlying ht, Instr.sureAddr, Instr.sliceBounds, hz, hm]
theorem Rn.sliceLH {t e : TypeId} {sz l c : Nat} {A : Option Addr} {x y z : Operand} {q q' : IntKind} {i j : Int} (ht : P.underlying t = some (.slice e)) (hz : ∀ w, (sizeOf e).run P w = .ok sz w) (hx : ev k x = some (.slice A l c)) (hy : ev k y = some (.int q i)) (hj : ev k z = some (.int q' j)) (h0 : 0 ≤ i) (h1 : i ≤ j) (h2 : j ≤ c) :
    Rn P n k w { dst := d, op := .slice t x (some y) (some z) none, type := ty, pos := pos, after := aft, guard := g } (.slice (if c = i.toNat then A else A.map (·.add (i.toNat * sz))) (j.toNat - i.toNat) (c - i.toNat)) :=
  fun a ha => by
    have h3 : 0 ≤ j := by omega
    have h4 : i ≤ (j.toNat : Int) := by omega
    simp [execOp, ha.eval hx, ha.eval hy, ha.eval hj, Instr.sliceAt, Instr.slice, run_underlying ht, Instr.sliceBounds, Instr.sliceBound, asIntOf, h0, h3, h4, h2, hz]
    intro h; omega
end
theorem SlR.sub {S : Nat → Prop} {w : World} {A : Option Addr} {l c : Nat} {cs : List Value} (h : SlR S w A l 1 cs) {i j : Nat} (h1 : i ≤ j) (h2 : j ≤ l) (hc : l ≤ c) : SlR S w (if c = i then A else A.map (·.add (i * 1))) (j - i) 1 ((cs.drop i).take (j - i)) := by
  have hl : cs.length = l := by have := h.len; omega
  refine ⟨by simp; omega, fun h0 => ?_, fun ad had => ?_, fun ad had => ?_⟩
  · obtain ⟨ad, rfl⟩ := h.ne (by omega)
    rw [if_neg (by omega)]; exact ⟨_, rfl⟩
  · intro q v hq
    have hq0 : q < j - i := by
      have := (List.getElem?_eq_some_iff.1 hq).1
      simp at this; omega
    rw [if_neg (by omega)] at had
    obtain ⟨ad', rfl⟩ := h.ne (by omega)
    injection had with had
    subst had
    rw [List.getElem?_take, if_pos hq0, List.getElem?_drop] at hq
    rw [Nat.mul_one, add_add]
    exact h.cells ad' rfl _ v hq
  · split at had
    · exact h.ok ad had
    · cases A with
      | none => cases had
      | some ad' =>
        injection had with had
        subst had
        have := h.ok ad' rfl
        unfold Addr.add
        split <;> exact this
theorem SlR.getC {S : Nat → Prop} {w : World} {A : Option Addr} {l : Nat} {xs : List CB} (h : SlR S w A l 1 (xs.map cxV)) {i : Int} (h0 : 0 ≤ i) (h1 : i < l) : w.cell? ((sAddr A).add (i.toNat * 1)) = some (.complex .f64 (xs.getD i.toNat (0, 0)).1 (xs.getD i.toNat (0, 0)).2) := SlR.get (f := cxV) h (0, 0) h0 h1
end Go.Tm
namespace Go.Tm
def plusC (x y : Cx) : Cx := (fadd x.1 y.1, fadd x.2 y.2)
def lessC (x y : Cx) : Cx := (fsub x.1 y.1, fsub x.2 y.2)
def mulC (a b : Cx) : Cx := (fsub (fmul a.1 b.1) (fmul a.2 b.2), fadd (fmul a.1 b.2) (fmul a.2 b.1))
def conjC (a : Cx) : Cx := (a.1, fneg a.2)
def timesI (a : Cx) : Cx := (fneg a.2, a.1)
def minusI (a : Cx) : Cx := (a.2, fneg a.1)
def fi (n : Int) : Fl := cn (FloatKind.f64.nearest n)
def overC (a : Cx) (n : Int) : Cx := (fquo a.1 (fi n), fquo a.2 (fi n))
def flyC : List Cx → List Cx
  | [a, b] => [plusC a b, lessC a b]
  | [a, b, c, d] => [plusC (plusC a c) (plusC b d), plusC (lessC a c) (minusI (lessC b d)), lessC (plusC a c) (plusC b d), plusC (lessC a c) (timesI (lessC b d))]
  | l => l
def pzB (b : Nat) : Nat := if (Ieee.double.order b 0 == some .eq) = true then 0 else b
def tur : Nat → Nat × Nat
  | 0 => (4607182418800017408, 0)
  | q + 1 => (Op.negFloat .f64 (tur q).2, (tur q).1)
abbrev z0 : Cx := cx (0, 0)
def putN (c : List Cx) (u v : Nat) (ys : List Cx) : Nat → List Cx
  | 0 => c
  | q + 1 => (putN c u v ys q).set (u + q * v) (ys.getD q z0)
theorem map_getD (xs : List CB) (j : Nat) : (xs.map cx).getD j z0 = cx (xs.getD j (0, 0)) := by
  simp only [List.getD, List.getElem?_map]
  cases xs[j]? <;> rfl
def rowF (n : Nat) (f : Nat → CB) (j : Nat) : List CB := (List.range j).map f ++ List.replicate (n - j) (0, 0)
theorem rowF_set {n j : Nat} {f : Nat → CB} (h : j < n) : (rowF n f j).set j (f j) = rowF n f (j + 1) := by
  unfold rowF
  obtain ⟨m, hm⟩ : ∃ m, n - j = m + 1 := ⟨n - j - 1, by omega⟩
  rw [hm, show n - (j + 1) = m by omega, List.set_append_right _ _ (by simp), List.range_succ, List.map_append]
  simp [List.replicate_succ]
theorem rowF_zero (n : Nat) (f : Nat → CB) : rowF n f 0 = List.replicate n (0, 0) := by simp [rowF]
theorem rowF_all (n : Nat) (f : Nat → CB) : rowF n f n = (List.range n).map f := by simp [rowF]
def cntS : List Stp → Int
  | [] => 0
  | s :: t => s.count + cntS t
theorem cntS_drop {L : List Stp} {j : Nat} {s : Stp} (h : L[j]? = some s) : cntS (L.drop j) = s.count + cntS (L.drop (j + 1)) := by
  rw [← List.cons_getElem?_drop_succ' h]; rfl
def StepOk (s : Stp) (N : Nat) : Prop := 1 ≤ s.count ∧ s.count ≤ 1000000 ∧ 0 ≤ s.dst ∧ 0 ≤ s.src ∧ 1 ≤ s.jump ∧ s.jump ≤ 1000000 ∧ ((s.op = 1 ∧ s.dst + s.count ≤ N ∧ s.src + (s.count - 1) * s.jump < N) ∨ (s.op = 5 ∧ (s.n = 2 ∨ s.n = 4) ∧ s.dst + s.count - 1 + (s.n - 1) * s.jump < N) ∨ (s.op = 6 ∧ (s.n = 1 ∨ s.n = 2 ∨ s.n = 4) ∧ s.count ≤ s.n ∧ s.dst + s.count ≤ N ∧ s.src + (s.n - 1) * s.jump < N))
instance (s : Stp) (N : Nat) : Decidable (StepOk s N) := by unfold StepOk; infer_instance
theorem cntS_some {L : List Stp} {j : Nat} (h : 0 < cntS (L.drop j)) : ∃ s, L[j]? = some s := by
  by_cases hj : j < L.length
  · exact ⟨_, List.getElem?_eq_getElem hj⟩
  · rw [List.drop_of_length_le (by omega)] at h
    exact absurd h (by decide)
end Go.Tm
namespace Go.Tm
set_option maxRecDepth 100000
open Go.RowKit Go.Proofs
structure AtR (S : Nat → Prop) (w : World) (p5 p6 p7 : Nat) (A : Option Addr) (l c : Nat) (xs : List CB) (u v : Nat) : Prop where
  b5 : Bk w p5 #[.slice A l c] 31
  b6 : Bk w p6 #[.int .i64 u] 3
  b7 : Bk w p7 #[.int .i64 v] 3
  sl : SlR S w A l 1 (xs.map cxV)
theorem AtR.keep {S : Nat → Prop} {w w' : World} {p5 p6 p7 : Nat} {A : Option Addr} {l c : Nat} {xs : List CB} {u v : Nat} (h : AtR S w p5 p6 p7 A l c xs u v) (m : Ch No w w') : AtR S w' p5 p6 p7 A l c xs u v := ⟨h.b5.keep m, h.b6.keep m, h.b7.keep m, h.sl.keep m⟩
abbrev XX (xs : List CB) (u v : Nat) : Nat → Cx := fun i => cx (xs.getD (u + i * v) (0, 0))
theorem bld286_0_1w40 {v0 v1 : Value} (h : [v0, v1].all Value.oneCell' = true) (w : World) : (Instr.build 286 ([(0, v0), (1, v1)] : List (Nat × Value)).toArray).run Tryz.prog w = .ok (.agg #[v0, v1]) w := by
  simp only [List.all_cons, Bool.and_eq_true, List.all_nil, and_true] at h
  have hv0 := oneCell_cells (v := v0) (by simp_all)
  have hv1 := oneCell_cells (v := v1) (by simp_all)
  have h1 := fill_set (fun i => some (i * 1, 1)) [(0, v0), (1, v1)] [.complex .f64 0 0, .complex .f64 0 0] (by simp [okF, agg_cells, hv0, hv1, Nat.beq, Nat.ble])
  simp [setF, agg_cells, hv0, hv1] at h1
  simp [Instr.build, Tryz.runUnderlying286, ζ286, ς33, agg_cells, h1]
theorem bld290_0_1_2_3w40 {v0 v1 v2 v3 : Value} (h : [v0, v1, v2, v3].all Value.oneCell' = true) (w : World) : (Instr.build 290 ([(0, v0), (1, v1), (2, v2), (3, v3)] : List (Nat × Value)).toArray).run Tryz.prog w = .ok (.agg #[v0, v1, v2, v3]) w := by
  simp only [List.all_cons, Bool.and_eq_true, List.all_nil, and_true] at h
  have hv0 := oneCell_cells (v := v0) (by simp_all)
  have hv1 := oneCell_cells (v := v1) (by simp_all)
  have hv2 := oneCell_cells (v := v2) (by simp_all)
  have hv3 := oneCell_cells (v := v3) (by simp_all)
  have h1 := fill_set (fun i => some (i * 1, 1)) [(0, v0), (1, v1), (2, v2), (3, v3)] [.complex .f64 0 0, .complex .f64 0 0, .complex .f64 0 0, .complex .f64 0 0] (by simp [okF, agg_cells, hv0, hv1, hv2, hv3, Nat.beq, Nat.ble])
  simp [setF, agg_cells, hv0, hv1, hv2, hv3] at h1
  simp [Instr.build, Tryz.runUnderlying290, ζ290, ς33, agg_cells, h1]
theorem fly_plus (a b c d : Nat) (w : World) :
  Calls Tryz.prog 296 #[.complex .f64 a b, .complex .f64 c d] w (Ret (fun v w' => ∃ p q, v = .complex .f64 p q ∧ cx (p, q) = plusC (cx (a, b)) (cx (c, d)) ∧ Ch No w w')) := by
 refine calls_of_VC (args := [.complex .f64 a b, .complex .f64 c d]) Tryz.func296 rfl Tryz.ntmps296 rfl (Qe (Qb (Om (Qd rfl) rfl (Qf (Qa (Qe (Qb ?_)))))))
 refine Om (Qc rfl) rfl (Om (Rw rfl) rfl (Om (Qc rfl) rfl (Om (Rw rfl) rfl (Oq (Re (.inl rfl) rfl rfl) rfl ?_))))
 rintro _ w1 ⟨r1, rfl, f1, c1⟩
 have z1 := c1.size
 refine Om (Qc rfl) rfl (Om (Rx rfl) rfl (Om (Qc rfl) rfl (Om (Rx rfl) rfl (Oq (Re (.inl rfl) rfl rfl) rfl ?_))))
 rintro _ w2 ⟨r2, rfl, f2, c2⟩
 have z2 := c2.size
 refine Om (Ru rfl rfl) rfl (Om (Qd rfl) rfl (Qf (Qa (Qp (Qy rfl rfl (Ret.mk ?_))))))
 have CH_2 := (Ch.refl (No) w).and (c1.trans c2)
 exact ⟨_, _, rfl, (by show (cn _, cn _) = _; rw [f1, f2]; rfl), CH_2⟩
theorem fly_less (a b c d : Nat) (w : World) :
  Calls Tryz.prog 297 #[.complex .f64 a b, .complex .f64 c d] w (Ret (fun v w' => ∃ p q, v = .complex .f64 p q ∧ cx (p, q) = lessC (cx (a, b)) (cx (c, d)) ∧ Ch No w w')) := by
 refine calls_of_VC (args := [.complex .f64 a b, .complex .f64 c d]) Tryz.func297 rfl Tryz.ntmps297 rfl (Qe (Qb (Om (Qd rfl) rfl (Qf (Qa (Qe (Qb ?_)))))))
 refine Om (Qc rfl) rfl (Om (Rw rfl) rfl (Om (Qc rfl) rfl (Om (Rw rfl) rfl (Oq (Re (.inr (.inl rfl)) rfl rfl) rfl ?_))))
 rintro _ w1 ⟨r1, rfl, f1, c1⟩
 have z1 := c1.size
 refine Om (Qc rfl) rfl (Om (Rx rfl) rfl (Om (Qc rfl) rfl (Om (Rx rfl) rfl (Oq (Re (.inr (.inl rfl)) rfl rfl) rfl ?_))))
 rintro _ w2 ⟨r2, rfl, f2, c2⟩
 have z2 := c2.size
 refine Om (Ru rfl rfl) rfl (Om (Qd rfl) rfl (Qf (Qa (Qp (Qy rfl rfl (Ret.mk ?_))))))
 have CH_2 := (Ch.refl (No) w).and (c1.trans c2)
 exact ⟨_, _, rfl, (by show (cn _, cn _) = _; rw [f1, f2]; rfl), CH_2⟩
theorem cplx_Mul (a b c d : Nat) (w : World) :
  Calls Tryz.prog 48 #[.complex .f64 a b, .complex .f64 c d] w (Ret (fun v w' => ∃ p q, v = .complex .f64 p q ∧ cx (p, q) = mulC (cx (a, b)) (cx (c, d)) ∧ Ch No w w')) := by
 refine calls_of_VC (args := [.complex .f64 a b, .complex .f64 c d]) Tryz.func48 rfl Tryz.ntmps48 rfl (Qe (Qb (Om (Qd rfl) rfl (Qf (Qa (Qe (Qb ?_)))))))
 refine Om (Qc rfl) rfl (Om (Rw rfl) rfl (Om (Qc rfl) rfl (Om (Rx rfl) rfl (Om (Qc rfl) rfl (Om (Rw rfl) rfl (Om (Qc rfl) rfl (Om (Rx rfl) rfl ?_)))))))
 refine Om (Qd rfl) rfl (Om (Qd rfl) rfl (Om (Qd rfl) rfl (Om (Qd rfl) rfl (Qf (Qa (Qe (Qb ?_)))))))
 refine Om (Qc rfl) rfl (Om (Qc rfl) rfl (Oq (Re (.inr (.inr (.inl rfl))) rfl rfl) rfl ?_))
 rintro _ w1 ⟨r1, rfl, f1, c1⟩
 have z1 := c1.size
 refine Om (Qc rfl) rfl (Om (Qc rfl) rfl (Oq (Re (.inr (.inr (.inl rfl))) rfl rfl) rfl ?_))
 rintro _ w2 ⟨r2, rfl, f2, c2⟩
 have z2 := c2.size
 refine Oq (Re (.inr (.inl rfl)) rfl rfl) rfl ?_
 rintro _ w3 ⟨r3, rfl, f3, c3⟩
 have z3 := c3.size
 refine Om (Qc rfl) rfl (Om (Qc rfl) rfl (Oq (Re (.inr (.inr (.inl rfl))) rfl rfl) rfl ?_))
 rintro _ w4 ⟨r4, rfl, f4, c4⟩
 have z4 := c4.size
 refine Om (Qc rfl) rfl (Om (Qc rfl) rfl (Oq (Re (.inr (.inr (.inl rfl))) rfl rfl) rfl ?_))
 rintro _ w5 ⟨r5, rfl, f5, c5⟩
 have z5 := c5.size
 refine Oq (Re (.inl rfl) rfl rfl) rfl ?_
 rintro _ w6 ⟨r6, rfl, f6, c6⟩
 have z6 := c6.size
 refine Om (Ru rfl rfl) rfl (Om (Qd rfl) rfl (Qf (Qa (Qp (Qy rfl rfl (Ret.mk ?_))))))
 have CH_6 := (Ch.refl (No) w).and (c1.trans (c2.trans (c3.trans (c4.trans (c5.trans c6)))))
 exact ⟨_, _, rfl, (by show (cn _, cn _) = _; rw [f3, f6, f1, f2, f4, f5]; rfl), CH_6⟩
theorem cplx_Conj (a b : Nat) (w : World) :
  Calls Tryz.prog 78 #[.complex .f64 a b] w (Ret (fun v w' => ∃ p q, v = .complex .f64 p q ∧ cx (p, q) = conjC (cx (a, b)) ∧ Ch No w w')) := by
 refine calls_of_VC (args := [.complex .f64 a b]) Tryz.func78 rfl Tryz.ntmps78 rfl (Qe (Qb (Om (Qd rfl) rfl (Qf (Qa (Qe (Qb ?_)))))))
 refine Om (Qc rfl) rfl (Om (Rw rfl) rfl (Om (Qc rfl) rfl (Om (Rx rfl) rfl (Om (Rn.fneg rfl) rfl (Om (Ru rfl rfl) rfl (Om (Qd rfl) rfl (Qf ?_)))))))
 refine Qa (Qp (Qy rfl rfl (Ret.mk ?_)))
 exact ⟨_, _, rfl, (by show (cn _, cn _) = _; rw [cn_neg]; rfl), (Ch.refl (No) w)⟩
theorem cplx_TimesI (a b : Nat) (w : World) :
  Calls Tryz.prog 122 #[.complex .f64 a b] w (Ret (fun v w' => ∃ p q, v = .complex .f64 p q ∧ cx (p, q) = timesI (cx (a, b)) ∧ Ch No w w')) := by
 refine calls_of_VC (args := [.complex .f64 a b]) Tryz.func122 rfl Tryz.ntmps122 rfl (Qe (Qb (Om (Qd rfl) rfl (Qf (Qa (Qe (Qb ?_)))))))
 refine Om (Qc rfl) rfl (Om (Rx rfl) rfl (Om (Rn.fneg rfl) rfl (Om (Qc rfl) rfl (Om (Rw rfl) rfl (Om (Ru rfl rfl) rfl (Om (Qd rfl) rfl (Qf ?_)))))))
 refine Qa (Qp (Qy rfl rfl (Ret.mk ?_)))
 exact ⟨_, _, rfl, (by show (cn _, cn _) = _; rw [cn_neg]; rfl), (Ch.refl (No) w)⟩
theorem cplx_MinusI (a b : Nat) (w : World) :
  Calls Tryz.prog 80 #[.complex .f64 a b] w (Ret (fun v w' => ∃ p q, v = .complex .f64 p q ∧ cx (p, q) = minusI (cx (a, b)) ∧ Ch No w w')) := by
 refine calls_of_VC (args := [.complex .f64 a b]) Tryz.func80 rfl Tryz.ntmps80 rfl (Qe (Qb (Om (Qd rfl) rfl (Qf (Qa (Qe (Qb ?_)))))))
 refine Om (Qc rfl) rfl (Om (Rx rfl) rfl (Om (Qc rfl) rfl (Om (Rw rfl) rfl (Om (Rn.fneg rfl) rfl (Om (Ru rfl rfl) rfl (Om (Qd rfl) rfl (Qf ?_)))))))
 refine Qa (Qp (Qy rfl rfl (Ret.mk ?_)))
 exact ⟨_, _, rfl, (by show (cn _, cn _) = _; rw [cn_neg]; rfl), (Ch.refl (No) w)⟩
theorem cplx_Over (a b : Nat) (m : Int) (w : World) :
  Calls Tryz.prog 136 #[.complex .f64 a b, .int .i64 m] w (Ret (fun v w' => ∃ p q, v = .complex .f64 p q ∧ cx (p, q) = overC (cx (a, b)) m ∧ Ch No w w')) := by
 refine calls_of_VC (args := [.complex .f64 a b, .int .i64 m]) Tryz.func136 rfl Tryz.ntmps136 rfl (Qe (Qb (Om (Qd rfl) rfl (Qf (Qa (Qe (Qb ?_)))))))
 refine Om (Qc rfl) rfl (Om (Rn.conv_if υ3 υ32 rfl) rfl (Om (Qd rfl) rfl (Qf (Qa (Qe (Qb (Om (Qc rfl) rfl ?_)))))))
 refine Om (Rw rfl) rfl (Om (Qc rfl) rfl (Oq (Re (.inr (.inr (.inr rfl))) rfl rfl) rfl ?_))
 rintro _ w1 ⟨r1, rfl, f1, c1⟩
 have z1 := c1.size
 refine Om (Qc rfl) rfl (Om (Rx rfl) rfl (Om (Qc rfl) rfl (Oq (Re (.inr (.inr (.inr rfl))) rfl rfl) rfl ?_)))
 rintro _ w2 ⟨r2, rfl, f2, c2⟩
 have z2 := c2.size
 refine Om (Ru rfl rfl) rfl (Om (Qd rfl) rfl (Qf (Qa (Qp (Qy rfl rfl (Ret.mk ?_))))))
 have CH_2 := (Ch.refl (No) w).and (c1.trans c2)
 exact ⟨_, _, rfl, (by show (cn _, cn _) = _; rw [f1, f2]; rfl), CH_2⟩
theorem fly_Two (x y : CB) (w : World) :
  Calls Tryz.prog 277 #[.agg #[.complex .f64 x.1 x.2, .complex .f64 y.1 y.2]] w (Ret (fun v w' => ∃ a b : CB, v = .agg #[cxV a, cxV b] ∧ [cx a, cx b] = flyC [cx x, cx y] ∧ Ch No w w')) := by
 refine calls_of_VC (args := [.agg #[.complex .f64 x.1 x.2, .complex .f64 y.1 y.2]]) Tryz.func277 rfl Tryz.ntmps277 rfl (Qe (Qb (Oq (Cj rfl) rfl ?_)))
 rintro _ w1 ⟨p1, rfl, N1⟩
 have c1 := N1.ch
 have e1 := N1.p; have z1 := N1.size
 have b1 := Bk.new N1
 refine Oq (Cc ζ286) rfl ?_
 rintro _ w2 ⟨p2, rfl, N2⟩
 have c2 := N2.ch
 have e2 := N2.p; have z2 := N2.size
 have b2 := Bk.new N2
 refine Qf (Qa (Qe (Ci 11 [(0, true), (1, true), (2, true), (3, true), (5, true), (6, true), (7, true), (8, true), (4, false), (9, false), (10, true)] (fun w1 w' => Ch (No) w1 w') mixed (by kernel_rfl) (fun _ _ => Ch.refl _ _) ?_)))
 intro w3 D3
 have c3 := Ch.of_drew D3; have z3 := c3.size
 have b1_3 := b1.keep (c2.trans c3)
 have b2_3 := b2.keep c3
 refine Hm (fun w' hS => Co (o' := 0) υ286 ς33 rfl rfl (by decide) (by decide) rfl) rfl (Hm (fun w' hS => Qh ι33 rfl ((b1_3.keep hS).cell rfl)) rfl (Hm (fun w' hS => Co (o' := 1) υ286 ς33 rfl rfl (by decide) (by decide) rfl) rfl (Hm (fun w' hS => Qh ι33 rfl ((b1_3.keep hS).cell rfl)) rfl (Hm (fun w' hS => Co (o' := 0) υ286 ς33 rfl rfl (by decide) (by decide) rfl) rfl (Hm (fun w' hS => Qh ι33 rfl ((b1_3.keep hS).cell rfl)) rfl (Hm (fun w' hS => Co (o' := 1) υ286 ς33 rfl rfl (by decide) (by decide) rfl) rfl (Hm (fun w' hS => Qh ι33 rfl ((b1_3.keep hS).cell rfl)) rfl ?_)))))))
 refine Hq (Qi κ296 rfl (fly_plus _ _ _ _ _)) rfl ?_
 rintro _ w4 ⟨p4, q4, rfl, F4, c4⟩
 have z4 := c4.size
 have RD_4 := (Ch.refl (No) w3).and c4
 refine ⟨RD_4, ?_⟩
 refine Hq (Qi κ297 rfl (fly_less _ _ _ _ _)) rfl ?_
 rintro _ w5 ⟨p5, q5, rfl, F5, c5⟩
 have z5 := c5.size
 have RD_5 := RD_4.and c5
 refine ⟨RD_5, ?_⟩
 refine Hm (fun w' hS => Cl rfl (bld286_0_1w40 rfl)) rfl (Cn ?_)
 have b2_5 := b2_3.keep (c4.trans c5)
 refine Oz (Cf ς286 rfl rfl rfl rfl b2_5 (Nat.le_of_ble_eq_true rfl)) rfl ?_
 intro _ w6 Z6
 have c6 := Z6.ch; have z6 := Z6.size
 have b2_6 := Bk.put Z6
 refine Qf (Qx (Qa (Qp (Rk rfl rfl Tryz.isAgg286 ς286 rfl (b2_6.all' rfl) (Ret.mk ?_)))))
 have cc_0_6 : Ch No w w6 := (Ch.then (E := No) ((((c1.and c2).and c3).and c4).and c5) c6 (by intro q h1 h2; rcases h2 with h2 | h2 <;> first | exact h2 | (exfalso; omega)))
 have CH_6 := (Ch.refl (No) w).and cc_0_6
 exact ⟨(_, _), (_, _), rfl, (by rw [F4, F5]; rfl), CH_6⟩
theorem fly_Four (x y u v : CB) (w : World) :
  Calls Tryz.prog 279 #[.agg #[.complex .f64 x.1 x.2, .complex .f64 y.1 y.2, .complex .f64 u.1 u.2, .complex .f64 v.1 v.2]] w (Ret (fun r w' => ∃ a b c d : CB, r = .agg #[cxV a, cxV b, cxV c, cxV d] ∧ [cx a, cx b, cx c, cx d] = flyC [cx x, cx y, cx u, cx v] ∧ Ch No w w')) := by
 refine calls_of_VC (args := [.agg #[.complex .f64 x.1 x.2, .complex .f64 y.1 y.2, .complex .f64 u.1 u.2, .complex .f64 v.1 v.2]]) Tryz.func279 rfl Tryz.ntmps279 rfl (Qe (Qb (Oq (Cj rfl) rfl ?_)))
 rintro _ w1 ⟨p1, rfl, N1⟩
 have c1 := N1.ch
 have e1 := N1.p; have z1 := N1.size
 have b1 := Bk.new N1
 refine Oq (Cc ζ290) rfl ?_
 rintro _ w2 ⟨p2, rfl, N2⟩
 have c2 := N2.ch
 have e2 := N2.p; have z2 := N2.size
 have b2 := Bk.new N2
 refine Qf (Qa (Qe (Ci 11 [(0, true), (1, true), (2, true), (3, true), (5, true), (6, true), (7, true), (8, true), (4, false), (9, false), (10, true)] (fun w1 w' => Ch (No) w1 w') mixed (by kernel_rfl) (fun _ _ => Ch.refl _ _) ?_)))
 intro w3 D3
 have c3 := Ch.of_drew D3; have z3 := c3.size
 have b1_3 := b1.keep (c2.trans c3)
 have b2_3 := b2.keep c3
 refine Hm (fun w' hS => Co (o' := 0) υ290 ς33 rfl rfl (by decide) (by decide) rfl) rfl (Hm (fun w' hS => Qh ι33 rfl ((b1_3.keep hS).cell rfl)) rfl (Hm (fun w' hS => Co (o' := 2) υ290 ς33 rfl rfl (by decide) (by decide) rfl) rfl (Hm (fun w' hS => Qh ι33 rfl ((b1_3.keep hS).cell rfl)) rfl (Hm (fun w' hS => Co (o' := 0) υ290 ς33 rfl rfl (by decide) (by decide) rfl) rfl (Hm (fun w' hS => Qh ι33 rfl ((b1_3.keep hS).cell rfl)) rfl (Hm (fun w' hS => Co (o' := 2) υ290 ς33 rfl rfl (by decide) (by decide) rfl) rfl (Hm (fun w' hS => Qh ι33 rfl ((b1_3.keep hS).cell rfl)) rfl ?_)))))))
 refine Hq (Qi κ296 rfl (fly_plus _ _ _ _ _)) rfl ?_
 rintro _ w4 ⟨p4, q4, rfl, F4, c4⟩
 have z4 := c4.size
 have RD_4 := (Ch.refl (No) w3).and c4
 refine ⟨RD_4, ?_⟩
 refine Hq (Qi κ297 rfl (fly_less _ _ _ _ _)) rfl ?_
 rintro _ w5 ⟨p5, q5, rfl, F5, c5⟩
 have z5 := c5.size
 have RD_5 := RD_4.and c5
 refine ⟨RD_5, ?_⟩
 refine Hm (fun w' hS => Qd rfl) rfl (Cn (Om (Qd rfl) rfl (Qf (Qx (Qa (Qe (Ci 11 [(0, true), (1, true), (2, true), (3, true), (5, true), (6, true), (7, true), (8, true), (4, false), (9, false), (10, true)] (fun w1 w' => Ch (No) w1 w') mixed (by kernel_rfl) (fun _ _ => Ch.refl _ _) ?_)))))))
 intro w6 D6
 have c6 := Ch.of_drew D6; have z6 := c6.size
 have b1_6 := b1_3.keep (c4.trans (c5.trans c6))
 have b2_6 := b2_3.keep (c4.trans (c5.trans c6))
 refine Hm (fun w' hS => Co (o' := 1) υ290 ς33 rfl rfl (by decide) (by decide) rfl) rfl (Hm (fun w' hS => Qh ι33 rfl ((b1_6.keep hS).cell rfl)) rfl (Hm (fun w' hS => Co (o' := 3) υ290 ς33 rfl rfl (by decide) (by decide) rfl) rfl (Hm (fun w' hS => Qh ι33 rfl ((b1_6.keep hS).cell rfl)) rfl (Hm (fun w' hS => Co (o' := 1) υ290 ς33 rfl rfl (by decide) (by decide) rfl) rfl (Hm (fun w' hS => Qh ι33 rfl ((b1_6.keep hS).cell rfl)) rfl (Hm (fun w' hS => Co (o' := 3) υ290 ς33 rfl rfl (by decide) (by decide) rfl) rfl (Hm (fun w' hS => Qh ι33 rfl ((b1_6.keep hS).cell rfl)) rfl ?_)))))))
 refine Hq (Qi κ296 rfl (fly_plus _ _ _ _ _)) rfl ?_
 rintro _ w7 ⟨p7, q7, rfl, F7, c7⟩
 have z7 := c7.size
 have RD_7 := (Ch.refl (No) w6).and c7
 refine ⟨RD_7, ?_⟩
 refine Hq (Qi κ297 rfl (fly_less _ _ _ _ _)) rfl ?_
 rintro _ w8 ⟨p8, q8, rfl, F8, c8⟩
 have z8 := c8.size
 have RD_8 := RD_7.and c8
 refine ⟨RD_8, ?_⟩
 refine Hm (fun w' hS => Qd rfl) rfl (Cn (Om (Qd rfl) rfl (Qf (Qx (Qa (Qe (Qb ?_)))))))
 refine Om (Qc rfl) rfl (Om (Qc rfl) rfl (Oq (Qi κ296 rfl (fly_plus _ _ _ _ _)) rfl ?_))
 rintro _ w9 ⟨p9, q9, rfl, F9, c9⟩
 have z9 := c9.size
 refine Om (Qc rfl) rfl (Om (Qc rfl) rfl (Oq (Qi κ80 rfl (cplx_MinusI _ _ _)) rfl ?_))
 rintro _ w10 ⟨p10, q10, rfl, F10, c10⟩
 have z10 := c10.size
 refine Oq (Qi κ296 rfl (fly_plus _ _ _ _ _)) rfl ?_
 rintro _ w11 ⟨p11, q11, rfl, F11, c11⟩
 have z11 := c11.size
 refine Om (Qc rfl) rfl (Om (Qc rfl) rfl (Oq (Qi κ297 rfl (fly_less _ _ _ _ _)) rfl ?_))
 rintro _ w12 ⟨p12, q12, rfl, F12, c12⟩
 have z12 := c12.size
 refine Om (Qc rfl) rfl (Om (Qc rfl) rfl (Oq (Qi Tryz.call122 rfl (cplx_TimesI _ _ _)) rfl ?_))
 rintro _ w13 ⟨p13, q13, rfl, F13, c13⟩
 have z13 := c13.size
 refine Oq (Qi κ296 rfl (fly_plus _ _ _ _ _)) rfl ?_
 rintro _ w14 ⟨p14, q14, rfl, F14, c14⟩
 have z14 := c14.size
 refine Om (Cl rfl (bld290_0_1_2_3w40 rfl)) rfl ?_
 have b2_14 := b2_6.keep (c7.trans (c8.trans (c9.trans (c10.trans (c11.trans (c12.trans (c13.trans c14)))))))
 refine Oz (Cf ς290 rfl rfl rfl rfl b2_14 (Nat.le_of_ble_eq_true rfl)) rfl ?_
 intro _ w15 Z15
 have c15 := Z15.ch; have z15 := Z15.size
 have b2_15 := Bk.put Z15
 refine Qf (Qa (Qp (Rk rfl rfl Tryz.isAgg290 ς290 rfl (b2_15.all' rfl) (Ret.mk ?_))))
 have cc_0_15 : Ch No w w15 := (Ch.then (E := No) (((((((((((((c1.and c2).and c3).and c4).and c5).and c6).and c7).and c8).and c9).and c10).and c11).and c12).and c13).and c14) c15 (by intro q h1 h2; rcases h2 with h2 | h2 <;> first | exact h2 | (exfalso; omega)))
 have CH_15 := (Ch.refl (No) w).and cc_0_15
 exact ⟨(_, _), (_, _), (_, _), (_, _), rfl, (by rw [F9, F11, F10, F12, F14, F13, F4, F5, F7, F8]; rfl), CH_15⟩
theorem fly_Fly2 (p c : Nat) (x y : CB) (S : Nat → Prop) (w : World) (sl : SlR S w (some ⟨p, 0, none⟩) 2 1 ([x, y].map cxV)) :
  Calls Tryz.prog 250 #[.slice (some ⟨p, 0, none⟩) 2 c] w (Ret (fun r w' => ∃ (q : Nat) (zs : List CB), r = .tuple #[.slice (some ⟨q, 0, none⟩) 2 2, .nilIface] ∧ zs.map cx = flyC ([x, y].map cx) ∧ SlR (Is q) w' (some ⟨q, 0, none⟩) 2 1 (zs.map cxV) ∧ w.heap.size ≤ q ∧ Ch No w w')) := by
 refine calls_of_VC (args := [.slice (some ⟨p, 0, none⟩) 2 c]) Tryz.func250 rfl Tryz.ntmps250 rfl (Qe (Qb (Om (Qd rfl) rfl (Om (Qd rfl) rfl (Qf (Qa (Qe ?_)))))))
 refine Qe (Qb (Om (Qc rfl) rfl (Om (Ra υ31 rfl) rfl (Qf (Qa (Qw (Qe ?_)))))))
 refine Qb (Om (Cm rfl rfl) rfl (Om (Qd rfl) rfl (Qf (Qa (Qj rfl (fun hc1 => ?_) (fun hc1 => ?_))))))
 ·
  refine Qe (Qb (Om (Qc rfl) rfl (Om (Rn.toArr υ286 rfl (by omega)) rfl (Om (Qr Tryz.isAgg286 ς286 rfl rfl (sl.cells _ rfl)) rfl (Oq (Qi Tryz.call277 rfl (fly_Two _ _ _)) rfl ?_)))))
  rintro _ w1 ⟨u1, v1, rfl, F1, c1⟩
  have z1 := c1.size
  refine Oq (Cc ζ286) rfl ?_
  rintro _ w2 ⟨p2, rfl, N2⟩
  have c2 := N2.ch
  have e2 := N2.p; have z2 := N2.size
  have b4 := Bk.new N2
  refine Oz (Cf ς286 rfl rfl rfl rfl b4 (Nat.le_of_ble_eq_true rfl)) rfl ?_
  intro _ w3 Z3
  have c3 := Z3.ch; have z3 := Z3.size
  have b4_3 := Bk.put Z3
  refine Qf (Qa (Qe (Qb (Om (Rn.sliceAll υ286 ς33 rfl (by decide)) rfl (Om (Qd rfl) rfl (Om (Qd rfl) rfl (Qf ?_)))))))
  refine Qa (Qp (Cd (Qu (Cz rfl rfl rfl (Ret.mk ?_)))))
  have cc_0_3 : Ch No w w3 := (Ch.then (E := No) (c1.and c2) c3 (by intro q h1 h2; rcases h2 with h2 | h2 <;> first | exact h2 | (exfalso; omega)))
  have CH_3 := (Ch.refl (No) w).and cc_0_3
  have zz := CH_3.size
  exact ⟨_, [u1, v1], rfl, by rw [show List.map cx [u1, v1] = [cx u1, cx v1] from rfl, F1]; rfl, ⟨rfl, fun _ => ⟨_, rfl⟩, fun ad h => (by injection h with h; subst h; exact (b4_3).all' rfl), fun ad h => (by injection h with h; subst h; rfl)⟩, by omega, CH_3⟩
 ·
  omega
theorem fly_Fly4 (p c : Nat) (x y u v : CB) (S : Nat → Prop) (w : World) (sl : SlR S w (some ⟨p, 0, none⟩) 4 1 ([x, y, u, v].map cxV)) :
  Calls Tryz.prog 250 #[.slice (some ⟨p, 0, none⟩) 4 c] w (Ret (fun r w' => ∃ (q : Nat) (zs : List CB), r = .tuple #[.slice (some ⟨q, 0, none⟩) 4 4, .nilIface] ∧ zs.map cx = flyC ([x, y, u, v].map cx) ∧ SlR (Is q) w' (some ⟨q, 0, none⟩) 4 1 (zs.map cxV) ∧ w.heap.size ≤ q ∧ Ch No w w')) := by
 refine calls_of_VC (args := [.slice (some ⟨p, 0, none⟩) 4 c]) Tryz.func250 rfl Tryz.ntmps250 rfl (Qe (Qb (Om (Qd rfl) rfl (Om (Qd rfl) rfl (Qf (Qa (Qe ?_)))))))
 refine Qe (Qb (Om (Qc rfl) rfl (Om (Ra υ31 rfl) rfl (Qf (Qa (Qw (Qe ?_)))))))
 refine Qb (Om (Cm rfl rfl) rfl (Om (Qd rfl) rfl (Qf (Qa (Qj rfl (fun hc1 => ?_) (fun hc1 => ?_))))))
 ·
  omega
 ·
  refine Qe (Qb (Om (Cm rfl rfl) rfl (Om (Qd rfl) rfl (Qf (Qa (Qj rfl (fun hc2 => ?_) (fun hc2 => ?_)))))))
  ·
   omega
  ·
   refine Qe (Qb (Om (Cm rfl rfl) rfl (Om (Qd rfl) rfl (Qf (Qa (Qj rfl (fun hc3 => ?_) (fun hc3 => ?_)))))))
   ·
    refine Qe (Qb (Om (Qc rfl) rfl (Om (Rn.toArr υ290 rfl (by omega)) rfl (Om (Qr Tryz.isAgg290 ς290 rfl rfl (sl.cells _ rfl)) rfl (Oq (Qi Tryz.call279 rfl (fly_Four _ _ _ _ _)) rfl ?_)))))
    rintro _ w1 ⟨u1, v1, x1, y1, rfl, F1, c1⟩
    have z1 := c1.size
    refine Oq (Cc ζ290) rfl ?_
    rintro _ w2 ⟨p2, rfl, N2⟩
    have c2 := N2.ch
    have e2 := N2.p; have z2 := N2.size
    have b6 := Bk.new N2
    refine Oz (Cf ς290 rfl rfl rfl rfl b6 (Nat.le_of_ble_eq_true rfl)) rfl ?_
    intro _ w3 Z3
    have c3 := Z3.ch; have z3 := Z3.size
    have b6_3 := Bk.put Z3
    refine Qf (Qa (Qe (Qb (Om (Rn.sliceAll υ290 ς33 rfl (by decide)) rfl (Om (Qd rfl) rfl (Om (Qd rfl) rfl (Qf ?_)))))))
    refine Qa (Qp (Cd (Qu (Cz rfl rfl rfl (Ret.mk ?_)))))
    have cc_0_3 : Ch No w w3 := (Ch.then (E := No) (c1.and c2) c3 (by intro q h1 h2; rcases h2 with h2 | h2 <;> first | exact h2 | (exfalso; omega)))
    have CH_3 := (Ch.refl (No) w).and cc_0_3
    have zz := CH_3.size
    exact ⟨_, [u1, v1, x1, y1], rfl, by rw [show List.map cx [u1, v1, x1, y1] = [cx u1, cx v1, cx x1, cx y1] from rfl, F1]; rfl, ⟨rfl, fun _ => ⟨_, rfl⟩, fun ad h => (by injection h with h; subst h; exact (b6_3).all' rfl), fun ad h => (by injection h with h; subst h; rfl)⟩, by omega, CH_3⟩
   ·
    omega
theorem roots_plus (b : Nat) (w : World) :
  Calls Tryz.prog 92 #[.float .f64 b] w (Ret (fun v w' => v = .float .f64 (pzB b) ∧ w = w')) := by
 refine calls_of_VC (args := [.float .f64 b]) Tryz.func92 rfl Tryz.ntmps92 rfl (Qe (Qb (Om (Qd rfl) rfl (Qf (Qa (Qe (Qe ?_)))))))
 refine Qb (Om (Qc rfl) rfl (Om (Rn.feql rfl rfl) rfl (Qf (Qa (Cu rfl (fun hc1 => ?_) (fun hc1 => ?_))))))
 ·
  try simp only [bX] at hc1
  refine Qe (Qb (Om (Qd rfl) rfl (Qf (Qa (Qp (Qu (Qy rfl rfl ?_)))))))
  refine Ret.mk ?_
  exact ⟨by unfold pzB; rw [if_pos hc1], rfl⟩
 ·
  try simp only [bX] at hc1
  refine Qn (Qa (Qe (Qb (Om (Qc rfl) rfl (Om (Qd rfl) rfl (Qf (Qa ?_)))))))
  refine Qp (Qy rfl rfl (Ret.mk ?_))
  exact ⟨by unfold pzB; rw [if_neg (by simpa using hc1)], rfl⟩
theorem direct_At1 (S : Nat → Prop) (w : World) (p5 p6 p7 : Nat) (A : Option Addr) (l c : Nat) (xs : List CB) (u v : Nat) (hl : l ≤ 1000000) (hu : u ≤ 1000000) (at_ : AtR S w p5 p6 p7 A l c xs u v) (j : Nat) (hj : j ≤ 64) (hb : u + j * v < l) :
  Calls Tryz.prog 283 #[.int .i64 j, .pointer (some ⟨p5, 0, none⟩), .pointer (some ⟨p6, 0, none⟩), .pointer (some ⟨p7, 0, none⟩)] w (Ret (fun r w' => r = .complex .f64 (xs.getD (u + j * v) (0, 0)).1 (xs.getD (u + j * v) (0, 0)).2 ∧ w = w')) := by
 obtain ⟨b5, b6, b7, sl⟩ := at_
 have e0 : ((j * v : Nat) : Int) = (j : Int) * (v : Int) := by push_cast; rfl
 refine calls_of_VC (args := [.int .i64 j, .pointer (some ⟨p5, 0, none⟩), .pointer (some ⟨p6, 0, none⟩), .pointer (some ⟨p7, 0, none⟩)]) Tryz.func283 rfl Tryz.ntmps283 rfl (Qe (Qb (Om (Qd rfl) rfl (Qf (Qa (Qe (Qb ?_)))))))
 refine Om (Qh ι31 rfl (b5.cell rfl)) rfl (Om (Qh ι3 rfl (b6.cell rfl)) rfl (Om (Qc rfl) rfl (Om (Qh ι3 rfl (b7.cell rfl)) rfl ?_)))
 refine Om (Cv rfl rfl (by rw [IntKind.wrap_i64]; omega)) rfl ?_
 refine Om (Ce rfl rfl (by rw [IntKind.wrap_i64]; omega)) rfl ?_
 refine Om (Cb υ31 ς33 rfl rfl (sl.ne (by omega)) (by omega) (by omega)) rfl (Om (Qh ι33 rfl (sl.getC (by omega) (by omega))) rfl (Om (Qd rfl) rfl (Qf (Qa (Qp (Qy rfl rfl (Ret.mk ?_)))))))
 exact ⟨by rw [show ((u : Int) + (j : Int) * (v : Int)).toNat = u + j * v by omega], rfl⟩
end Go.Tm
namespace Go.Tm
abbrev flV (b : Nat) : Value := .float .f64 b
abbrev arrF (xs : List Nat) : Array Value := (xs.map flV).toArray
section
variable {P : Program} {n : Fr} {k : K} {w : World} {d : Option Tmp} {ty : TypeId} {pos : String} {aft : Array Edge} {g : Option (Nat × Bool)}
theorem arrF_get {xs : List Nat} {i : Nat} (h : i < xs.length) : (arrF xs)[i]? = some (flV (xs.getD i 0)) := by
  simp [arrF, List.getD, List.getElem?_eq_getElem h]
theorem Wk.putArr {t : TypeId} {x y : Operand} {p i : Nat} {xs : List Nat} {te : TypeId} {a : Nat} (hz : ∀ w, (sizeOf t).run P w = .ok 1 w) (hx : ev k x = some (.pointer (some ⟨p, i, none⟩))) (hy : ev k y = some (.float .f64 a)) (hb : Bk w p (arrF xs) te) (hi : i < xs.length) :
    Wk P n k w { dst := none, op := .store t x y, type := ty, pos := pos, after := aft, guard := g } (fun _ w' => Bk w' p (arrF (xs.set i a)) te ∧ Ch (Is p) w w' ∧ w'.heap.size = w.heap.size) :=
  (Rh hz hx hy rfl rfl hb (arrF_get hi)).mono fun _ _ h => by
    refine ⟨⟨?_⟩, h.ch, h.size⟩
    rw [h.same]
    have e : (arrF xs).setIfInBounds i (.float .f64 a) = arrF (xs.set i a) := by simp [arrF, List.map_set]
    rw [e]
theorem Bk.getF {p i : Nat} {xs : List Nat} {te : TypeId} (h : Bk w p (arrF xs) te) (hi : i < xs.length) : w.cell? ⟨p, i, none⟩ = some (.float .f64 (xs.getD i 0)) := h.cell (arrF_get hi)
end
section
variable {P : Program} {n : Fr} {k : K} {w : World} {d : Option Tmp} {ty : TypeId} {pos : String} {aft : Array Edge} {g : Option (Nat × Bool)}
theorem Rn.fbits {f : FuncId} {fn : Func} {x : Operand} {ts : Array TypeId} {m : Int} (hf : P.funcs[f]? = some fn) (hname : (fn.name == "runtime.NumGoroutine") = false) (hb : fn.body.isNone = true) (hn : Extern.findNext fn = none)
    (he : Extern.find fn = some Extern.MathFloatBits.float64frombits) (hx : ev k x = some (.int .u64 m)) :
    Rn P n k w { dst := d, op := .call { callee := .value (.func f), args := #[x], argTypes := ts }, type := ty, pos := pos, after := aft, guard := g } (.float .f64 m.toNat) :=
  fun ac ha => by
    have h1 : ¬ fn.name = "runtime.NumGoroutine" := by simpa using hname
    have h2 : fn.body = none := by simpa using hb
    have h3 : ac.eval (.func f) = .func (.func f) #[] #[] := rfl
    have h4 : (Extern.MathFloatBits.float64frombits #[.int .u64 m]).run P w = .ok (.float .f64 m.toNat) w := rfl
    simp [execOp, resolve, h3, Deferred.ofValue, invoke, callFunc, hf, h1, h2, hn, he, ha.eval hx, h4]
end
def one : Fl := cn 4607182418800017408
def fl0 : Fl := cn 0
def facF : Nat → Fl
  | 0 => one
  | m + 1 => fmul (facF m) (fi ((m + 1 : Nat) : Int))
def cofF (first j i : Nat) : Fl := if 1 ≤ 2 * i + first ∧ 2 * i + first ≤ j then fquo one (facF (2 * i + first)) else fl0
def cofL (first i : Nat) : Fl := if first = 0 ∧ i = 0 then one else fquo one (facF (2 * i + first))
def hornP (first : Nat) (y : Fl) : Nat → Fl
  | 0 => cofL first 8
  | j + 1 => fsub (cofL first (7 - j)) (fmul y (hornP first y j))
def hornF (first : Nat) (y : Fl) : Fl := hornP first y 8
def halfB : Nat := 4604544271217802189
def twoPiB : Nat := 4618760256179416344
def eighF (r n : Int) : Cx :=
  if r = 0 then (one, fl0) else if 8 * r = n then (cn halfB, cn halfB) else
    (hornF 0 (fmul (fquo (fmul (cn twoPiB) (fi r)) (fi n)) (fquo (fmul (cn twoPiB) (fi r)) (fi n))), fmul (fquo (fmul (cn twoPiB) (fi r)) (fi n)) (hornF 1 (fmul (fquo (fmul (cn twoPiB) (fi r)) (fi n)) (fquo (fmul (cn twoPiB) (fi r)) (fi n)))))
def pzF (x : Fl) : Fl := x.map pzB
theorem cn_pz (b : Nat) : cn (pzB b) = pzF (cn b) := by
  unfold pzB pzF
  split
  · rename_i h
    rw [cn_eq b]
    split
    · rename_i hn
      exfalso
      have hd : (FloatKind.f64.decode b).isNaN = true := by rw [decode_nan]; simpa using hn
      obtain ⟨s, f, e⟩ := isNaN_nan hd
      have e' : Ieee.double.read b = .nan s f := e
      simp [Ieee.Format.order, e', Ieee.Datum.order] at h
    · simp [h, pzB, cn_eq]
  · rename_i h
    rw [cn_eq b]
    split
    · rfl
    · simp [h, pzB]
def turF (x : Cx) : Nat → Cx
  | 0 => x
  | q + 1 => (fneg (turF x q).2, (turF x q).1)
def pair0 (n k : Nat) : Cx :=
  if 2 * (4 * k % n) ≤ n then eighF ((4 * k % n : Nat) : Int) ((4 * n : Nat) : Int) else
    ((eighF ((n : Int) - ((4 * k % n : Nat) : Int)) ((4 * n : Nat) : Int)).2, (eighF ((n : Int) - ((4 * k % n : Nat) : Int)) ((4 * n : Nat) : Int)).1)
def pairF (n k : Nat) : Cx := (pzF (turF (pair0 n k) (4 * k / n)).1, pzF (turF (pair0 n k) (4 * k / n)).2)
def rootF (n k : Nat) : Cx := ((pairF n k).1, pzF (fneg (pairF n k).2))
def twistF (z : Cx) (n k : Nat) : Cx := if k = 0 then z else mulC z (rootF n k)
theorem tmod_mod {k : Int} {n : Nat} (hn : 0 < n) : (k.tmod n + n).tmod n = k % (n : Int) := by
  have h1 := Int.tmod_lt_of_pos k (show (0 : Int) < n by omega)
  have h2 : -(n : Int) < k.tmod n := by have := Int.tmod_lt_of_pos (-k) (show (0 : Int) < n by omega); rw [Int.neg_tmod] at this; omega
  rw [Int.tmod_eq_emod_of_nonneg (by omega)]
  have h4 : (k.tmod n + n) % (n : Int) = k.tmod n % (n : Int) := Int.add_emod_right _ _
  rw [h4, Int.tmod_def]
  have : k - (n : Int) * k.tdiv n = k + (n : Int) * (-(k.tdiv n)) := by rw [Int.mul_neg]; rfl
  rw [this, Int.add_mul_emod_self_left]
structure CofA (first j : Nat) (xs : List Nat) : Prop where
  len : xs.length = 9
  get : ∀ i, i < 9 → cn (xs.getD i 0) = cofF first j i
theorem CofA.zero (first : Nat) : CofA first 0 (List.replicate 9 0) := ⟨by simp, fun i hi => by
  rw [cofF, if_neg (by omega), List.getD, List.getElem?_replicate, if_pos hi]; rfl⟩
theorem getD_set {xs : List Nat} {i j a : Nat} (hj : j < xs.length) : (xs.set j a).getD i 0 = if i = j then a else xs.getD i 0 := by
  simp only [List.getD, List.getElem?_set]
  by_cases h : j = i
  · subst h; simp [hj]
  · have : ¬ i = j := fun e => h e.symm
    simp [h, this]
theorem CofA.put {first j : Nat} {xs : List Nat} (h : CofA first j xs) (hj : j ≤ 16 + first) {i a : Nat} (hi : 2 * i + first = j + 1) (ha : cn a = fquo one (facF (j + 1))) : CofA first (j + 1) (xs.set i a) := by
  refine ⟨by simp [h.len], fun m hm => ?_⟩
  rw [getD_set (by rw [h.len]; omega)]
  by_cases e : m = i
  · rw [if_pos e, ha, cofF, if_pos (by omega), e, hi]
  · rw [if_neg e, h.get m hm, cofF, cofF]
    by_cases c : 1 ≤ 2 * m + first ∧ 2 * m + first ≤ j
    · rw [if_pos c, if_pos (by omega)]
    · rw [if_neg c, if_neg (by omega)]
theorem CofA.skip {first j : Nat} {xs : List Nat} (h : CofA first j xs) (hn : ∀ i, 2 * i + first ≠ j + 1) : CofA first (j + 1) xs := by
  refine ⟨h.len, fun m hm => ?_⟩
  rw [h.get m hm, cofF, cofF]
  have := hn m
  by_cases c : 1 ≤ 2 * m + first ∧ 2 * m + first ≤ j
  · rw [if_pos c, if_pos (by omega)]
  · rw [if_neg c, if_neg (by omega)]
theorem CofA.last0 {xs : List Nat} (h : CofA 0 16 xs) : (xs.set 0 4607182418800017408).length = 9 ∧ ∀ i, i < 9 → cn ((xs.set 0 4607182418800017408).getD i 0) = cofL 0 i := by
  refine ⟨by simp [h.len], fun i hi => ?_⟩
  rw [getD_set (by rw [h.len]; omega)]
  by_cases e : i = 0
  · subst e; rfl
  · rw [if_neg e, h.get i hi, cofF, if_pos (by omega), cofL, if_neg (by omega)]
theorem CofA.last1 {first : Nat} {xs : List Nat} (h : CofA first (16 + first) xs) (hf : first = 1) : xs.length = 9 ∧ ∀ i, i < 9 → cn (xs.getD i 0) = cofL first i := by
  refine ⟨h.len, fun i hi => ?_⟩
  rw [h.get i hi, cofF, if_pos (by omega), cofL, if_neg (by omega)]
end Go.Tm
namespace Go.Tm
section
variable {P : Program} {n : Fr} {k : K} {w : World} {d : Option Tmp} {ty : TypeId} {pos : String} {aft : Array Edge} {g : Option (Nat × Bool)} {t t' : TypeId} {x y : Operand}
theorem Rn.neqF {q : IntKind} {a b : Int} (hx : ev k x = some (.int q a)) (hy : ev k y = some (.int q b)) (h : a = b) : Rn P n k w { dst := d, op := .binOp .neq t x y t', type := ty, pos := pos, after := aft, guard := g } (.bool false) := by
  have := Rn.neq (P := P) (n := n) (w := w) (d := d) (ty := ty) (pos := pos) (aft := aft) (g := g) (t := t) (t' := t') hx hy
  rwa [decide_eq_false (by simpa using h)] at this
theorem Rn.eqlT {q : IntKind} {a b : Int} (hx : ev k x = some (.int q a)) (hy : ev k y = some (.int q b)) (h : a = b) : Rn P n k w { dst := d, op := .binOp .eql t x y t', type := ty, pos := pos, after := aft, guard := g } (.bool true) := by
  have := Cm (P := P) (n := n) (w := w) (d := d) (ty := ty) (pos := pos) (aft := aft) (g := g) (t := t) (t' := t') hx hy
  rwa [decide_eq_true h] at this
theorem Rn.ceqlT {a b c e : Nat} (hx : ev k x = some (.complex .f64 a b)) (hy : ev k y = some (.complex .f64 c e)) (h : ceq (a, b) (c, e) = true) : Rn P n k w { dst := d, op := .binOp .eql t x y t', type := ty, pos := pos, after := aft, guard := g } (.bool true) := by
  have := Rn.ceql (P := P) (n := n) (w := w) (d := d) (ty := ty) (pos := pos) (aft := aft) (g := g) (t := t) (t' := t') hx hy
  rwa [h] at this
theorem Rn.cneqF {a b c e : Nat} (hx : ev k x = some (.complex .f64 a b)) (hy : ev k y = some (.complex .f64 c e)) (h : ceq (a, b) (c, e) = true) : Rn P n k w { dst := d, op := .binOp .neq t x y t', type := ty, pos := pos, after := aft, guard := g } (.bool false) := by
  have := Rn.cneq (P := P) (n := n) (w := w) (d := d) (ty := ty) (pos := pos) (aft := aft) (g := g) (t := t) (t' := t') hx hy
  rwa [h] at this
end
section
variable {P : Program} {n : Fr} {k : K} {w : World} {d : Option Tmp} {ty : TypeId} {pos : String} {aft : Array Edge} {g : Option (Nat × Bool)}
end
theorem Wk.lit0 {P : Program} {n : Fr} {k : K} {w : World} {d : Option Nat} {ty : TypeId} {pos : String} {aft : Array Edge} {g : Option (Nat × Bool)} {t e : TypeId} {z : Value} {sz by' : Nat} (ht : P.underlying t = some (.slice e)) (hi : Inf P e z sz by') :
    Wk P n k w { dst := d, op := .buildSlice t 0 #[], type := ty, pos := pos, after := aft, guard := g } (fun v w' => ∃ p, v = .slice (some ⟨p, 0, none⟩) 0 0 ∧ New w w' p (.cells #[] e)) :=
  Rm fun a ha => by
    obtain ⟨i, hi, hz, hs, rfl⟩ := hi
    exact ⟨_, _, by simp [execOp, Instr.buildSlice, run_underlying ht, sizeOf, typeInfo, hi, Instr.fill, show Array.map (fun (_ : Nat) => (default : Value)) (Array.range 0) = #[] from by simp [Array.range], newRow], _, rfl, rfl, rfl⟩
theorem Ow.cap {w : World} {r : Nat} {e : TypeId} {sz : Nat} {A : Option Addr} {l c : Nat} {cs : List Value} (h : Ow w r e sz A l c cs) (hl : 0 < l) : l ≤ c := by
  obtain ⟨_, _, _, _, _, hlc, _⟩ := Ow.open' h hl
  exact hlc
end Go.Tm
namespace Go.Tm
set_option maxRecDepth 100000
open Go.RowKit Go.Proofs
set_option maxHeartbeats 1000000 in
theorem roots_horner0 (y : Nat) (w : World) :
  Calls Tryz.prog 163 #[.float .f64 y, .int .i64 0] w (Ret (fun v w' => ∃ b, v = .float .f64 b ∧ cn b = hornF 0 (cn y) ∧ Ch No w w')) := by
 refine calls_of_VC (args := [.float .f64 y, .int .i64 0]) Tryz.func163 rfl Tryz.ntmps163 rfl (Qe (Qb (Om (Qd rfl) rfl (Qf (Qa (Qe (Qb ?_)))))))
 refine Oq (Cc Tryz.zeroValue230) rfl ?_
 rintro _ w1 ⟨p1, rfl, N1⟩
 have c1 := N1.ch
 have e1 := N1.p; have z1 := N1.size
 have b5 := Bk.new N1
 refine Qf (Qa (Qe (Qb (Om (Qd rfl) rfl (Qf (Qa (Qe ?_)))))))
 refine Qe (Qb (Om (Qd rfl) rfl (Qf (Qa (Qw ?_)))))
 have CH_1 := (Ch.refl (No) w).and c1
 refine Cp (σ := Nat × Nat × List Nat) (fun (j, f, xs) => [(0, .float .f64 y), (1, .int .i64 0), (5, .pointer (some ⟨p1, 0, none⟩)), (6, .float .f64 f), (7, .int .i64 (j + 1))]) (fun (j, f, xs) w' => j ≤ 16 ∧ cn f = facF j ∧ CofA 0 j xs ∧ w1.heap.size ≤ w'.heap.size ∧ Bk w' p1 (arrF xs) 230 ∧ Ch (No) w w') (fun (j, f, xs) => 17 - j) (0, _, List.replicate 9 0) ?_ ⟨rfl, rfl, rfl, rfl, rfl, trivial⟩ ?_
 · exact ⟨(by omega), (by rfl), (CofA.zero _), (Nat.le_refl _), b5, CH_1⟩
 rintro ⟨j, f, xs⟩ w2 ⟨hj, hf, hx, hsz2, ar_2, CH_2⟩
 show VC _ _ _ _ [(0, .float .f64 y), (1, .int .i64 0), (5, .pointer (some ⟨p1, 0, none⟩)), (6, .float .f64 f), (7, .int .i64 (j + 1))] _
 have hxl := hx.len
 refine Qe (Qe (Qb (Om (Qc rfl) rfl (Om (Qc rfl) rfl ?_))))
 refine Om (Ce rfl rfl (by rw [IntKind.wrap_i64]; omega)) rfl ?_
 refine Om (Rf rfl rfl (by rw [IntKind.wrap_i64]; omega)) rfl ?_
 refine Om (Cs rfl rfl) rfl (Qf (Qa (Qj rfl (fun hc1 => ?_) (fun hc1 => ?_))))
 ·
  refine Qn (Qa (Qe (Qw (Qe (Qb (Om (Qc rfl) rfl (Om (Qc rfl) rfl ?_)))))))
  refine Om (Rn.conv_if υ3 υ32 rfl) rfl (Oq (Re (.inr (.inr (.inl rfl))) rfl rfl) rfl ?_)
  rintro _ w3 ⟨r3, rfl, f3, c3⟩
  have z3 := c3.size
  refine Om (Qd rfl) rfl (Qf (Qa (Qe (Qb (Om (Qc rfl) rfl (Om (Qc rfl) rfl (Om (Wb rfl rfl) rfl ?_)))))))
  refine Om (Qc rfl) rfl ?_
  refine Rc (b := _) 6 24 30 rfl (fun hc2 Jhc2 => by
    try simp only [bX] at hc2
    refine Om (Qc rfl) rfl (Om (Qc rfl) rfl ?_)
    refine Om (Rf rfl rfl (by rw [IntKind.wrap_i64]; omega)) rfl ?_
    refine Om (Rs rfl rfl (by omega) (by omega)) rfl (Om (Cm rfl rfl) rfl (Om (Qt rfl rfl) rfl ?_))
    exact (Qs rfl (Qs rfl (Qs rfl (Qs rfl (Qs rfl Jhc2)))))) (fun hc2 Jhc2 => by
    refine Oy rfl (Oy rfl (Oy rfl (Oy rfl (Oy rfl (Om (Qm rfl rfl) rfl ?_)))))
    exact (Qs rfl (Qs rfl (Qs rfl (Qs rfl (Qs rfl Jhc2)))))) ?_
  refine Qf (Qa (Cu rfl (fun hc3 => ?_) (fun hc3 => ?_)))
  ·
   try simp only [bX] at hc3
   refine Qb (Om (Qc rfl) rfl (Om (Qc rfl) rfl ?_))
   refine Om (Rf rfl rfl (by rw [IntKind.wrap_i64]; omega)) rfl ?_
   refine Om (Rn.quo0 rfl rfl (by omega) (by omega) (by omega)) rfl (Om (Qc rfl) rfl (Oq (Re (.inr (.inr (.inr rfl))) rfl rfl) rfl ?_))
   rintro _ w4 ⟨r4, rfl, f4, c4⟩
   have z4 := c4.size
   refine Om (Co (o' := (j + 1 - 0) / 2) υ230 ς32 rfl rfl (by omega) (by omega) (by omega)) rfl ?_
   have ar_4 := ar_2.keep (c3.trans c4)
   refine Oz (Wk.putArr ς32 rfl rfl ar_4 (by omega)) rfl ?_
   rintro _ w5 ⟨ar5, c5, zz5⟩
   have z5 := c5.size
   refine Qf (Qo (Qa (Qb (Om (Qc rfl) rfl ?_))))
   refine Om (Ce rfl rfl (by rw [IntKind.wrap_i64]; omega)) rfl ?_
   refine Om (Qd rfl) rfl (Qf ?_)
   refine Ck (j + 1, _, xs.set ((j + 1 - 0) / 2) r4) (by first | omega | (dsimp only; omega)) ?_ ⟨rfl, rfl, rfl, rfl, rfl, trivial⟩
   have CH_4 := CH_2.and (c3.trans c4)
   have CH_5 : Ch (No) w w5 := CH_4.then c5
   exact ⟨by omega, (by rw [f3, hf]; rfl), hx.put (by omega) (by omega) (by rw [f4, f3, hf]; rfl), by omega, ar5, CH_5⟩
  ·
   try simp only [bX] at hc3
   refine Qn (Qo (Qa (Qb (Om (Qc rfl) rfl ?_))))
   refine Om (Ce rfl rfl (by rw [IntKind.wrap_i64]; omega)) rfl ?_
   refine Om (Qd rfl) rfl (Qf ?_)
   refine Ck (j + 1, _, xs) (by first | omega | (dsimp only; omega)) ?_ ⟨rfl, rfl, rfl, rfl, rfl, trivial⟩
   have ar_3 := ar_2.keep c3
   have CH_3 := CH_2.and c3
   exact ⟨by omega, (by rw [f3, hf]; rfl), hx.skip (fun i => by omega), by omega, ar_3, CH_3⟩
 ·
  refine Cr (Qk (Qk (Qz (Qa (Qe (Qe (Qb ?_)))))))
  refine Om (Qc rfl) rfl (Om (Cm rfl rfl) rfl (Qf (Qa (Qj rfl (fun hc4 => ?_) (fun hc4 => ?_)))))
  ·
   refine Qb (Om (Co (o' := 0) υ230 ς32 rfl rfl (by omega) (by omega) (by omega)) rfl (Oz (Wk.putArr ς32 rfl rfl ar_2 (by omega)) rfl ?_))
   rintro _ w6 ⟨ar6, c6, zz6⟩
   have z6 := c6.size
   refine Qf (Qa (Qe ?_))
   have ej : j = 16 := by omega
   rw [ej] at hx
   obtain ⟨hxm, hxg⟩ := hx.last0
   refine Qb (Om (Co (o' := 8) υ230 ς32 rfl rfl (by omega) (by omega) (by omega)) rfl (Om (Qh ι32 rfl ((ar6).getF (by omega))) rfl (Om (Qd rfl) rfl (Qf (Qa (Qe (Qe ?_)))))))
   refine Qb (Om (Qd rfl) rfl (Qf (Qa (Qw ?_))))
   have CH_6 : Ch (No) w w6 := CH_2.then c6
   refine Cp (σ := Int × Nat) (fun (i, p) => [(0, .float .f64 y), (5, .pointer (some ⟨p1, 0, none⟩)), (8, .float .f64 p), (9, .int .i64 i)]) (fun (i, p) w' => (-1 ≤ i ∧ i ≤ 7) ∧ cn p = hornP 0 (cn y) (7 - i).toNat ∧ w6.heap.size ≤ w'.heap.size ∧ Bk w' p1 (arrF (xs.set 0 4607182418800017408)) 230 ∧ Ch (No) w w') (fun (i, p) => (i + 1).toNat) (7, _) ?_ ⟨rfl, rfl, rfl, rfl, trivial⟩ ?_
   · exact ⟨⟨by omega, by omega⟩, (hxg 8 (by omega)), (Nat.le_refl _), ar6, CH_6⟩
   rintro ⟨i, p⟩ w7 ⟨hj2, hp, hsz7, ar_7, CH_7⟩
   show VC _ _ _ _ [(0, .float .f64 y), (5, .pointer (some ⟨p1, 0, none⟩)), (8, .float .f64 p), (9, .int .i64 i)] _
   refine Qe (Qe (Qb (Om (Qc rfl) rfl (Om (Wb rfl rfl) rfl (Qf (Qa (Qj rfl (fun hc5 => ?_) (fun hc5 => ?_))))))))
   ·
    refine Qn (Qa (Qe (Qw (Qb (Om (Qc rfl) rfl (Om (Co (o' := i.toNat) υ230 ς32 rfl rfl (by omega) (by omega) (by omega)) rfl (Om (Qh ι32 rfl ((ar_7).getF (by omega))) rfl ?_)))))))
    refine Om (Qc rfl) rfl (Om (Qc rfl) rfl (Oq (Re (.inr (.inr (.inl rfl))) rfl rfl) rfl ?_))
    rintro _ w8 ⟨r8, rfl, f8, c8⟩
    have z8 := c8.size
    refine Oq (Re (.inr (.inl rfl)) rfl rfl) rfl ?_
    rintro _ w9 ⟨r9, rfl, f9, c9⟩
    have z9 := c9.size
    refine Om (Qd rfl) rfl (Qf (Qo (Qa (Qb (Om (Qc rfl) rfl ?_)))))
    refine Om (Rf rfl rfl (by rw [IntKind.wrap_i64]; omega)) rfl ?_
    refine Om (Qd rfl) rfl (Qf ?_)
    refine Ck (i - 1, _) (by first | omega | (dsimp only; omega)) ?_ ⟨rfl, rfl, rfl, rfl, trivial⟩
    have ar_9 := ar_7.keep (c8.trans c9)
    have CH_9 := CH_7.and (c8.trans c9)
    exact ⟨⟨by omega, by omega⟩, (by rw [show (7 - (i - 1)).toNat = (7 - i).toNat + 1 by omega, f9, f8, hxg i.toNat (by omega), hp, hornP, show 7 - (7 - i).toNat = i.toNat by omega]; try rfl), by omega, ar_9, CH_9⟩
   ·
    refine Cr (Qk (Qk (Qz (Qa (Qe (Qb (Om (Qc rfl) rfl ?_)))))))
    refine Om (Qd rfl) rfl (Qf (Qa (Qp (Qy rfl rfl (Ret.mk ?_)))))
    have ei : i = -1 := by omega
    subst ei
    exact ⟨_, rfl, hp, CH_7⟩
  ·
   omega
set_option maxHeartbeats 1000000 in
theorem roots_horner1 (y : Nat) (w : World) :
  Calls Tryz.prog 163 #[.float .f64 y, .int .i64 1] w (Ret (fun v w' => ∃ b, v = .float .f64 b ∧ cn b = hornF 1 (cn y) ∧ Ch No w w')) := by
 refine calls_of_VC (args := [.float .f64 y, .int .i64 1]) Tryz.func163 rfl Tryz.ntmps163 rfl (Qe (Qb (Om (Qd rfl) rfl (Qf (Qa (Qe (Qb ?_)))))))
 refine Oq (Cc Tryz.zeroValue230) rfl ?_
 rintro _ w1 ⟨p1, rfl, N1⟩
 have c1 := N1.ch
 have e1 := N1.p; have z1 := N1.size
 have b5 := Bk.new N1
 refine Qf (Qa (Qe (Qb (Om (Qd rfl) rfl (Qf (Qa (Qe ?_)))))))
 refine Qe (Qb (Om (Qd rfl) rfl (Qf (Qa (Qw ?_)))))
 have CH_1 := (Ch.refl (No) w).and c1
 refine Cp (σ := Nat × Nat × List Nat) (fun (j, f, xs) => [(0, .float .f64 y), (1, .int .i64 1), (5, .pointer (some ⟨p1, 0, none⟩)), (6, .float .f64 f), (7, .int .i64 (j + 1))]) (fun (j, f, xs) w' => j ≤ 17 ∧ cn f = facF j ∧ CofA 1 j xs ∧ w1.heap.size ≤ w'.heap.size ∧ Bk w' p1 (arrF xs) 230 ∧ Ch (No) w w') (fun (j, f, xs) => 17 - j) (0, _, List.replicate 9 0) ?_ ⟨rfl, rfl, rfl, rfl, rfl, trivial⟩ ?_
 · exact ⟨(by omega), (by rfl), (CofA.zero _), (Nat.le_refl _), b5, CH_1⟩
 rintro ⟨j, f, xs⟩ w2 ⟨hj, hf, hx, hsz2, ar_2, CH_2⟩
 show VC _ _ _ _ [(0, .float .f64 y), (1, .int .i64 1), (5, .pointer (some ⟨p1, 0, none⟩)), (6, .float .f64 f), (7, .int .i64 (j + 1))] _
 have hxl := hx.len
 refine Qe (Qe (Qb (Om (Qc rfl) rfl (Om (Qc rfl) rfl ?_))))
 refine Om (Ce rfl rfl (by rw [IntKind.wrap_i64]; omega)) rfl ?_
 refine Om (Rf rfl rfl (by rw [IntKind.wrap_i64]; omega)) rfl ?_
 refine Om (Cs rfl rfl) rfl (Qf (Qa (Qj rfl (fun hc1 => ?_) (fun hc1 => ?_))))
 ·
  refine Qn (Qa (Qe (Qw (Qe (Qb (Om (Qc rfl) rfl (Om (Qc rfl) rfl ?_)))))))
  refine Om (Rn.conv_if υ3 υ32 rfl) rfl (Oq (Re (.inr (.inr (.inl rfl))) rfl rfl) rfl ?_)
  rintro _ w3 ⟨r3, rfl, f3, c3⟩
  have z3 := c3.size
  refine Om (Qd rfl) rfl (Qf (Qa (Qe (Qb (Om (Qc rfl) rfl (Om (Qc rfl) rfl (Om (Wb rfl rfl) rfl ?_)))))))
  refine Om (Qc rfl) rfl ?_
  refine Rc (b := _) 6 24 30 rfl (fun hc2 Jhc2 => by
    try simp only [bX] at hc2
    refine Om (Qc rfl) rfl (Om (Qc rfl) rfl ?_)
    refine Om (Rf rfl rfl (by rw [IntKind.wrap_i64]; omega)) rfl ?_
    refine Om (Rs rfl rfl (by omega) (by omega)) rfl (Om (Cm rfl rfl) rfl (Om (Qt rfl rfl) rfl ?_))
    exact (Qs rfl (Qs rfl (Qs rfl (Qs rfl (Qs rfl Jhc2)))))) (fun hc2 Jhc2 => by
    refine Oy rfl (Oy rfl (Oy rfl (Oy rfl (Oy rfl (Om (Qm rfl rfl) rfl ?_)))))
    exact (Qs rfl (Qs rfl (Qs rfl (Qs rfl (Qs rfl Jhc2)))))) ?_
  refine Qf (Qa (Cu rfl (fun hc3 => ?_) (fun hc3 => ?_)))
  ·
   try simp only [bX] at hc3
   refine Qb (Om (Qc rfl) rfl (Om (Qc rfl) rfl ?_))
   refine Om (Rf rfl rfl (by rw [IntKind.wrap_i64]; omega)) rfl ?_
   refine Om (Rn.quo0 rfl rfl (by omega) (by omega) (by omega)) rfl (Om (Qc rfl) rfl (Oq (Re (.inr (.inr (.inr rfl))) rfl rfl) rfl ?_))
   rintro _ w4 ⟨r4, rfl, f4, c4⟩
   have z4 := c4.size
   refine Om (Co (o' := (j + 1 - 1) / 2) υ230 ς32 rfl rfl (by omega) (by omega) (by omega)) rfl ?_
   have ar_4 := ar_2.keep (c3.trans c4)
   refine Oz (Wk.putArr ς32 rfl rfl ar_4 (by omega)) rfl ?_
   rintro _ w5 ⟨ar5, c5, zz5⟩
   have z5 := c5.size
   refine Qf (Qo (Qa (Qb (Om (Qc rfl) rfl ?_))))
   refine Om (Ce rfl rfl (by rw [IntKind.wrap_i64]; omega)) rfl ?_
   refine Om (Qd rfl) rfl (Qf ?_)
   refine Ck (j + 1, _, xs.set ((j + 1 - 1) / 2) r4) (by first | omega | (dsimp only; omega)) ?_ ⟨rfl, rfl, rfl, rfl, rfl, trivial⟩
   have CH_4 := CH_2.and (c3.trans c4)
   have CH_5 : Ch (No) w w5 := CH_4.then c5
   exact ⟨by omega, (by rw [f3, hf]; rfl), hx.put (by omega) (by omega) (by rw [f4, f3, hf]; rfl), by omega, ar5, CH_5⟩
  ·
   try simp only [bX] at hc3
   refine Qn (Qo (Qa (Qb (Om (Qc rfl) rfl ?_))))
   refine Om (Ce rfl rfl (by rw [IntKind.wrap_i64]; omega)) rfl ?_
   refine Om (Qd rfl) rfl (Qf ?_)
   refine Ck (j + 1, _, xs) (by first | omega | (dsimp only; omega)) ?_ ⟨rfl, rfl, rfl, rfl, rfl, trivial⟩
   have ar_3 := ar_2.keep c3
   have CH_3 := CH_2.and c3
   exact ⟨by omega, (by rw [f3, hf]; rfl), hx.skip (fun i => by omega), by omega, ar_3, CH_3⟩
 ·
  refine Cr (Qk (Qk (Qz (Qa (Qe (Qe (Qb ?_)))))))
  refine Om (Qc rfl) rfl (Om (Cm rfl rfl) rfl (Qf (Qa (Qj rfl (fun hc4 => ?_) (fun hc4 => ?_)))))
  ·
   omega
  ·
   refine Qn (Qa (Qe ?_))
   have ej : j = 17 := by omega
   rw [ej] at hx
   obtain ⟨hxm, hxg⟩ := (CofA.last1 (first := 1) hx rfl)
   refine Qb (Om (Co (o' := 8) υ230 ς32 rfl rfl (by omega) (by omega) (by omega)) rfl (Om (Qh ι32 rfl ((ar_2).getF (by omega))) rfl (Om (Qd rfl) rfl (Qf (Qa (Qe (Qe ?_)))))))
   refine Qb (Om (Qd rfl) rfl (Qf (Qa (Qw (Cp (σ := Int × Nat) (fun (i, p) => [(0, .float .f64 y), (5, .pointer (some ⟨p1, 0, none⟩)), (8, .float .f64 p), (9, .int .i64 i)]) (fun (i, p) w' => (-1 ≤ i ∧ i ≤ 7) ∧ cn p = hornP 1 (cn y) (7 - i).toNat ∧ w2.heap.size ≤ w'.heap.size ∧ Bk w' p1 (arrF xs) 230 ∧ Ch (No) w w') (fun (i, p) => (i + 1).toNat) (7, _) ?_ ⟨rfl, rfl, rfl, rfl, trivial⟩ ?_)))))
   · exact ⟨⟨by omega, by omega⟩, (hxg 8 (by omega)), (Nat.le_refl _), ar_2, CH_2⟩
   rintro ⟨i, p⟩ w6 ⟨hj2, hp, hsz6, ar_6, CH_6⟩
   show VC _ _ _ _ [(0, .float .f64 y), (5, .pointer (some ⟨p1, 0, none⟩)), (8, .float .f64 p), (9, .int .i64 i)] _
   refine Qe (Qe (Qb (Om (Qc rfl) rfl (Om (Wb rfl rfl) rfl (Qf (Qa (Qj rfl (fun hc5 => ?_) (fun hc5 => ?_))))))))
   ·
    refine Qn (Qa (Qe (Qw (Qb (Om (Qc rfl) rfl (Om (Co (o' := i.toNat) υ230 ς32 rfl rfl (by omega) (by omega) (by omega)) rfl (Om (Qh ι32 rfl ((ar_6).getF (by omega))) rfl ?_)))))))
    refine Om (Qc rfl) rfl (Om (Qc rfl) rfl (Oq (Re (.inr (.inr (.inl rfl))) rfl rfl) rfl ?_))
    rintro _ w7 ⟨r7, rfl, f7, c7⟩
    have z7 := c7.size
    refine Oq (Re (.inr (.inl rfl)) rfl rfl) rfl ?_
    rintro _ w8 ⟨r8, rfl, f8, c8⟩
    have z8 := c8.size
    refine Om (Qd rfl) rfl (Qf (Qo (Qa (Qb (Om (Qc rfl) rfl ?_)))))
    refine Om (Rf rfl rfl (by rw [IntKind.wrap_i64]; omega)) rfl ?_
    refine Om (Qd rfl) rfl (Qf ?_)
    refine Ck (i - 1, _) (by first | omega | (dsimp only; omega)) ?_ ⟨rfl, rfl, rfl, rfl, trivial⟩
    have ar_8 := ar_6.keep (c7.trans c8)
    have CH_8 := CH_6.and (c7.trans c8)
    exact ⟨⟨by omega, by omega⟩, (by rw [show (7 - (i - 1)).toNat = (7 - i).toNat + 1 by omega, f8, f7, hxg i.toNat (by omega), hp, hornP, show 7 - (7 - i).toNat = i.toNat by omega]; try rfl), by omega, ar_8, CH_8⟩
   ·
    refine Cr (Qk (Qk (Qz (Qa (Qe (Qb (Om (Qc rfl) rfl ?_)))))))
    refine Om (Qd rfl) rfl (Qf (Qa (Qp (Qy rfl rfl (Ret.mk ?_)))))
    have ei : i = -1 := by omega
    subst ei
    exact ⟨_, rfl, hp, CH_6⟩
theorem roots_eighth (r m : Int) (hr : 0 ≤ r ∧ r ≤ 1000000000000) (w : World) :
  Calls Tryz.prog 128 #[.int .i64 r, .int .i64 m] w (Ret (fun v w' => ∃ a b, v = .tuple #[.float .f64 a, .float .f64 b] ∧ cx (a, b) = eighF r m ∧ Ch No w w')) := by
 refine calls_of_VC (args := [.int .i64 r, .int .i64 m]) Tryz.func128 rfl Tryz.ntmps128 rfl (Qe (Qb (Om (Qd rfl) rfl (Om (Qd rfl) rfl (Qf (Qa (Qe ?_)))))))
 refine Qw (Qe (Qb (Om (Qc rfl) rfl (Om (Cm rfl rfl) rfl (Om (Qd rfl) rfl (Qf (Qa ?_)))))))
 refine Qj rfl (fun hc1 => ?_) (fun hc1 => ?_)
 ·
  refine Qe (Qb (Om (Qd rfl) rfl (Om (Qd rfl) rfl (Qf (Qa (Qp (Cd ?_)))))))
  refine Qu (Cz rfl rfl rfl (Ret.mk ?_))
  exact ⟨_, _, rfl, (by rw [eighF, if_pos (by omega)]; rfl), (Ch.refl (No) w)⟩
 ·
  refine Qe (Qb (Om (Qc rfl) rfl ?_))
  refine Om (Cv rfl rfl (by rw [IntKind.wrap_i64]; omega)) rfl ?_
  refine Om (Qc rfl) rfl (Om (Cm rfl rfl) rfl (Om (Qd rfl) rfl (Qf (Qa (Qj rfl (fun hc2 => ?_) (fun hc2 => ?_))))))
  ·
   refine Qe (Qb (Om (Rn.fbits Tryz.func43 (by kernel_rfl) rfl (by kernel_rfl) (by kernel_rfl) rfl) rfl (Om (Qd rfl) rfl (Qf (Qa (Qe (Qb ?_)))))))
   refine Om (Qc rfl) rfl (Om (Qc rfl) rfl (Om (Qd rfl) rfl (Om (Qd rfl) rfl (Qf (Qa (Qp (Cd ?_)))))))
   refine Qu (Cz rfl rfl rfl (Ret.mk ?_))
   exact ⟨_, _, rfl, (by rw [eighF, if_neg (by omega), if_pos (by omega)]; rfl), (Ch.refl (No) w)⟩
  ·
   refine Qn (Qo (Qa (Qe (Qb (Om (Rn.fbits Tryz.func43 (by kernel_rfl) rfl (by kernel_rfl) (by kernel_rfl) rfl) rfl (Om (Qc rfl) rfl (Om (Rn.conv_if υ3 υ32 rfl) rfl ?_)))))))
   refine Oq (Re (.inr (.inr (.inl rfl))) rfl rfl) rfl ?_
   rintro _ w1 ⟨r1, rfl, f1, c1⟩
   have z1 := c1.size
   refine Om (Qc rfl) rfl (Om (Rn.conv_if υ3 υ32 rfl) rfl (Oq (Re (.inr (.inr (.inr rfl))) rfl rfl) rfl ?_))
   rintro _ w2 ⟨r2, rfl, f2, c2⟩
   have z2 := c2.size
   refine Om (Qd rfl) rfl (Qf (Qa (Qe (Qb (Om (Qc rfl) rfl (Om (Qc rfl) rfl (Oq (Re (.inr (.inr (.inl rfl))) rfl rfl) rfl ?_)))))))
   rintro _ w3 ⟨r3, rfl, f3, c3⟩
   have z3 := c3.size
   refine Om (Qd rfl) rfl (Qf (Qa (Qe (Qb (Om (Qc rfl) rfl (Oq (Qi Tryz.call163 rfl (roots_horner0 _ _)) rfl ?_))))))
   rintro _ w4 ⟨b4, rfl, F4, c4⟩
   have z4 := c4.size
   refine Om (Qc rfl) rfl (Om (Qc rfl) rfl (Oq (Qi Tryz.call163 rfl (roots_horner1 _ _)) rfl ?_))
   rintro _ w5 ⟨b5, rfl, F5, c5⟩
   have z5 := c5.size
   refine Oq (Re (.inr (.inr (.inl rfl))) rfl rfl) rfl ?_
   rintro _ w6 ⟨r6, rfl, f6, c6⟩
   have z6 := c6.size
   refine Om (Qd rfl) rfl (Om (Qd rfl) rfl (Qf (Qa (Qp (Cz rfl rfl rfl (Ret.mk ?_))))))
   have CH_6 := (Ch.refl (No) w).and (c1.trans (c2.trans (c3.trans (c4.trans (c5.trans c6)))))
   exact ⟨_, _, rfl, (by rw [eighF, if_neg (by omega), if_neg (by omega)]; show (cn _, cn _) = _; rw [F4, f6, F5, f3, f2, f1]; rfl), CH_6⟩
theorem roots_modI (a : Int) (n q : Nat) (hn : 0 < n) (ha : -1000000000000 ≤ a ∧ a ≤ 1000000000000) (hn2 : n ≤ 1000000000000) (hq : a % (n : Int) = (q : Int)) (w : World) :
  Calls Tryz.prog 47 #[.int .i64 a, .int .i64 n] w (Ret (fun v w' => v = .int .i64 q ∧ w = w')) := by
 have h0 := tmod_mod (k := a) hn
 have h1 := Int.tmod_lt_of_pos a (show (0 : Int) < n by omega)
 have h2 := Int.tmod_lt_of_pos (-a) (show (0 : Int) < n by omega)
 rw [Int.neg_tmod] at h2
 rw [Int.tmod_eq_emod_of_nonneg (by omega)] at h0
 refine calls_of_VC (args := [.int .i64 a, .int .i64 n]) Tryz.func47 rfl Tryz.ntmps47 rfl (Qe (Qb (Om (Qd rfl) rfl (Qf (Qa (Qe (Qb ?_)))))))
 refine Om (Qc rfl) rfl (Om (Qc rfl) rfl (Om (Rn.rem rfl rfl (by omega)) rfl (Om (Qc rfl) rfl ?_)))
 refine Om (Ce rfl rfl (by rw [IntKind.wrap_i64]; omega)) rfl ?_
 refine Om (Qc rfl) rfl (Om (Rs rfl rfl (by omega) (by omega)) rfl (Om (Qd rfl) rfl (Qf (Qa (Qp (Qy rfl rfl (Ret.mk ?_)))))))
 exact ⟨by rw [h0, hq], rfl⟩
theorem roots_pairG (n : Nat) (a : Int) (q : Nat) (hn : 1 ≤ n) (hn2 : n ≤ 4194304) (ha : -1000000000000 ≤ a ∧ a ≤ 1000000000000) (hq : a % (n : Int) = (q : Int)) (w : World) :
  Calls Tryz.prog 91 #[.int .i64 n, .int .i64 a] w (Ret (fun v w' => ∃ c s, v = .tuple #[.float .f64 c, .float .f64 s, .nilIface] ∧ cx (c, s) = pairF n q ∧ Ch No w w')) := by
 have hql : q < n := by have := Int.emod_lt_of_pos a (show (0 : Int) < n by omega); omega
 have hm := Nat.mod_lt (4 * q) (show 0 < n by omega)
 have hr : (4 * (q : Int)) % (n : Int) = ((4 * q % n : Nat) : Int) := by push_cast; rfl
 have hd : (4 * (q : Int)) / (n : Int) = ((4 * q / n : Nat) : Int) := by push_cast; rfl
 have hd2 := Nat.div_le_self (4 * q) n
 refine calls_of_VC (args := [.int .i64 n, .int .i64 a]) Tryz.func91 rfl Tryz.ntmps91 rfl (Qe (Qb (Om (Qd rfl) rfl (Om (Qd rfl) rfl (Om (Qd rfl) rfl (Qf (Qa ?_)))))))
 refine Qe (Qe (Qb (Om (Qc rfl) rfl (Om (Cs rfl rfl) rfl (Om (Qc rfl) rfl ?_)))))
 refine Rd (b := _) 3 13 16 rfl (fun hc1 Jhc1 => by
   refine Oy rfl (Oy rfl (Om (Qt rfl rfl) rfl ?_))
   exact (Qs rfl (Qs rfl Jhc1))) (fun hc1 Jhc1 => by
   try simp only [bX] at hc1
   refine Om (Qc rfl) rfl (Om (Rb rfl rfl) rfl (Om (Qm rfl rfl) rfl ?_))
   exact (Qs rfl (Qs rfl Jhc1))) ?_
 refine Qf (Qa (Cu rfl (fun hc2 => ?_) (fun hc2 => ?_)))
 ·
  try simp only [bX] at hc2
  omega
 ·
  try simp only [bX] at hc2
  refine Qn (Qa (Qe (Qb (Om (Qc rfl) rfl (Om (Qc rfl) rfl (Oq (Qi Tryz.call47 rfl (roots_modI _ _ q (by omega) (by omega) (by omega) hq _)) rfl ?_))))))
  rintro _ _ ⟨rfl, rfl⟩
  refine Om (Cv rfl rfl (by rw [IntKind.wrap_i64]; omega)) rfl ?_
  refine Om (Qd rfl) rfl (Qf (Qa (Qe (Qb (Om (Qc rfl) rfl (Om (Qc rfl) rfl (Om (Rs rfl rfl (by omega) (by omega)) rfl ?_)))))))
  refine Om (Qd rfl) rfl (Qf (Qa (Qe (Qb (Om (Qd rfl) rfl (Om (Qd rfl) rfl (Qf ?_)))))))
  refine Qa (VC.cut (σ := Nat × Nat) (fun (c, s) => [(0, .int .i64 n), (7, .int .i64 (4 * (q : Int))), (9, .float .f64 c), (10, .float .f64 s)]) (fun (c, s) w' => cx (c, s) = pair0 n q ∧ w.heap.size ≤ w'.heap.size ∧ Ch No w w') ?_ ?_)
  ·
   refine Qe (Qb (Om (Qc rfl) rfl ?_))
   refine Om (Cv rfl rfl (by rw [IntKind.wrap_i64]; omega)) rfl ?_
   refine Om (Qc rfl) rfl (Om (Rv rfl rfl) rfl (Qf (Qa (Qj rfl (fun hc3 => ?_) (fun hc3 => ?_)))))
   ·
    refine Qb (Om (Qc rfl) rfl (Om (Qc rfl) rfl ?_))
    refine Om (Cv rfl rfl (by rw [IntKind.wrap_i64]; omega)) rfl ?_
    refine Oq (Qi Tryz.call128 rfl (roots_eighth _ _ (by omega) _)) rfl ?_
    rintro _ w1 ⟨a1, b1, rfl, F1, c1⟩
    have z1 := c1.size
    refine Om (Qc rfl) rfl (Om (Qq rfl rfl) rfl (Om (Qq rfl rfl) rfl (Om (Qd rfl) rfl (Om (Qd rfl) rfl (Qf (VQ.cut (_, _) ?_ ⟨rfl, rfl, rfl, rfl, trivial⟩))))))
    have CH_1 := (Ch.refl (No) w).and c1
    exact ⟨(by rw [hr] at F1 hc3; rw [pair0, if_pos (by omega)]; exact F1), by omega, CH_1⟩
   ·
    refine Qb (Om (Qc rfl) rfl (Om (Qc rfl) rfl ?_))
    refine Om (Rf rfl rfl (by rw [IntKind.wrap_i64]; omega)) rfl ?_
    refine Om (Qc rfl) rfl ?_
    refine Om (Cv rfl rfl (by rw [IntKind.wrap_i64]; omega)) rfl ?_
    refine Oq (Qi Tryz.call128 rfl (roots_eighth _ _ (by omega) _)) rfl ?_
    rintro _ w2 ⟨a2, b2, rfl, F2, c2⟩
    have z2 := c2.size
    refine Om (Qc rfl) rfl (Om (Qq rfl rfl) rfl (Om (Qq rfl rfl) rfl (Om (Qd rfl) rfl (Om (Qd rfl) rfl (Qf (VQ.cut (_, _) ?_ ⟨rfl, rfl, rfl, rfl, trivial⟩))))))
    have CH_2 := (Ch.refl (No) w).and c2
    exact ⟨(by rw [hr] at F2 hc3; rw [pair0, if_neg (by omega)]; exact congrArg (fun z : Cx => (z.2, z.1)) F2), by omega, CH_2⟩
  rintro ⟨c, s⟩ w3 ⟨hcs, hszc, CH_3⟩
  show VC _ _ _ _ [(0, .int .i64 n), (7, .int .i64 (4 * (q : Int))), (9, .float .f64 c), (10, .float .f64 s)] _
  refine Qe (Qe (Qb (Om (Qc rfl) rfl (Om (Qc rfl) rfl (Om (Rn.quo0 rfl rfl (by omega) (by omega) (by omega)) rfl (Om (Qc rfl) rfl (Qf ?_)))))))
  refine Qa (Qw (Cp (σ := Nat × Nat × Nat) (fun (j, c, s) => [(9, .float .f64 c), (10, .float .f64 s), (47, .int .i64 (4 * (q : Int) / (n : Int))), (48, .int .i64 j)]) (fun (j, c, s) w' => j ≤ 4 * q / n ∧ cx (c, s) = turF (pair0 n q) j ∧ w3.heap.size ≤ w'.heap.size ∧ Ch (No) w w') (fun (j, c, s) => 4 * q / n - j) (0, c, s) ?_ ⟨rfl, rfl, rfl, rfl, trivial⟩ ?_))
  · exact ⟨(Nat.zero_le _), (by rw [hcs]; rfl), (Nat.le_refl _), CH_3⟩
  rintro ⟨j, c, s⟩ w4 ⟨hj, ht, hsz4, CH_4⟩
  show VC _ _ _ _ [(9, .float .f64 c), (10, .float .f64 s), (47, .int .i64 (4 * (q : Int) / (n : Int))), (48, .int .i64 j)] _
  refine Qe (Qb (Om (Cs rfl rfl) rfl (Qf (Qa (Qe (Qj rfl (fun hc4 => ?_) (fun hc4 => ?_)))))))
  ·
   refine Qn (Qa (Qe (Qw (Qb (Om (Qc rfl) rfl (Om (Rn.fneg rfl) rfl (Om (Qc rfl) rfl ?_)))))))
   refine Om (Qd rfl) rfl (Om (Qd rfl) rfl (Qf (Qo (Qa (Qb ?_)))))
   refine Om (Ce rfl rfl (by rw [IntKind.wrap_i64]; omega)) rfl ?_
   refine Om (Qc rfl) rfl (Qf ?_)
   refine Ck (j + 1, _, _) (by first | omega | (dsimp only; omega)) ?_ ⟨rfl, rfl, rfl, rfl, trivial⟩
   exact ⟨(by omega), (by rw [turF, ← ht]; show (cn _, cn _) = _; rw [cn_neg]; rfl), (by omega), CH_4⟩
  ·
   refine Cr (Qk (Qk (Qz (Qa (Qe (Qb (Om (Qc rfl) rfl ?_)))))))
   refine Oq (Qi Tryz.call92 rfl (roots_plus _ _)) rfl ?_
   rintro _ _ ⟨rfl, rfl⟩
   refine Om (Qc rfl) rfl (Oq (Qi Tryz.call92 rfl (roots_plus _ _)) rfl ?_)
   rintro _ _ ⟨rfl, rfl⟩
   refine Om (Qd rfl) rfl (Om (Qd rfl) rfl (Om (Qd rfl) rfl (Qf (Qa (Qp (VQ.ret3 rfl rfl rfl rfl (Ret.mk ?_)))))))
   have e : j = 4 * q / n := by omega
   subst e
   exact ⟨_, _, rfl, (by show (cn _, cn _) = _; rw [cn_pz, cn_pz, pairF, ← ht]; rfl), CH_4⟩
theorem roots_RootG (n : Nat) (a : Int) (q : Nat) (hn : 1 ≤ n) (hn2 : n ≤ 4194304) (ha : -1000000000000 ≤ a ∧ a ≤ 1000000000000) (hq : a % (n : Int) = (q : Int)) (w : World) :
  Calls Tryz.prog 46 #[.int .i64 n, .int .i64 a] w (Ret (fun v w' => ∃ x y, v = .tuple #[.complex .f64 x y, .nilIface] ∧ cx (x, y) = rootF n q ∧ Ch No w w')) := by
 refine calls_of_VC (args := [.int .i64 n, .int .i64 a]) Tryz.func46 rfl Tryz.ntmps46 rfl (Qe (Qb (Om (Qd rfl) rfl (Om (Qd rfl) rfl (Qf (Qa (Qe ?_)))))))
 refine Qb (Om (Qc rfl) rfl (Om (Qc rfl) rfl (Oq (Qi Tryz.call91 rfl (roots_pairG _ _ q (by omega) (by omega) (by omega) hq _)) rfl ?_)))
 rintro _ w1 ⟨x1, y1, rfl, F1, c1⟩
 have z1 := c1.size
 refine Om (Qc rfl) rfl (Om (Qq rfl rfl) rfl (Om (Qq rfl rfl) rfl (Om (Qq rfl rfl) rfl (Om (Qd rfl) rfl (Om (Qd rfl) rfl (Om (Qd rfl) rfl (Qf ?_)))))))
 refine Qa (Qe (Qe (Qb (Om (Qc rfl) rfl (Om (Cg υ28 rfl) rfl (Qf (Qa ?_)))))))
 refine Ca rfl (Qn (Qa (Qe (Qb (Om (Qc rfl) rfl (Om (Qc rfl) rfl (Om (Rn.fneg rfl) rfl ?_)))))))
 refine Oq (Qi Tryz.call92 rfl (roots_plus _ _)) rfl ?_
 rintro _ _ ⟨rfl, rfl⟩
 refine Om (Ru rfl rfl) rfl (Om (Qd rfl) rfl (Om (Qd rfl) rfl (Qf (Qa (Qp (Cz rfl rfl rfl (Ret.mk ?_)))))))
 have CH_1 := (Ch.refl (No) w).and c1
 exact ⟨_, _, rfl, (by show (cn _, cn _) = _; rw [cn_pz, cn_neg, rootF, ← F1]; rfl), CH_1⟩
theorem roots_Twist (u v : Nat) (n : Nat) (a : Int) (q : Nat) (hn : 1 ≤ n) (hn2 : n ≤ 4194304) (ha : -1000000000000 ≤ a ∧ a ≤ 1000000000000) (hq : a % (n : Int) = (q : Int)) (w : World) :
  Calls Tryz.prog 14 #[.complex .f64 u v, .int .i64 n, .int .i64 a] w (Ret (fun v_ w' => ∃ x y, v_ = .tuple #[.complex .f64 x y, .nilIface] ∧ cx (x, y) = twistF (cx (u, v)) n q ∧ Ch No w w')) := by
 refine calls_of_VC (args := [.complex .f64 u v, .int .i64 n, .int .i64 a]) Tryz.func14 rfl Tryz.ntmps14 rfl (Qe (Qb (Om (Qd rfl) rfl (Om (Qd rfl) rfl (Qf (Qa (Qe ?_)))))))
 refine Qb (Om (Qc rfl) rfl (Om (Qc rfl) rfl (Oq (Qi Tryz.call46 rfl (roots_RootG _ _ q (by omega) (by omega) (by omega) hq _)) rfl ?_)))
 rintro _ w1 ⟨x1, y1, rfl, F1, c1⟩
 have z1 := c1.size
 refine Om (Qc rfl) rfl (Om (Qq rfl rfl) rfl (Om (Qq rfl rfl) rfl (Om (Qd rfl) rfl (Om (Qd rfl) rfl (Qf (Qa (Qe ?_)))))))
 refine Qe (Qb (Om (Qc rfl) rfl (Om (Cg υ28 rfl) rfl (Qf (Qa (Ca rfl (Qn ?_)))))))
 refine Qa (Qe (Qe (Qb (Om (Qc rfl) rfl (Om (Qc rfl) rfl (Oq (Qi Tryz.call47 rfl (roots_modI _ _ q (by omega) (by omega) (by omega) hq _)) rfl ?_))))))
 rintro _ _ ⟨rfl, rfl⟩
 refine Om (Cm rfl rfl) rfl (Qf (Qa (Qj rfl (fun hc1 => ?_) (fun hc1 => ?_))))
 ·
  refine Qe (Qb (Om (Qc rfl) rfl (Om (Qd rfl) rfl (Om (Qd rfl) rfl (Qf (Qa (Qp ?_)))))))
  refine Qu (Cz rfl rfl rfl (Ret.mk ?_))
  have CH_1 := (Ch.refl (No) w).and c1
  exact ⟨_, _, rfl, (by rw [twistF, if_pos (by omega)]), CH_1⟩
 ·
  refine Qn (Qa (Qe (Qb (Om (Qc rfl) rfl (Om (Qc rfl) rfl (Oq (Qi κ48 rfl (cplx_Mul _ _ _ _ _)) rfl ?_))))))
  rintro _ w2 ⟨p2, q2, rfl, F2, c2⟩
  have z2 := c2.size
  refine Om (Qd rfl) rfl (Om (Qd rfl) rfl (Qf (Qa (Qp (Cz rfl rfl rfl (Ret.mk ?_))))))
  have CH_2 := (Ch.refl (No) w).and (c1.trans c2)
  exact ⟨_, _, rfl, (by rw [twistF, if_neg (by omega), F2, F1]), CH_2⟩
end Go.Tm
namespace Go.Tm
def sumG (n k : Nat) (x : Nat → Cx) : Nat → Cx
  | 0 => x 0
  | j + 1 => plusC (sumG n k x j) (if (j + 1) * k % n = 0 then x (j + 1) else mulC (x (j + 1)) (rootF n ((j + 1) * k % n)))
def directG (n k : Nat) (x : Nat → Cx) : Cx := sumG n k x (n - 1)
theorem sumG_step {n k j : Nat} {X : Nat → Cx} (h : 1 ≤ j) : sumG n k X (j + 1 - 1) = plusC (sumG n k X (j - 1)) (if j * k % n = 0 then X j else mulC (X j) (rootF n (j * k % n))) := by
  obtain ⟨i, rfl⟩ : ∃ i, j = i + 1 := ⟨j - 1, by omega⟩
  rfl
theorem sumG_next {n k j : Nat} {X : Nat → Cx} {a b p q r s : Nat} (h : 1 ≤ j) (hs : cx (a, b) = sumG n k X (j - 1)) (f1 : cn r = fop .add (cn a) (cn p)) (f2 : cn s = fop .add (cn b) (cn q)) (hz : cx (p, q) = if j * k % n = 0 then X j else mulC (X j) (rootF n (j * k % n))) : cx (r, s) = sumG n k X (j + 1 - 1) := by
  rw [sumG_step h, ← hs, ← hz]
  show (cn r, cn s) = _
  rw [f1, f2]; rfl
def RootsG (n : Nat) (rs : List CB) : Prop := ∀ k, k < n → cx (rs.getD k (0, 0)) = rootF n k
def timesF (z : Cx) (f : Fl) : Cx := (fmul z.1 f, fmul z.2 f)
def fl3 (a b c : Cx) : List Cx := [plusC a (plusC b c), plusC (lessC a (timesF (plusC b c) (cn 4602678819172646912))) (minusI (timesF (lessC b c) (cn 4605975682916830378))), plusC (lessC a (timesF (plusC b c) (cn 4602678819172646912))) (timesI (timesF (lessC b c) (cn 4605975682916830378)))]
def fl5m (a t v : Cx) (x y : Nat) : Cx := plusC a (plusC (timesF t (cn x)) (timesF v (cn y)))
def fl5g (u w : Cx) : Cx := plusC (timesF u (cn 4606741575090066687)) (timesF w (cn 4603469518431672926))
def fl5h (u w : Cx) : Cx := lessC (timesF u (cn 4603469518431672926)) (timesF w (cn 4606741575090066687))
def fl5 (a b c d e : Cx) : List Cx :=
  [plusC a (plusC (plusC b e) (plusC c d)),
   plusC (fl5m a (plusC b e) (plusC c d) 4599238375200778576 13828834233668859048) (minusI (fl5g (lessC b e) (lessC c d))),
   plusC (fl5m a (plusC b e) (plusC c d) 13828834233668859048 4599238375200778576) (minusI (fl5h (lessC b e) (lessC c d))),
   plusC (fl5m a (plusC b e) (plusC c d) 13828834233668859048 4599238375200778576) (timesI (fl5h (lessC b e) (lessC c d))),
   plusC (fl5m a (plusC b e) (plusC c d) 4599238375200778576 13828834233668859048) (timesI (fl5g (lessC b e) (lessC c d)))]
def flyG : List Cx → List Cx
  | [a, b, c] => fl3 a b c
  | [a, b, c, d, e] => fl5 a b c d e
  | l => flyC l
def chirpF (n j : Nat) : Cx := rootF (2 * n) ((j % (2 * n)) * (j % (2 * n)) % (2 * n))
def otherF (n m i : Nat) : Cx := if i < n then conjC (chirpF n i) else if m - i < n then conjC (chirpF n (m - i)) else z0
def otherL (n m : Nat) : List Cx := (List.range m).map (otherF n m)
structure OthA (n m j : Nat) (zs : List CB) : Prop where
  len : zs.length = m
  get : ∀ i, i < m → cx (zs.getD i (0, 0)) = if i < j then conjC (chirpF n i) else if m - i < j then conjC (chirpF n (m - i)) else z0
theorem OthA.zero (n m : Nat) : OthA n m 0 (List.replicate m (0, 0)) := ⟨by simp, fun i hi => by
  rw [if_neg (by omega), if_neg (by omega)]
  simp [List.getD, List.getElem?_replicate, hi]⟩
theorem setC_getD {zs : List CB} {i j : Nat} {z d : CB} (hj : j < zs.length) : (zs.set j z).getD i d = if i = j then z else zs.getD i d := by
  simp only [List.getD, List.getElem?_set]
  by_cases h : j = i
  · subst h; simp [hj]
  · have : ¬ i = j := fun e => h e.symm
    simp [h, this]
theorem OthA.first {n m j : Nat} {zs : List CB} {z : CB} (h : OthA n m j zs) (e : ¬ 0 < j) (hm : 0 < m) (hz : cx z = conjC (chirpF n j)) : OthA n m (j + 1) (zs.set j z) := by
  obtain rfl : j = 0 := by omega
  refine ⟨by simp [h.len], fun i hi => ?_⟩
  rw [setC_getD (by rw [h.len]; exact hm)]
  by_cases c : i = 0
  · subst c; rw [if_pos rfl, if_pos (by omega), hz]
  · rw [if_neg c, h.get i hi, if_neg (by omega), if_neg (by omega), if_neg (by omega), if_neg (by omega)]
theorem OthA.step {n m j : Nat} {zs : List CB} {z : CB} (h : OthA n m j zs) (hj : 0 < j) (hm : 2 * j + 1 ≤ m) (hz : cx z = conjC (chirpF n j)) : OthA n m (j + 1) ((zs.set j z).set (m - j) z) := by
  have hl := h.len
  refine ⟨by simp [hl], fun i hi => ?_⟩
  rw [setC_getD (by rw [List.length_set, hl]; omega), setC_getD (by rw [hl]; omega)]
  by_cases c : i = m - j
  · rw [if_pos c, hz, if_neg (by omega), if_pos (by omega), show m - i = j by omega]
  · rw [if_neg c]
    by_cases d : i = j
    · subst d; rw [if_pos rfl, hz, if_pos (by omega)]
    · rw [if_neg d, h.get i hi]
      by_cases e : i < j
      · rw [if_pos e, if_pos (by omega)]
      · rw [if_neg e, if_neg (show ¬ i < j + 1 by omega)]
        by_cases f : m - i < j
        · rw [if_pos f, if_pos (by omega)]
        · rw [if_neg f, if_neg (by omega)]
theorem OthA.all {n m : Nat} {zs : List CB} (h : OthA n m n zs) : zs.map cx = otherL n m := by
  apply List.ext_getElem
  · simp [h.len, otherL]
  · intro i hi hi2
    simp only [List.length_map] at hi
    have hl := h.len
    have := h.get i (by omega)
    rw [List.getD, List.getElem?_eq_getElem hi] at this
    simp only [Option.getD_some] at this
    simp only [List.getElem_map, this, otherL, List.getElem_range]
    rfl
theorem otherL_getD {n m i : Nat} (h : i < m) : (otherL n m).getD i z0 = otherF n m i := by simp [otherL, List.getD, h]
theorem roots_step {n j : Nat} {rs : List CB} {z : CB} (h : ∀ i, i < j → cx (rs.getD i (0, 0)) = rootF n i) (hl : j < rs.length) (hz : cx z = rootF n j) : ∀ i, i < j + 1 → cx ((rs.set j z).getD i (0, 0)) = rootF n i := by
  intro i hi
  rw [setC_getD hl]
  by_cases e : i = j
  · subst e; rw [if_pos rfl]; exact hz
  · rw [if_neg e]; exact h i (by omega)
def actG (s : Stp) (i : Nat) (c : List Cx) : List Cx :=
  if s.op = 1 then c.set (s.dst.toNat + i) (c.getD (s.src.toNat + i * s.jump.toNat) z0)
  else if s.op = 2 then c.set (s.dst.toNat + i * s.jump.toNat) (c.getD (s.src.toNat + i) z0)
  else if s.op = 3 then c.set (s.dst.toNat + i) z0
  else if s.op = 4 then c.set (s.dst.toNat + i) (twistF (c.getD (s.dst.toNat + i) z0) s.n.toNat (s.k.toNat * i % s.n.toNat))
  else if s.op = 5 then putN c (s.dst.toNat + i) s.jump.toNat (flyG ((List.range s.n.toNat).map fun q => c.getD (s.dst.toNat + i + q * s.jump.toNat) z0)) s.n.toNat
  else if s.op = 6 then c.set (s.dst.toNat + i) (directG s.n.toNat i fun j => c.getD (s.src.toNat + j * s.jump.toNat) z0)
  else if s.op = 7 then c.set (s.dst.toNat + i) (mulC (c.getD (s.dst.toNat + i) z0) (chirpF s.n.toNat i))
  else if s.op = 8 then c.set (s.dst.toNat + i) (otherF s.n.toNat s.count.toNat i)
  else if s.op = 9 then c.set (s.dst.toNat + i) (mulC (c.getD (s.dst.toNat + i) z0) (c.getD (s.src.toNat + i) z0))
  else if s.op = 10 then c.set (s.dst.toNat + i) (conjC (c.getD (s.dst.toNat + i) z0))
  else if s.op = 11 then c.set (s.dst.toNat + i) (overC (c.getD (s.dst.toNat + i) z0) s.n)
  else c
def actsG (s : Stp) (c : List Cx) : Nat → List Cx
  | 0 => c
  | i + 1 => actG s i (actsG s c i)
def runG (l : List Stp) (c : List Cx) : List Cx := l.foldl (fun c s => actsG s c s.count.toNat) c
theorem runG_take {L : List Stp} {j : Nat} {s : Stp} (h : L[j]? = some s) (c : List Cx) : runG (L.take (j + 1)) c = actsG s (runG (L.take j) c) s.count.toNat := by
  rw [List.take_add_one, h]; simp [runG]
def SmS (s : Stp) : Prop := (0 ≤ s.op ∧ s.op ≤ 1000000) ∧ (0 ≤ s.dst ∧ s.dst ≤ 1000000) ∧ (0 ≤ s.src ∧ s.src ≤ 1000000) ∧ (0 ≤ s.jump ∧ s.jump ≤ 1000000) ∧ (0 ≤ s.count ∧ s.count ≤ 1000000) ∧ (0 ≤ s.n ∧ s.n ≤ 1000000) ∧ (0 ≤ s.k ∧ s.k ≤ 1000000)
structure StepG (s : Stp) (N : Nat) : Prop where
  sm : SmS s
  cnt : 1 ≤ s.count ∧ s.count ≤ 1000000
  op : (s.op = 1 ∧ s.dst + s.count ≤ N ∧ s.src + (s.count - 1) * s.jump < N) ∨ (s.op = 2 ∧ s.src + s.count ≤ N ∧ s.dst + (s.count - 1) * s.jump < N) ∨ (s.op = 3 ∧ s.dst + s.count ≤ N) ∨
    (s.op = 4 ∧ s.dst + s.count ≤ N ∧ 1 ≤ s.n ∧ s.n ≤ 16384 ∧ 0 ≤ s.k ∧ s.k < s.n) ∨ (s.op = 5 ∧ 2 ≤ s.n ∧ s.n ≤ 5 ∧ s.dst + s.count - 1 + (s.n - 1) * s.jump < N) ∨ (s.op = 6 ∧ 1 ≤ s.n ∧ s.n ≤ 64 ∧ 1 ≤ s.jump ∧ s.count ≤ s.n ∧ s.dst + s.count ≤ N ∧ s.src + (s.n - 1) * s.jump < N) ∨
    (s.op = 7 ∧ s.dst + s.count ≤ N ∧ 1 ≤ s.n ∧ s.n ≤ 16384) ∨ (s.op = 8 ∧ s.dst + s.count ≤ N ∧ 1 ≤ s.n ∧ 2 * s.n - 1 ≤ s.count ∧ s.count ≤ 16384) ∨ (s.op = 9 ∧ s.dst + s.count ≤ N ∧ s.src + s.count ≤ N) ∨ (s.op = 10 ∧ s.dst + s.count ≤ N) ∨ (s.op = 11 ∧ s.dst + s.count ≤ N)
theorem StepG.op11 {s : Stp} {N : Nat} (h : StepG s N) : 1 ≤ s.op ∧ s.op ≤ 11 := by
  obtain ⟨_, _, h⟩ := h
  rcases h with ⟨h, _⟩ | ⟨h, _⟩ | ⟨h, _⟩ | ⟨h, _⟩ | ⟨h, _⟩ | ⟨h, _⟩ | ⟨h, _⟩ | ⟨h, _⟩ | ⟨h, _⟩ | ⟨h, _⟩ | ⟨h, _⟩ <;> rw [h] <;> decide
theorem cntG_pos {L : List Stp} (h : ∀ s ∈ L, 1 ≤ s.count) : 0 ≤ cntS L ∧ (cntS L = 0 → L = []) := by
  induction L with
  | nil => exact ⟨Int.le_refl _, fun _ => rfl⟩
  | cons s t ih =>
    have h1 := ih fun x hx => h x (List.mem_cons_of_mem _ hx)
    have h2 := h s (List.mem_cons_self ..)
    exact ⟨by show 0 ≤ s.count + cntS t; omega, fun e => by have : s.count + cntS t = 0 := e; omega⟩
theorem cntG_drop_le {L : List Stp} (h : ∀ s ∈ L, 1 ≤ s.count) (j : Nat) : 0 ≤ cntS (L.drop j) ∧ cntS (L.drop j) ≤ cntS L := by
  refine ⟨(cntG_pos fun s hs => h s (List.mem_of_mem_drop hs)).1, ?_⟩
  induction L generalizing j with
  | nil => simp
  | cons s t ih =>
    cases j with
    | zero => exact Int.le_refl _
    | succ j =>
      have h1 := ih (fun x hx => h x (List.mem_cons_of_mem _ hx)) j
      have h2 := h s (List.mem_cons_self ..)
      show cntS (t.drop j) ≤ s.count + cntS t
      omega
theorem cntG_all {L : List Stp} {j : Nat} (h : ∀ s ∈ L, 1 ≤ s.count) (h0 : cntS (L.drop j) = 0) : L.take j = L ∧ L.length ≤ j := by
  have h1 := (cntG_pos fun s hs => h s (List.mem_of_mem_drop hs)).2 h0
  have h2 : L.length ≤ j := by
    have := congrArg List.length h1
    simp at this; omega
  exact ⟨List.take_of_length_le h2, h2⟩
end Go.Tm
