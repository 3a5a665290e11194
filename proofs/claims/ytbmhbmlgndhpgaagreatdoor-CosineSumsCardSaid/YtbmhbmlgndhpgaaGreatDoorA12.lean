/- Lemmas of this claim, joined by program. The machine in plain Lean: complex numbers as pairs of floats, butterflies, roots, sums, acts. Walks of functions: butterflies, roots of unity, sums. Walks of functions: the machine's acts. Conditions: each lemma names its own. -/
import Derived.Test.YtbmhbmlgndhpgaaGreatDoorA11
import Derived.Test.YtbmhbmlgndhpgaaGreatDoorA05
set_option linter.all false
namespace Go.Tm
def plusC (x y : Cx) : Cx := (fadd x.1 y.1, fadd x.2 y.2)
def lessC (x y : Cx) : Cx := (fsub x.1 y.1, fsub x.2 y.2)
def mulC (a b : Cx) : Cx := (fsub (fmul a.1 b.1) (fmul a.2 b.2), fadd (fmul a.1 b.2) (fmul a.2 b.1))
def conjC (a : Cx) : Cx := (a.1, fneg a.2)
def timesI (a : Cx) : Cx := (fneg a.2, a.1)
def minusI (a : Cx) : Cx := (a.2, fneg a.1)
def fi (n : Int) : Fl := cn (FloatKind.f64.nearest n)
def overC (a : Cx) (n : Int) : Cx := (fquo a.1 (fi n), fquo a.2 (fi n))
def flyC : List Cx → List Cx
  | [a, b] => [plusC a b, lessC a b]
  | [a, b, c, d] => [plusC (plusC a c) (plusC b d), plusC (lessC a c) (minusI (lessC b d)), lessC (plusC a c) (plusC b d), plusC (lessC a c) (timesI (lessC b d))]
  | l => l
def pzB (b : Nat) : Nat := if (Ieee.double.order b 0 == some .eq) = true then 0 else b
def tur : Nat → Nat × Nat
  | 0 => (4607182418800017408, 0)
  | q + 1 => (Op.negFloat .f64 (tur q).2, (tur q).1)
def rootB (n k : Nat) : CB := (pzB (tur (4 * (k % n) / n)).1, pzB (Op.negFloat .f64 (pzB (tur (4 * (k % n) / n)).2)))
def sumC (n k : Nat) (x : Nat → Cx) : Nat → Cx
  | 0 => x 0
  | j + 1 => plusC (sumC n k x j) (if (j + 1) * k % n = 0 then x (j + 1) else mulC (x (j + 1)) (cx (rootB n ((j + 1) * k % n))))
def directC (n k : Nat) (x : Nat → Cx) : Cx := sumC n k x (n - 1)
abbrev z0 : Cx := cx (0, 0)
def putN (c : List Cx) (u v : Nat) (ys : List Cx) : Nat → List Cx
  | 0 => c
  | q + 1 => (putN c u v ys q).set (u + q * v) (ys.getD q z0)
theorem map_getD (xs : List CB) (j : Nat) : (xs.map cx).getD j z0 = cx (xs.getD j (0, 0)) := by
  simp only [List.getD, List.getElem?_map]
  cases xs[j]? <;> rfl
def rowF (n : Nat) (f : Nat → CB) (j : Nat) : List CB := (List.range j).map f ++ List.replicate (n - j) (0, 0)
theorem rowF_set {n j : Nat} {f : Nat → CB} (h : j < n) : (rowF n f j).set j (f j) = rowF n f (j + 1) := by
  unfold rowF
  obtain ⟨m, hm⟩ : ∃ m, n - j = m + 1 := ⟨n - j - 1, by omega⟩
  rw [hm, show n - (j + 1) = m by omega, List.set_append_right _ _ (by simp), List.range_succ, List.map_append]
  simp [List.replicate_succ]
theorem rowF_zero (n : Nat) (f : Nat → CB) : rowF n f 0 = List.replicate n (0, 0) := by simp [rowF]
theorem rowF_all (n : Nat) (f : Nat → CB) : rowF n f n = (List.range n).map f := by simp [rowF]
theorem range_getD {n e : Nat} {f : Nat → CB} {d : CB} (h : e < n) : ((List.range n).map f).getD e d = f e := by simp [List.getD, h]
theorem sumC_step {n k j : Nat} {X : Nat → Cx} (h : 1 ≤ j) : sumC n k X (j + 1 - 1) = plusC (sumC n k X (j - 1)) (if j * k % n = 0 then X j else mulC (X j) (cx (rootB n (j * k % n)))) := by
  obtain ⟨i, rfl⟩ : ∃ i, j = i + 1 := ⟨j - 1, by omega⟩
  rfl
theorem sum_next {n k j : Nat} {X : Nat → Cx} {a b p q r s : Nat} (h : 1 ≤ j) (hs : cx (a, b) = sumC n k X (j - 1)) (f1 : cn r = fop .add (cn a) (cn p)) (f2 : cn s = fop .add (cn b) (cn q)) (hz : cx (p, q) = if j * k % n = 0 then X j else mulC (X j) (cx (rootB n (j * k % n)))) : cx (r, s) = sumC n k X (j + 1 - 1) := by
  rw [sumC_step h, ← hs, ← hz]
  show (cn r, cn s) = _
  rw [f1, f2]; rfl
def actC (s : Stp) (i : Nat) (c : List Cx) : List Cx :=
  if s.op = 1 then c.set (s.dst.toNat + i) (c.getD (s.src.toNat + i * s.jump.toNat) z0)
  else if s.op = 5 then putN c (s.dst.toNat + i) s.jump.toNat (flyC ((List.range s.n.toNat).map fun q => c.getD (s.dst.toNat + i + q * s.jump.toNat) z0)) s.n.toNat
  else if s.op = 6 then c.set (s.dst.toNat + i) (directC s.n.toNat i fun j => c.getD (s.src.toNat + j * s.jump.toNat) z0)
  else c
def actsC (s : Stp) (c : List Cx) : Nat → List Cx
  | 0 => c
  | i + 1 => actC s i (actsC s c i)
def runC (l : List Stp) (c : List Cx) : List Cx := l.foldl (fun c s => actsC s c s.count.toNat) c
theorem runC_take {L : List Stp} {j : Nat} {s : Stp} (h : L[j]? = some s) (c : List Cx) : runC (L.take (j + 1)) c = actsC s (runC (L.take j) c) s.count.toNat := by
  rw [List.take_add_one, h]; simp [runC]
def cntS : List Stp → Int
  | [] => 0
  | s :: t => s.count + cntS t
theorem cntS_drop {L : List Stp} {j : Nat} {s : Stp} (h : L[j]? = some s) : cntS (L.drop j) = s.count + cntS (L.drop (j + 1)) := by
  rw [← List.cons_getElem?_drop_succ' h]; rfl
def StepOk (s : Stp) (N : Nat) : Prop := 1 ≤ s.count ∧ s.count ≤ 1000000 ∧ 0 ≤ s.dst ∧ 0 ≤ s.src ∧ 1 ≤ s.jump ∧ s.jump ≤ 1000000 ∧ ((s.op = 1 ∧ s.dst + s.count ≤ N ∧ s.src + (s.count - 1) * s.jump < N) ∨ (s.op = 5 ∧ (s.n = 2 ∨ s.n = 4) ∧ s.dst + s.count - 1 + (s.n - 1) * s.jump < N) ∨ (s.op = 6 ∧ (s.n = 1 ∨ s.n = 2 ∨ s.n = 4) ∧ s.count ≤ s.n ∧ s.dst + s.count ≤ N ∧ s.src + (s.n - 1) * s.jump < N))
instance (s : Stp) (N : Nat) : Decidable (StepOk s N) := by unfold StepOk; infer_instance
theorem StepOk.op {s : Stp} {N : Nat} (h : StepOk s N) : s.op = 1 ∨ s.op = 5 ∨ s.op = 6 := by
  rcases h.2.2.2.2.2.2 with h | h | h
  · exact .inl h.1
  · exact .inr (.inl h.1)
  · exact .inr (.inr h.1)
theorem cntS_pos {L : List Stp} {N : Nat} (h : ∀ s ∈ L, StepOk s N) : 0 ≤ cntS L ∧ (cntS L = 0 → L = []) := by
  induction L with
  | nil => exact ⟨Int.le_refl _, fun _ => rfl⟩
  | cons s t ih =>
    have h1 := ih fun x hx => h x (List.mem_cons_of_mem _ hx)
    have h2 := (h s (List.mem_cons_self ..)).1
    exact ⟨by show 0 ≤ s.count + cntS t; omega, fun e => by have : s.count + cntS t = 0 := e; omega⟩
theorem cntS_drop_le {L : List Stp} {N : Nat} (h : ∀ s ∈ L, StepOk s N) (j : Nat) : 0 ≤ cntS (L.drop j) ∧ cntS (L.drop j) ≤ cntS L := by
  refine ⟨(cntS_pos fun s hs => h s (List.mem_of_mem_drop hs)).1, ?_⟩
  induction L generalizing j with
  | nil => simp
  | cons s t ih =>
    cases j with
    | zero => exact Int.le_refl _
    | succ j =>
      have h1 := ih (fun x hx => h x (List.mem_cons_of_mem _ hx)) j
      have h2 := (h s (List.mem_cons_self ..)).1
      show cntS (t.drop j) ≤ s.count + cntS t
      omega
theorem cntS_some {L : List Stp} {j : Nat} (h : 0 < cntS (L.drop j)) : ∃ s, L[j]? = some s := by
  by_cases hj : j < L.length
  · exact ⟨_, List.getElem?_eq_getElem hj⟩
  · rw [List.drop_of_length_le (by omega)] at h
    exact absurd h (by decide)
theorem cntS_all {L : List Stp} {N j : Nat} (h : ∀ s ∈ L, StepOk s N) (h0 : cntS (L.drop j) = 0) : L.take j = L ∧ L.length ≤ j := by
  have h1 := (cntS_pos fun s hs => h s (List.mem_of_mem_drop hs)).2 h0
  have h2 : L.length ≤ j := by
    have := congrArg List.length h1
    simp at this; omega
  exact ⟨List.take_of_length_le h2, h2⟩
end Go.Tm
namespace Go.Tm
open Go.RowKit Go.Proofs
structure AtR (S : Nat → Prop) (w : World) (p5 p6 p7 : Nat) (A : Option Addr) (l c : Nat) (xs : List CB) (u v : Nat) : Prop where
  b5 : Bk w p5 #[.slice A l c] 49
  b6 : Bk w p6 #[.int .i64 u] 3
  b7 : Bk w p7 #[.int .i64 v] 3
  sl : SlR S w A l 1 (xs.map cxV)
theorem AtR.keep {S : Nat → Prop} {w w' : World} {p5 p6 p7 : Nat} {A : Option Addr} {l c : Nat} {xs : List CB} {u v : Nat} (h : AtR S w p5 p6 p7 A l c xs u v) (m : Ch No w w') : AtR S w' p5 p6 p7 A l c xs u v := ⟨h.b5.keep m, h.b6.keep m, h.b7.keep m, h.sl.keep m⟩
abbrev XX (xs : List CB) (u v : Nat) : Nat → Cx := fun i => cx (xs.getD (u + i * v) (0, 0))
set_option maxRecDepth 100000 in
theorem inf50w40 : Inf Tryz.prog 50 (.complex .f64 0 0) 1 16 := ⟨Tryz.t50, Tryz.type50, rfl, rfl, rfl⟩
theorem bld196_0_1w40 {v0 v1 : Value} (h : [v0, v1].all Value.oneCell' = true) (w : World) : (Instr.build 196 ([(0, v0), (1, v1)] : List (Nat × Value)).toArray).run Tryz.prog w = .ok (.agg #[v0, v1]) w := by
  simp only [List.all_cons, Bool.and_eq_true, List.all_nil, and_true] at h
  have hv0 := oneCell_cells (v := v0) (by simp_all)
  have hv1 := oneCell_cells (v := v1) (by simp_all)
  have h1 := fill_set (fun i => some (i * 1, 1)) [(0, v0), (1, v1)] [.complex .f64 0 0, .complex .f64 0 0] (by simp [okF, agg_cells, hv0, hv1, Nat.beq, Nat.ble])
  simp [setF, agg_cells, hv0, hv1] at h1
  simp [Instr.build, Tryz.runUnderlying196, Tryz.zeroValue196, Tryz.sizeOf50, agg_cells, h1]
theorem bld200_0_1_2_3w40 {v0 v1 v2 v3 : Value} (h : [v0, v1, v2, v3].all Value.oneCell' = true) (w : World) : (Instr.build 200 ([(0, v0), (1, v1), (2, v2), (3, v3)] : List (Nat × Value)).toArray).run Tryz.prog w = .ok (.agg #[v0, v1, v2, v3]) w := by
  simp only [List.all_cons, Bool.and_eq_true, List.all_nil, and_true] at h
  have hv0 := oneCell_cells (v := v0) (by simp_all)
  have hv1 := oneCell_cells (v := v1) (by simp_all)
  have hv2 := oneCell_cells (v := v2) (by simp_all)
  have hv3 := oneCell_cells (v := v3) (by simp_all)
  have h1 := fill_set (fun i => some (i * 1, 1)) [(0, v0), (1, v1), (2, v2), (3, v3)] [.complex .f64 0 0, .complex .f64 0 0, .complex .f64 0 0, .complex .f64 0 0] (by simp [okF, agg_cells, hv0, hv1, hv2, hv3, Nat.beq, Nat.ble])
  simp [setF, agg_cells, hv0, hv1, hv2, hv3] at h1
  simp [Instr.build, Tryz.runUnderlying200, Tryz.zeroValue200, Tryz.sizeOf50, agg_cells, h1]
set_option maxRecDepth 100000 in
theorem fly_plus (a b c d : Nat) (w : World) :
  Calls Tryz.prog 167 #[.complex .f64 a b, .complex .f64 c d] w (Ret (fun v w' => ∃ p q, v = .complex .f64 p q ∧ cx (p, q) = plusC (cx (a, b)) (cx (c, d)) ∧ Ch No w w')) := by
 refine calls_of_VC (args := [.complex .f64 a b, .complex .f64 c d]) Tryz.func167 rfl Tryz.ntmps167 rfl (VC.seq (VC.region (VO.mv (Rn.assign rfl) rfl rfl rfl (VO.nil (VQ.then_code (VC.seq (VC.region ?_)))))))
 refine VO.mv (Rn.move rfl) rfl rfl rfl (VO.mv (Rn.real rfl) rfl rfl rfl (VO.mv (Rn.move rfl) rfl rfl rfl (VO.mv (Rn.real rfl) rfl rfl rfl (VO.wk (Wk.fbin (.inl rfl) rfl rfl) rfl rfl rfl ?_))))
 rintro _ w1 ⟨r1, rfl, f1, c1⟩
 have z1 := c1.size
 refine VO.mv (Rn.move rfl) rfl rfl rfl (VO.mv (Rn.imag rfl) rfl rfl rfl (VO.mv (Rn.move rfl) rfl rfl rfl (VO.mv (Rn.imag rfl) rfl rfl rfl (VO.wk (Wk.fbin (.inl rfl) rfl rfl) rfl rfl rfl ?_))))
 rintro _ w2 ⟨r2, rfl, f2, c2⟩
 have z2 := c2.size
 refine VO.mv (Rn.complex rfl rfl) rfl rfl rfl (VO.mv (Rn.assign rfl) rfl rfl rfl (VO.nil (VQ.then_code (VC.ret (VQ.ret1 rfl rfl (Ret.mk ?_))))))
 have CH_2 := (Ch.refl (No) w).and (c1.trans c2)
 exact ⟨_, _, rfl, (by show (cn _, cn _) = _; rw [f1, f2]; rfl), CH_2⟩
set_option maxRecDepth 100000 in
theorem fly_less (a b c d : Nat) (w : World) :
  Calls Tryz.prog 168 #[.complex .f64 a b, .complex .f64 c d] w (Ret (fun v w' => ∃ p q, v = .complex .f64 p q ∧ cx (p, q) = lessC (cx (a, b)) (cx (c, d)) ∧ Ch No w w')) := by
 refine calls_of_VC (args := [.complex .f64 a b, .complex .f64 c d]) Tryz.func168 rfl Tryz.ntmps168 rfl (VC.seq (VC.region (VO.mv (Rn.assign rfl) rfl rfl rfl (VO.nil (VQ.then_code (VC.seq (VC.region ?_)))))))
 refine VO.mv (Rn.move rfl) rfl rfl rfl (VO.mv (Rn.real rfl) rfl rfl rfl (VO.mv (Rn.move rfl) rfl rfl rfl (VO.mv (Rn.real rfl) rfl rfl rfl (VO.wk (Wk.fbin (.inr (.inl rfl)) rfl rfl) rfl rfl rfl ?_))))
 rintro _ w1 ⟨r1, rfl, f1, c1⟩
 have z1 := c1.size
 refine VO.mv (Rn.move rfl) rfl rfl rfl (VO.mv (Rn.imag rfl) rfl rfl rfl (VO.mv (Rn.move rfl) rfl rfl rfl (VO.mv (Rn.imag rfl) rfl rfl rfl (VO.wk (Wk.fbin (.inr (.inl rfl)) rfl rfl) rfl rfl rfl ?_))))
 rintro _ w2 ⟨r2, rfl, f2, c2⟩
 have z2 := c2.size
 refine VO.mv (Rn.complex rfl rfl) rfl rfl rfl (VO.mv (Rn.assign rfl) rfl rfl rfl (VO.nil (VQ.then_code (VC.ret (VQ.ret1 rfl rfl (Ret.mk ?_))))))
 have CH_2 := (Ch.refl (No) w).and (c1.trans c2)
 exact ⟨_, _, rfl, (by show (cn _, cn _) = _; rw [f1, f2]; rfl), CH_2⟩
set_option maxRecDepth 100000 in
theorem cplx_Mul (a b c d : Nat) (w : World) :
  Calls Tryz.prog 32 #[.complex .f64 a b, .complex .f64 c d] w (Ret (fun v w' => ∃ p q, v = .complex .f64 p q ∧ cx (p, q) = mulC (cx (a, b)) (cx (c, d)) ∧ Ch No w w')) := by
 refine calls_of_VC (args := [.complex .f64 a b, .complex .f64 c d]) Tryz.func32 rfl Tryz.ntmps32 rfl (VC.seq (VC.region (VO.mv (Rn.assign rfl) rfl rfl rfl (VO.nil (VQ.then_code (VC.seq (VC.region ?_)))))))
 refine VO.mv (Rn.move rfl) rfl rfl rfl (VO.mv (Rn.real rfl) rfl rfl rfl (VO.mv (Rn.move rfl) rfl rfl rfl (VO.mv (Rn.imag rfl) rfl rfl rfl (VO.mv (Rn.move rfl) rfl rfl rfl (VO.mv (Rn.real rfl) rfl rfl rfl (VO.mv (Rn.move rfl) rfl rfl rfl (VO.mv (Rn.imag rfl) rfl rfl rfl ?_)))))))
 refine VO.mv (Rn.assign rfl) rfl rfl rfl (VO.mv (Rn.assign rfl) rfl rfl rfl (VO.mv (Rn.assign rfl) rfl rfl rfl (VO.mv (Rn.assign rfl) rfl rfl rfl (VO.nil (VQ.then_code (VC.seq (VC.region ?_)))))))
 refine VO.mv (Rn.move rfl) rfl rfl rfl (VO.mv (Rn.move rfl) rfl rfl rfl (VO.wk (Wk.fbin (.inr (.inr (.inl rfl))) rfl rfl) rfl rfl rfl ?_))
 rintro _ w1 ⟨r1, rfl, f1, c1⟩
 have z1 := c1.size
 refine VO.mv (Rn.move rfl) rfl rfl rfl (VO.mv (Rn.move rfl) rfl rfl rfl (VO.wk (Wk.fbin (.inr (.inr (.inl rfl))) rfl rfl) rfl rfl rfl ?_))
 rintro _ w2 ⟨r2, rfl, f2, c2⟩
 have z2 := c2.size
 refine VO.wk (Wk.fbin (.inr (.inl rfl)) rfl rfl) rfl rfl rfl ?_
 rintro _ w3 ⟨r3, rfl, f3, c3⟩
 have z3 := c3.size
 refine VO.mv (Rn.move rfl) rfl rfl rfl (VO.mv (Rn.move rfl) rfl rfl rfl (VO.wk (Wk.fbin (.inr (.inr (.inl rfl))) rfl rfl) rfl rfl rfl ?_))
 rintro _ w4 ⟨r4, rfl, f4, c4⟩
 have z4 := c4.size
 refine VO.mv (Rn.move rfl) rfl rfl rfl (VO.mv (Rn.move rfl) rfl rfl rfl (VO.wk (Wk.fbin (.inr (.inr (.inl rfl))) rfl rfl) rfl rfl rfl ?_))
 rintro _ w5 ⟨r5, rfl, f5, c5⟩
 have z5 := c5.size
 refine VO.wk (Wk.fbin (.inl rfl) rfl rfl) rfl rfl rfl ?_
 rintro _ w6 ⟨r6, rfl, f6, c6⟩
 have z6 := c6.size
 refine VO.mv (Rn.complex rfl rfl) rfl rfl rfl (VO.mv (Rn.assign rfl) rfl rfl rfl (VO.nil (VQ.then_code (VC.ret (VQ.ret1 rfl rfl (Ret.mk ?_))))))
 have CH_6 := (Ch.refl (No) w).and (c1.trans (c2.trans (c3.trans (c4.trans (c5.trans c6)))))
 exact ⟨_, _, rfl, (by show (cn _, cn _) = _; rw [f3, f6, f1, f2, f4, f5]; rfl), CH_6⟩
set_option maxRecDepth 100000 in
theorem cplx_Conj (a b : Nat) (w : World) :
  Calls Tryz.prog 67 #[.complex .f64 a b] w (Ret (fun v w' => ∃ p q, v = .complex .f64 p q ∧ cx (p, q) = conjC (cx (a, b)) ∧ Ch No w w')) := by
 refine calls_of_VC (args := [.complex .f64 a b]) Tryz.func67 rfl Tryz.ntmps67 rfl (VC.seq (VC.region (VO.mv (Rn.assign rfl) rfl rfl rfl (VO.nil (VQ.then_code (VC.seq (VC.region ?_)))))))
 refine VO.mv (Rn.move rfl) rfl rfl rfl (VO.mv (Rn.real rfl) rfl rfl rfl (VO.mv (Rn.move rfl) rfl rfl rfl (VO.mv (Rn.imag rfl) rfl rfl rfl (VO.mv (Rn.fneg rfl) rfl rfl rfl (VO.mv (Rn.complex rfl rfl) rfl rfl rfl (VO.mv (Rn.assign rfl) rfl rfl rfl (VO.nil ?_)))))))
 refine VQ.then_code (VC.ret (VQ.ret1 rfl rfl (Ret.mk ?_)))
 exact ⟨_, _, rfl, (by show (cn _, cn _) = _; rw [cn_neg]; rfl), (Ch.refl (No) w)⟩
set_option maxRecDepth 100000 in
theorem cplx_TimesI (a b : Nat) (w : World) :
  Calls Tryz.prog 171 #[.complex .f64 a b] w (Ret (fun v w' => ∃ p q, v = .complex .f64 p q ∧ cx (p, q) = timesI (cx (a, b)) ∧ Ch No w w')) := by
 refine calls_of_VC (args := [.complex .f64 a b]) Tryz.func171 rfl Tryz.ntmps171 rfl (VC.seq (VC.region (VO.mv (Rn.assign rfl) rfl rfl rfl (VO.nil (VQ.then_code (VC.seq (VC.region ?_)))))))
 refine VO.mv (Rn.move rfl) rfl rfl rfl (VO.mv (Rn.imag rfl) rfl rfl rfl (VO.mv (Rn.fneg rfl) rfl rfl rfl (VO.mv (Rn.move rfl) rfl rfl rfl (VO.mv (Rn.real rfl) rfl rfl rfl (VO.mv (Rn.complex rfl rfl) rfl rfl rfl (VO.mv (Rn.assign rfl) rfl rfl rfl (VO.nil ?_)))))))
 refine VQ.then_code (VC.ret (VQ.ret1 rfl rfl (Ret.mk ?_)))
 exact ⟨_, _, rfl, (by show (cn _, cn _) = _; rw [cn_neg]; rfl), (Ch.refl (No) w)⟩
set_option maxRecDepth 100000 in
theorem cplx_MinusI (a b : Nat) (w : World) :
  Calls Tryz.prog 170 #[.complex .f64 a b] w (Ret (fun v w' => ∃ p q, v = .complex .f64 p q ∧ cx (p, q) = minusI (cx (a, b)) ∧ Ch No w w')) := by
 refine calls_of_VC (args := [.complex .f64 a b]) Tryz.func170 rfl Tryz.ntmps170 rfl (VC.seq (VC.region (VO.mv (Rn.assign rfl) rfl rfl rfl (VO.nil (VQ.then_code (VC.seq (VC.region ?_)))))))
 refine VO.mv (Rn.move rfl) rfl rfl rfl (VO.mv (Rn.imag rfl) rfl rfl rfl (VO.mv (Rn.move rfl) rfl rfl rfl (VO.mv (Rn.real rfl) rfl rfl rfl (VO.mv (Rn.fneg rfl) rfl rfl rfl (VO.mv (Rn.complex rfl rfl) rfl rfl rfl (VO.mv (Rn.assign rfl) rfl rfl rfl (VO.nil ?_)))))))
 refine VQ.then_code (VC.ret (VQ.ret1 rfl rfl (Ret.mk ?_)))
 exact ⟨_, _, rfl, (by show (cn _, cn _) = _; rw [cn_neg]; rfl), (Ch.refl (No) w)⟩
set_option maxRecDepth 100000 in
theorem cplx_Over (a b : Nat) (m : Int) (w : World) :
  Calls Tryz.prog 58 #[.complex .f64 a b, .int .i64 m] w (Ret (fun v w' => ∃ p q, v = .complex .f64 p q ∧ cx (p, q) = overC (cx (a, b)) m ∧ Ch No w w')) := by
 refine calls_of_VC (args := [.complex .f64 a b, .int .i64 m]) Tryz.func58 rfl Tryz.ntmps58 rfl (VC.seq (VC.region (VO.mv (Rn.assign rfl) rfl rfl rfl (VO.nil (VQ.then_code (VC.seq (VC.region ?_)))))))
 refine VO.mv (Rn.move rfl) rfl rfl rfl (VO.mv (Rn.conv_if Tryz.underlying3 Tryz.underlying36 rfl) rfl rfl rfl (VO.mv (Rn.assign rfl) rfl rfl rfl (VO.nil (VQ.then_code (VC.seq (VC.region (VO.mv (Rn.move rfl) rfl rfl rfl ?_)))))))
 refine VO.mv (Rn.real rfl) rfl rfl rfl (VO.mv (Rn.move rfl) rfl rfl rfl (VO.wk (Wk.fbin (.inr (.inr (.inr rfl))) rfl rfl) rfl rfl rfl ?_))
 rintro _ w1 ⟨r1, rfl, f1, c1⟩
 have z1 := c1.size
 refine VO.mv (Rn.move rfl) rfl rfl rfl (VO.mv (Rn.imag rfl) rfl rfl rfl (VO.mv (Rn.move rfl) rfl rfl rfl (VO.wk (Wk.fbin (.inr (.inr (.inr rfl))) rfl rfl) rfl rfl rfl ?_)))
 rintro _ w2 ⟨r2, rfl, f2, c2⟩
 have z2 := c2.size
 refine VO.mv (Rn.complex rfl rfl) rfl rfl rfl (VO.mv (Rn.assign rfl) rfl rfl rfl (VO.nil (VQ.then_code (VC.ret (VQ.ret1 rfl rfl (Ret.mk ?_))))))
 have CH_2 := (Ch.refl (No) w).and (c1.trans c2)
 exact ⟨_, _, rfl, (by show (cn _, cn _) = _; rw [f1, f2]; rfl), CH_2⟩
set_option maxRecDepth 100000 in
theorem fly_Two (x y : CB) (w : World) :
  Calls Tryz.prog 139 #[.agg #[.complex .f64 x.1 x.2, .complex .f64 y.1 y.2]] w (Ret (fun v w' => ∃ a b : CB, v = .agg #[cxV a, cxV b] ∧ [cx a, cx b] = flyC [cx x, cx y] ∧ Ch No w w')) := by
 refine calls_of_VC (args := [.agg #[.complex .f64 x.1 x.2, .complex .f64 y.1 y.2]]) Tryz.func139 rfl Tryz.ntmps139 rfl (VC.seq (VC.region (VO.wk (Wk.box rfl) rfl rfl rfl ?_)))
 rintro _ w1 ⟨p1, rfl, N1⟩
 have c1 := N1.ch
 have e1 := N1.p; have z1 := N1.size
 have b1 := Bk.new N1
 refine VO.wk (Wk.alloc Tryz.zeroValue196) rfl rfl rfl ?_
 rintro _ w2 ⟨p2, rfl, N2⟩
 have c2 := N2.ch
 have e2 := N2.p; have z2 := N2.size
 have b2 := Bk.new N2
 refine VO.nil (VQ.then_code (VC.seq (VC.draws 11 [(0, true), (1, true), (2, true), (3, true), (5, true), (6, true), (7, true), (8, true), (4, false), (9, false), (10, true)] (fun w1 w' => Ch (No) w1 w') mixed (by kernel_rfl) (fun _ _ => Ch.refl _ _) ?_)))
 intro w3 D3
 have c3 := Ch.of_drew D3; have z3 := c3.size
 have b1_3 := b1.keep (c2.trans c3)
 have b2_3 := b2.keep c3
 refine VH.mv (fun w' hS => Rn.indexArrL (o' := 0) Tryz.underlying196 Tryz.sizeOf50 rfl rfl (by decide) (by decide) rfl) rfl rfl rfl rfl (VH.mv (fun w' hS => Rn.load Tryz.isAgg50 rfl ((b1_3.keep hS).cell rfl)) rfl rfl rfl rfl (VH.mv (fun w' hS => Rn.indexArrL (o' := 1) Tryz.underlying196 Tryz.sizeOf50 rfl rfl (by decide) (by decide) rfl) rfl rfl rfl rfl (VH.mv (fun w' hS => Rn.load Tryz.isAgg50 rfl ((b1_3.keep hS).cell rfl)) rfl rfl rfl rfl (VH.mv (fun w' hS => Rn.indexArrL (o' := 0) Tryz.underlying196 Tryz.sizeOf50 rfl rfl (by decide) (by decide) rfl) rfl rfl rfl rfl (VH.mv (fun w' hS => Rn.load Tryz.isAgg50 rfl ((b1_3.keep hS).cell rfl)) rfl rfl rfl rfl (VH.mv (fun w' hS => Rn.indexArrL (o' := 1) Tryz.underlying196 Tryz.sizeOf50 rfl rfl (by decide) (by decide) rfl) rfl rfl rfl rfl (VH.mv (fun w' hS => Rn.load Tryz.isAgg50 rfl ((b1_3.keep hS).cell rfl)) rfl rfl rfl rfl ?_)))))))
 refine VH.wk (Wk.call Tryz.call167 rfl (fly_plus _ _ _ _ _)) rfl rfl rfl rfl ?_
 rintro _ w4 ⟨p4, q4, rfl, F4, c4⟩
 have z4 := c4.size
 have RD_4 := (Ch.refl (No) w3).and c4
 refine ⟨RD_4, ?_⟩
 refine VH.wk (Wk.call Tryz.call168 rfl (fly_less _ _ _ _ _)) rfl rfl rfl rfl ?_
 rintro _ w5 ⟨p5, q5, rfl, F5, c5⟩
 have z5 := c5.size
 have RD_5 := RD_4.and c5
 refine ⟨RD_5, ?_⟩
 refine VH.mv (fun w' hS => Rn.build rfl (bld196_0_1w40 rfl)) rfl rfl rfl rfl (VH.done ?_)
 have b2_5 := b2_3.keep (c4.trans c5)
 refine VO.wk0 (Wk.puts Tryz.sizeOf196 rfl rfl rfl rfl b2_5 (Nat.le_of_ble_eq_true rfl)) rfl rfl ?_
 intro _ w6 Z6
 have c6 := Z6.ch; have z6 := Z6.size
 have b2_6 := Bk.put Z6
 refine VO.nil (VQ.noPanic (VQ.then_code (VC.ret (VQ.retc rfl rfl Tryz.isAgg196 Tryz.sizeOf196 rfl (b2_6.all' rfl) (Ret.mk ?_)))))
 have cc_0_6 : Ch No w w6 := (Ch.then (E := No) ((((c1.and c2).and c3).and c4).and c5) c6 (by intro q h1 h2; rcases h2 with h2 | h2 <;> first | exact h2 | (exfalso; omega)))
 have CH_6 := (Ch.refl (No) w).and cc_0_6
 exact ⟨(_, _), (_, _), rfl, (by rw [F4, F5]; rfl), CH_6⟩
set_option maxRecDepth 100000 in
theorem fly_Four (x y u v : CB) (w : World) :
  Calls Tryz.prog 141 #[.agg #[.complex .f64 x.1 x.2, .complex .f64 y.1 y.2, .complex .f64 u.1 u.2, .complex .f64 v.1 v.2]] w (Ret (fun r w' => ∃ a b c d : CB, r = .agg #[cxV a, cxV b, cxV c, cxV d] ∧ [cx a, cx b, cx c, cx d] = flyC [cx x, cx y, cx u, cx v] ∧ Ch No w w')) := by
 refine calls_of_VC (args := [.agg #[.complex .f64 x.1 x.2, .complex .f64 y.1 y.2, .complex .f64 u.1 u.2, .complex .f64 v.1 v.2]]) Tryz.func141 rfl Tryz.ntmps141 rfl (VC.seq (VC.region (VO.wk (Wk.box rfl) rfl rfl rfl ?_)))
 rintro _ w1 ⟨p1, rfl, N1⟩
 have c1 := N1.ch
 have e1 := N1.p; have z1 := N1.size
 have b1 := Bk.new N1
 refine VO.wk (Wk.alloc Tryz.zeroValue200) rfl rfl rfl ?_
 rintro _ w2 ⟨p2, rfl, N2⟩
 have c2 := N2.ch
 have e2 := N2.p; have z2 := N2.size
 have b2 := Bk.new N2
 refine VO.nil (VQ.then_code (VC.seq (VC.draws 11 [(0, true), (1, true), (2, true), (3, true), (5, true), (6, true), (7, true), (8, true), (4, false), (9, false), (10, true)] (fun w1 w' => Ch (No) w1 w') mixed (by kernel_rfl) (fun _ _ => Ch.refl _ _) ?_)))
 intro w3 D3
 have c3 := Ch.of_drew D3; have z3 := c3.size
 have b1_3 := b1.keep (c2.trans c3)
 have b2_3 := b2.keep c3
 refine VH.mv (fun w' hS => Rn.indexArrL (o' := 0) Tryz.underlying200 Tryz.sizeOf50 rfl rfl (by decide) (by decide) rfl) rfl rfl rfl rfl (VH.mv (fun w' hS => Rn.load Tryz.isAgg50 rfl ((b1_3.keep hS).cell rfl)) rfl rfl rfl rfl (VH.mv (fun w' hS => Rn.indexArrL (o' := 2) Tryz.underlying200 Tryz.sizeOf50 rfl rfl (by decide) (by decide) rfl) rfl rfl rfl rfl (VH.mv (fun w' hS => Rn.load Tryz.isAgg50 rfl ((b1_3.keep hS).cell rfl)) rfl rfl rfl rfl (VH.mv (fun w' hS => Rn.indexArrL (o' := 0) Tryz.underlying200 Tryz.sizeOf50 rfl rfl (by decide) (by decide) rfl) rfl rfl rfl rfl (VH.mv (fun w' hS => Rn.load Tryz.isAgg50 rfl ((b1_3.keep hS).cell rfl)) rfl rfl rfl rfl (VH.mv (fun w' hS => Rn.indexArrL (o' := 2) Tryz.underlying200 Tryz.sizeOf50 rfl rfl (by decide) (by decide) rfl) rfl rfl rfl rfl (VH.mv (fun w' hS => Rn.load Tryz.isAgg50 rfl ((b1_3.keep hS).cell rfl)) rfl rfl rfl rfl ?_)))))))
 refine VH.wk (Wk.call Tryz.call167 rfl (fly_plus _ _ _ _ _)) rfl rfl rfl rfl ?_
 rintro _ w4 ⟨p4, q4, rfl, F4, c4⟩
 have z4 := c4.size
 have RD_4 := (Ch.refl (No) w3).and c4
 refine ⟨RD_4, ?_⟩
 refine VH.wk (Wk.call Tryz.call168 rfl (fly_less _ _ _ _ _)) rfl rfl rfl rfl ?_
 rintro _ w5 ⟨p5, q5, rfl, F5, c5⟩
 have z5 := c5.size
 have RD_5 := RD_4.and c5
 refine ⟨RD_5, ?_⟩
 refine VH.mv (fun w' hS => Rn.assign rfl) rfl rfl rfl rfl (VH.done (VO.mv (Rn.assign rfl) rfl rfl rfl (VO.nil (VQ.noPanic (VQ.then_code (VC.seq (VC.draws 11 [(0, true), (1, true), (2, true), (3, true), (5, true), (6, true), (7, true), (8, true), (4, false), (9, false), (10, true)] (fun w1 w' => Ch (No) w1 w') mixed (by kernel_rfl) (fun _ _ => Ch.refl _ _) ?_)))))))
 intro w6 D6
 have c6 := Ch.of_drew D6; have z6 := c6.size
 have b1_6 := b1_3.keep (c4.trans (c5.trans c6))
 have b2_6 := b2_3.keep (c4.trans (c5.trans c6))
 refine VH.mv (fun w' hS => Rn.indexArrL (o' := 1) Tryz.underlying200 Tryz.sizeOf50 rfl rfl (by decide) (by decide) rfl) rfl rfl rfl rfl (VH.mv (fun w' hS => Rn.load Tryz.isAgg50 rfl ((b1_6.keep hS).cell rfl)) rfl rfl rfl rfl (VH.mv (fun w' hS => Rn.indexArrL (o' := 3) Tryz.underlying200 Tryz.sizeOf50 rfl rfl (by decide) (by decide) rfl) rfl rfl rfl rfl (VH.mv (fun w' hS => Rn.load Tryz.isAgg50 rfl ((b1_6.keep hS).cell rfl)) rfl rfl rfl rfl (VH.mv (fun w' hS => Rn.indexArrL (o' := 1) Tryz.underlying200 Tryz.sizeOf50 rfl rfl (by decide) (by decide) rfl) rfl rfl rfl rfl (VH.mv (fun w' hS => Rn.load Tryz.isAgg50 rfl ((b1_6.keep hS).cell rfl)) rfl rfl rfl rfl (VH.mv (fun w' hS => Rn.indexArrL (o' := 3) Tryz.underlying200 Tryz.sizeOf50 rfl rfl (by decide) (by decide) rfl) rfl rfl rfl rfl (VH.mv (fun w' hS => Rn.load Tryz.isAgg50 rfl ((b1_6.keep hS).cell rfl)) rfl rfl rfl rfl ?_)))))))
 refine VH.wk (Wk.call Tryz.call167 rfl (fly_plus _ _ _ _ _)) rfl rfl rfl rfl ?_
 rintro _ w7 ⟨p7, q7, rfl, F7, c7⟩
 have z7 := c7.size
 have RD_7 := (Ch.refl (No) w6).and c7
 refine ⟨RD_7, ?_⟩
 refine VH.wk (Wk.call Tryz.call168 rfl (fly_less _ _ _ _ _)) rfl rfl rfl rfl ?_
 rintro _ w8 ⟨p8, q8, rfl, F8, c8⟩
 have z8 := c8.size
 have RD_8 := RD_7.and c8
 refine ⟨RD_8, ?_⟩
 refine VH.mv (fun w' hS => Rn.assign rfl) rfl rfl rfl rfl (VH.done (VO.mv (Rn.assign rfl) rfl rfl rfl (VO.nil (VQ.noPanic (VQ.then_code (VC.seq (VC.region ?_)))))))
 refine VO.mv (Rn.move rfl) rfl rfl rfl (VO.mv (Rn.move rfl) rfl rfl rfl (VO.wk (Wk.call Tryz.call167 rfl (fly_plus _ _ _ _ _)) rfl rfl rfl ?_))
 rintro _ w9 ⟨p9, q9, rfl, F9, c9⟩
 have z9 := c9.size
 refine VO.mv (Rn.move rfl) rfl rfl rfl (VO.mv (Rn.move rfl) rfl rfl rfl (VO.wk (Wk.call Tryz.call170 rfl (cplx_MinusI _ _ _)) rfl rfl rfl ?_))
 rintro _ w10 ⟨p10, q10, rfl, F10, c10⟩
 have z10 := c10.size
 refine VO.wk (Wk.call Tryz.call167 rfl (fly_plus _ _ _ _ _)) rfl rfl rfl ?_
 rintro _ w11 ⟨p11, q11, rfl, F11, c11⟩
 have z11 := c11.size
 refine VO.mv (Rn.move rfl) rfl rfl rfl (VO.mv (Rn.move rfl) rfl rfl rfl (VO.wk (Wk.call Tryz.call168 rfl (fly_less _ _ _ _ _)) rfl rfl rfl ?_))
 rintro _ w12 ⟨p12, q12, rfl, F12, c12⟩
 have z12 := c12.size
 refine VO.mv (Rn.move rfl) rfl rfl rfl (VO.mv (Rn.move rfl) rfl rfl rfl (VO.wk (Wk.call Tryz.call171 rfl (cplx_TimesI _ _ _)) rfl rfl rfl ?_))
 rintro _ w13 ⟨p13, q13, rfl, F13, c13⟩
 have z13 := c13.size
 refine VO.wk (Wk.call Tryz.call167 rfl (fly_plus _ _ _ _ _)) rfl rfl rfl ?_
 rintro _ w14 ⟨p14, q14, rfl, F14, c14⟩
 have z14 := c14.size
 refine VO.mv (Rn.build rfl (bld200_0_1_2_3w40 rfl)) rfl rfl rfl ?_
 have b2_14 := b2_6.keep (c7.trans (c8.trans (c9.trans (c10.trans (c11.trans (c12.trans (c13.trans c14)))))))
 refine VO.wk0 (Wk.puts Tryz.sizeOf200 rfl rfl rfl rfl b2_14 (Nat.le_of_ble_eq_true rfl)) rfl rfl ?_
 intro _ w15 Z15
 have c15 := Z15.ch; have z15 := Z15.size
 have b2_15 := Bk.put Z15
 refine VO.nil (VQ.then_code (VC.ret (VQ.retc rfl rfl Tryz.isAgg200 Tryz.sizeOf200 rfl (b2_15.all' rfl) (Ret.mk ?_))))
 have cc_0_15 : Ch No w w15 := (Ch.then (E := No) (((((((((((((c1.and c2).and c3).and c4).and c5).and c6).and c7).and c8).and c9).and c10).and c11).and c12).and c13).and c14) c15 (by intro q h1 h2; rcases h2 with h2 | h2 <;> first | exact h2 | (exfalso; omega)))
 have CH_15 := (Ch.refl (No) w).and cc_0_15
 exact ⟨(_, _), (_, _), (_, _), (_, _), rfl, (by rw [F9, F11, F10, F12, F14, F13, F4, F5, F7, F8]; rfl), CH_15⟩
set_option maxRecDepth 100000 in
theorem fly_Fly2 (p c : Nat) (x y : CB) (S : Nat → Prop) (w : World) (sl : SlR S w (some ⟨p, 0, none⟩) 2 1 ([x, y].map cxV)) :
  Calls Tryz.prog 120 #[.slice (some ⟨p, 0, none⟩) 2 c] w (Ret (fun r w' => ∃ (q : Nat) (zs : List CB), r = .tuple #[.slice (some ⟨q, 0, none⟩) 2 2, .nilIface] ∧ zs.map cx = flyC ([x, y].map cx) ∧ SlR (Is q) w' (some ⟨q, 0, none⟩) 2 1 (zs.map cxV) ∧ w.heap.size ≤ q ∧ Ch No w w')) := by
 refine calls_of_VC (args := [.slice (some ⟨p, 0, none⟩) 2 c]) Tryz.func120 rfl Tryz.ntmps120 rfl (VC.seq (VC.region (VO.mv (Rn.assign rfl) rfl rfl rfl (VO.mv (Rn.assign rfl) rfl rfl rfl (VO.nil (VQ.then_code (VC.seq ?_)))))))
 refine VC.seq (VC.region (VO.mv (Rn.move rfl) rfl rfl rfl (VO.mv (Rn.len Tryz.underlying49 rfl) rfl rfl rfl (VO.nil (VQ.then_code (VC.block (VC.seq ?_)))))))
 refine VC.region (VO.mv (Rn.eql rfl rfl) rfl rfl rfl (VO.mv (Rn.assign rfl) rfl rfl rfl (VO.nil (VQ.then_code (VC.cond_if rfl (fun hc1 => ?_) (fun hc1 => ?_))))))
 ·
  refine VC.seq (VC.region (VO.mv (Rn.move rfl) rfl rfl rfl (VO.mv (Rn.toArr Tryz.underlying196 rfl (by omega)) rfl rfl rfl (VO.mv (Rn.loads Tryz.isAgg196 Tryz.sizeOf196 rfl rfl (sl.cells _ rfl)) rfl rfl rfl (VO.wk (Wk.call Tryz.call139 rfl (fly_Two _ _ _)) rfl rfl rfl ?_)))))
  rintro _ w1 ⟨u1, v1, rfl, F1, c1⟩
  have z1 := c1.size
  refine VO.wk (Wk.alloc Tryz.zeroValue196) rfl rfl rfl ?_
  rintro _ w2 ⟨p2, rfl, N2⟩
  have c2 := N2.ch
  have e2 := N2.p; have z2 := N2.size
  have b4 := Bk.new N2
  refine VO.wk0 (Wk.puts Tryz.sizeOf196 rfl rfl rfl rfl b4 (Nat.le_of_ble_eq_true rfl)) rfl rfl ?_
  intro _ w3 Z3
  have c3 := Z3.ch; have z3 := Z3.size
  have b4_3 := Bk.put Z3
  refine VO.nil (VQ.then_code (VC.seq (VC.region (VO.mv (Rn.sliceAll Tryz.underlying196 Tryz.sizeOf50 rfl (by decide)) rfl rfl rfl (VO.mv (Rn.assign rfl) rfl rfl rfl (VO.mv (Rn.assign rfl) rfl rfl rfl (VO.nil ?_)))))))
  refine VQ.then_code (VC.ret (VQ.block_ret (VQ.then_ret (VQ.ret2 rfl rfl rfl (Ret.mk ?_)))))
  have cc_0_3 : Ch No w w3 := (Ch.then (E := No) (c1.and c2) c3 (by intro q h1 h2; rcases h2 with h2 | h2 <;> first | exact h2 | (exfalso; omega)))
  have CH_3 := (Ch.refl (No) w).and cc_0_3
  have zz := CH_3.size
  exact ⟨_, [u1, v1], rfl, by rw [show List.map cx [u1, v1] = [cx u1, cx v1] from rfl, F1]; rfl, ⟨rfl, fun _ => ⟨_, rfl⟩, fun ad h => (by injection h with h; subst h; exact (b4_3).all' rfl), fun ad h => (by injection h with h; subst h; rfl)⟩, by omega, CH_3⟩
 ·
  omega
set_option maxRecDepth 100000 in
theorem fly_Fly4 (p c : Nat) (x y u v : CB) (S : Nat → Prop) (w : World) (sl : SlR S w (some ⟨p, 0, none⟩) 4 1 ([x, y, u, v].map cxV)) :
  Calls Tryz.prog 120 #[.slice (some ⟨p, 0, none⟩) 4 c] w (Ret (fun r w' => ∃ (q : Nat) (zs : List CB), r = .tuple #[.slice (some ⟨q, 0, none⟩) 4 4, .nilIface] ∧ zs.map cx = flyC ([x, y, u, v].map cx) ∧ SlR (Is q) w' (some ⟨q, 0, none⟩) 4 1 (zs.map cxV) ∧ w.heap.size ≤ q ∧ Ch No w w')) := by
 refine calls_of_VC (args := [.slice (some ⟨p, 0, none⟩) 4 c]) Tryz.func120 rfl Tryz.ntmps120 rfl (VC.seq (VC.region (VO.mv (Rn.assign rfl) rfl rfl rfl (VO.mv (Rn.assign rfl) rfl rfl rfl (VO.nil (VQ.then_code (VC.seq ?_)))))))
 refine VC.seq (VC.region (VO.mv (Rn.move rfl) rfl rfl rfl (VO.mv (Rn.len Tryz.underlying49 rfl) rfl rfl rfl (VO.nil (VQ.then_code (VC.block (VC.seq ?_)))))))
 refine VC.region (VO.mv (Rn.eql rfl rfl) rfl rfl rfl (VO.mv (Rn.assign rfl) rfl rfl rfl (VO.nil (VQ.then_code (VC.cond_if rfl (fun hc1 => ?_) (fun hc1 => ?_))))))
 ·
  omega
 ·
  refine VC.seq (VC.region (VO.mv (Rn.eql rfl rfl) rfl rfl rfl (VO.mv (Rn.assign rfl) rfl rfl rfl (VO.nil (VQ.then_code (VC.cond_if rfl (fun hc2 => ?_) (fun hc2 => ?_)))))))
  ·
   omega
  ·
   refine VC.seq (VC.region (VO.mv (Rn.eql rfl rfl) rfl rfl rfl (VO.mv (Rn.assign rfl) rfl rfl rfl (VO.nil (VQ.then_code (VC.cond_if rfl (fun hc3 => ?_) (fun hc3 => ?_)))))))
   ·
    refine VC.seq (VC.region (VO.mv (Rn.move rfl) rfl rfl rfl (VO.mv (Rn.toArr Tryz.underlying200 rfl (by omega)) rfl rfl rfl (VO.mv (Rn.loads Tryz.isAgg200 Tryz.sizeOf200 rfl rfl (sl.cells _ rfl)) rfl rfl rfl (VO.wk (Wk.call Tryz.call141 rfl (fly_Four _ _ _ _ _)) rfl rfl rfl ?_)))))
    rintro _ w1 ⟨u1, v1, x1, y1, rfl, F1, c1⟩
    have z1 := c1.size
    refine VO.wk (Wk.alloc Tryz.zeroValue200) rfl rfl rfl ?_
    rintro _ w2 ⟨p2, rfl, N2⟩
    have c2 := N2.ch
    have e2 := N2.p; have z2 := N2.size
    have b6 := Bk.new N2
    refine VO.wk0 (Wk.puts Tryz.sizeOf200 rfl rfl rfl rfl b6 (Nat.le_of_ble_eq_true rfl)) rfl rfl ?_
    intro _ w3 Z3
    have c3 := Z3.ch; have z3 := Z3.size
    have b6_3 := Bk.put Z3
    refine VO.nil (VQ.then_code (VC.seq (VC.region (VO.mv (Rn.sliceAll Tryz.underlying200 Tryz.sizeOf50 rfl (by decide)) rfl rfl rfl (VO.mv (Rn.assign rfl) rfl rfl rfl (VO.mv (Rn.assign rfl) rfl rfl rfl (VO.nil ?_)))))))
    refine VQ.then_code (VC.ret (VQ.block_ret (VQ.then_ret (VQ.ret2 rfl rfl rfl (Ret.mk ?_)))))
    have cc_0_3 : Ch No w w3 := (Ch.then (E := No) (c1.and c2) c3 (by intro q h1 h2; rcases h2 with h2 | h2 <;> first | exact h2 | (exfalso; omega)))
    have CH_3 := (Ch.refl (No) w).and cc_0_3
    have zz := CH_3.size
    exact ⟨_, [u1, v1, x1, y1], rfl, by rw [show List.map cx [u1, v1, x1, y1] = [cx u1, cx v1, cx x1, cx y1] from rfl, F1]; rfl, ⟨rfl, fun _ => ⟨_, rfl⟩, fun ad h => (by injection h with h; subst h; exact (b6_3).all' rfl), fun ad h => (by injection h with h; subst h; rfl)⟩, by omega, CH_3⟩
   ·
    omega
set_option maxRecDepth 100000 in
theorem roots_mod (a n : Nat) (hn : 0 < n) (ha : a ≤ 1000000000000) (hn2 : n ≤ 1000000000000) (w : World) :
  Calls Tryz.prog 31 #[.int .i64 a, .int .i64 n] w (Ret (fun v w' => v = .int .i64 ((a % n : Nat) : Int) ∧ w = w')) := by
 have h1 := Int.emod_nonneg (a : Int) (show (n : Int) ≠ 0 by omega)
 have h2 := Int.emod_lt_of_pos (a : Int) (show (0 : Int) < n by omega)
 refine calls_of_VC (args := [.int .i64 a, .int .i64 n]) Tryz.func31 rfl Tryz.ntmps31 rfl (VC.seq (VC.region (VO.mv (Rn.assign rfl) rfl rfl rfl (VO.nil (VQ.then_code (VC.seq (VC.region ?_)))))))
 refine VO.mv (Rn.move rfl) rfl rfl rfl (VO.mv (Rn.move rfl) rfl rfl rfl (VO.mv (Rn.rem0 rfl rfl (by omega) (by omega)) rfl rfl rfl (VO.mv (Rn.move rfl) rfl rfl rfl ?_)))
 refine VO.mv (Rn.add rfl rfl (by rw [IntKind.wrap_i64]; omega)) rfl rfl rfl ?_
 refine VO.mv (Rn.move rfl) rfl rfl rfl (VO.mv (Rn.rem0 rfl rfl (by omega) (by omega)) rfl rfl rfl (VO.mv (Rn.assign rfl) rfl rfl rfl (VO.nil (VQ.then_code (VC.ret (VQ.ret1 rfl rfl (Ret.mk ?_)))))))
 exact ⟨by rw [Int.add_emod_right, Int.emod_emod]; rfl, rfl⟩
set_option maxRecDepth 100000 in
theorem roots_plus (b : Nat) (w : World) :
  Calls Tryz.prog 34 #[.float .f64 b] w (Ret (fun v w' => v = .float .f64 (pzB b) ∧ w = w')) := by
 refine calls_of_VC (args := [.float .f64 b]) Tryz.func34 rfl Tryz.ntmps34 rfl (VC.seq (VC.region (VO.mv (Rn.assign rfl) rfl rfl rfl (VO.nil (VQ.then_code (VC.seq (VC.seq ?_)))))))
 refine VC.region (VO.mv (Rn.move rfl) rfl rfl rfl (VO.mv (Rn.feql rfl rfl) rfl rfl rfl (VO.nil (VQ.then_code (VC.cond rfl (fun hc1 => ?_) (fun hc1 => ?_))))))
 ·
  try simp only [Bool.and_eq_true, Bool.or_eq_true, Bool.not_eq_true', Bool.not_eq_false', Bool.and_eq_false_iff, Bool.or_eq_false_iff, decide_eq_true_eq, decide_eq_false_iff_not] at hc1
  refine VC.seq (VC.region (VO.mv (Rn.assign rfl) rfl rfl rfl (VO.nil (VQ.then_code (VC.ret (VQ.then_ret (VQ.ret1 rfl rfl ?_)))))))
  refine Ret.mk ?_
  exact ⟨by unfold pzB; rw [if_pos hc1], rfl⟩
 ·
  try simp only [Bool.and_eq_true, Bool.or_eq_true, Bool.not_eq_true', Bool.not_eq_false', Bool.and_eq_false_iff, Bool.or_eq_false_iff, decide_eq_true_eq, decide_eq_false_iff_not] at hc1
  refine VC.skip (VQ.then_code (VC.seq (VC.region (VO.mv (Rn.move rfl) rfl rfl rfl (VO.mv (Rn.assign rfl) rfl rfl rfl (VO.nil (VQ.then_code ?_)))))))
  refine VC.ret (VQ.ret1 rfl rfl (Ret.mk ?_))
  exact ⟨by unfold pzB; rw [if_neg (by simpa using hc1)], rfl⟩
set_option maxRecDepth 100000 in
theorem roots_eighth0 (r m : Int) (hr : r = 0) (w : World) :
  Calls Tryz.prog 33 #[.int .i64 r, .int .i64 m] w (Ret (fun v w' => v = .tuple #[.float .f64 4607182418800017408, .float .f64 0] ∧ w = w')) := by
 refine calls_of_VC (args := [.int .i64 r, .int .i64 m]) Tryz.func33 rfl Tryz.ntmps33 rfl (VC.seq (VC.region (VO.mv (Rn.assign rfl) rfl rfl rfl (VO.mv (Rn.assign rfl) rfl rfl rfl (VO.nil (VQ.then_code (VC.seq ?_)))))))
 refine VC.block (VC.seq (VC.region (VO.mv (Rn.move rfl) rfl rfl rfl (VO.mv (Rn.eql rfl rfl) rfl rfl rfl (VO.mv (Rn.assign rfl) rfl rfl rfl (VO.nil (VQ.then_code ?_)))))))
 refine VC.cond_if rfl (fun hc1 => ?_) (fun hc1 => ?_)
 ·
  refine VC.seq (VC.region (VO.mv (Rn.assign rfl) rfl rfl rfl (VO.mv (Rn.assign rfl) rfl rfl rfl (VO.nil (VQ.then_code (VC.ret (VQ.block_ret ?_)))))))
  refine VQ.then_ret (VQ.ret2 rfl rfl rfl (Ret.mk ?_))
  exact ⟨rfl, rfl⟩
 ·
  exact absurd hr hc1
set_option maxRecDepth 100000 in
theorem roots_pair (n a : Nat) (hn : 1 ≤ n) (hn2 : n ≤ 4194304) (ha : a ≤ 1000000000000) (hr : 4 * (a % n) % n = 0) (w : World) :
  Calls Tryz.prog 24 #[.int .i64 n, .int .i64 a] w (Ret (fun v w' => v = .tuple #[.float .f64 (pzB (tur (4 * (a % n) / n)).1), .float .f64 (pzB (tur (4 * (a % n) / n)).2), .nilIface] ∧ w = w')) := by
 have hm := Nat.mod_lt a (show 0 < n by omega)
 have hr' : (4 * ((a % n : Nat) : Int)) % (n : Int) = 0 := by exact_mod_cast hr
 have hq : (4 * ((a % n : Nat) : Int)) / (n : Int) = ((4 * (a % n) / n : Nat) : Int) := by norm_cast
 have hq2 := Nat.div_le_self (4 * (a % n)) n
 refine calls_of_VC (args := [.int .i64 n, .int .i64 a]) Tryz.func24 rfl Tryz.ntmps24 rfl (VC.seq (VC.region (VO.mv (Rn.assign rfl) rfl rfl rfl (VO.mv (Rn.assign rfl) rfl rfl rfl (VO.mv (Rn.assign rfl) rfl rfl rfl (VO.nil (VQ.then_code ?_)))))))
 refine VC.seq (VC.seq (VC.region (VO.mv (Rn.move rfl) rfl rfl rfl (VO.mv (Rn.lss rfl rfl) rfl rfl rfl (VO.mv (Rn.move rfl) rfl rfl rfl ?_)))))
 refine VO.orJoin (b := _) 3 13 16 rfl (fun hc1 Jhc1 => by
   refine VO.skip rfl rfl rfl (VO.skip rfl rfl rfl (VO.mv (Rn.pick_true rfl rfl) rfl rfl rfl ?_))
   exact (VO.fg rfl (VO.fg rfl Jhc1))) (fun hc1 Jhc1 => by
   try simp only [Bool.and_eq_true, Bool.or_eq_true, Bool.not_eq_true', Bool.not_eq_false', Bool.and_eq_false_iff, Bool.or_eq_false_iff, decide_eq_true_eq, decide_eq_false_iff_not] at hc1
   refine VO.mv (Rn.move rfl) rfl rfl rfl (VO.mv (Rn.gtr rfl rfl) rfl rfl rfl (VO.mv (Rn.pick_false rfl rfl) rfl rfl rfl ?_))
   exact (VO.fg rfl (VO.fg rfl Jhc1))) ?_
 refine VO.nil (VQ.then_code (VC.cond rfl (fun hc2 => ?_) (fun hc2 => ?_)))
 ·
  try simp only [Bool.and_eq_true, Bool.or_eq_true, Bool.not_eq_true', Bool.not_eq_false', Bool.and_eq_false_iff, Bool.or_eq_false_iff, decide_eq_true_eq, decide_eq_false_iff_not] at hc2
  omega
 ·
  try simp only [Bool.and_eq_true, Bool.or_eq_true, Bool.not_eq_true', Bool.not_eq_false', Bool.and_eq_false_iff, Bool.or_eq_false_iff, decide_eq_true_eq, decide_eq_false_iff_not] at hc2
  refine VC.skip (VQ.then_code (VC.seq (VC.region (VO.mv (Rn.move rfl) rfl rfl rfl (VO.mv (Rn.move rfl) rfl rfl rfl (VO.wk (Wk.call Tryz.call31 rfl (roots_mod _ _ (by omega) (by omega) (by omega) _)) rfl rfl rfl ?_))))))
  rintro _ _ ⟨rfl, rfl⟩
  refine VO.mv (Rn.mul rfl rfl (by rw [IntKind.wrap_i64]; omega)) rfl rfl rfl ?_
  refine VO.mv (Rn.assign rfl) rfl rfl rfl (VO.nil (VQ.then_code (VC.seq (VC.region (VO.mv (Rn.move rfl) rfl rfl rfl (VO.mv (Rn.move rfl) rfl rfl rfl (VO.mv (Rn.rem0 rfl rfl (by omega) (by omega)) rfl rfl rfl ?_)))))))
  refine VO.mv (Rn.assign rfl) rfl rfl rfl (VO.nil (VQ.then_code (VC.seq (VC.region (VO.mv (Rn.assign rfl) rfl rfl rfl (VO.mv (Rn.assign rfl) rfl rfl rfl (VO.nil ?_)))))))
  refine VQ.then_code (VC.seq (VC.seq (VC.region (VO.mv (Rn.move rfl) rfl rfl rfl ?_))))
  refine VO.mv (Rn.mul rfl rfl (by rw [IntKind.wrap_i64]; omega)) rfl rfl rfl ?_
  refine VO.mv (Rn.move rfl) rfl rfl rfl (VO.mv (Rn.leq rfl rfl) rfl rfl rfl (VO.nil (VQ.then_code (VC.cond_if rfl (fun hc3 => ?_) (fun hc3 => ?_)))))
  ·
   refine VC.region (VO.mv (Rn.move rfl) rfl rfl rfl (VO.mv (Rn.move rfl) rfl rfl rfl ?_))
   refine VO.mv (Rn.mul rfl rfl (by rw [IntKind.wrap_i64]; omega)) rfl rfl rfl ?_
   refine VO.wk (Wk.call Tryz.call33 rfl (roots_eighth0 _ _ hr' _)) rfl rfl rfl ?_
   rintro _ _ ⟨rfl, rfl⟩
   refine VO.mv (Rn.move rfl) rfl rfl rfl (VO.mv (Rn.extract rfl rfl) rfl rfl rfl (VO.mv (Rn.extract rfl rfl) rfl rfl rfl (VO.mv (Rn.assign rfl) rfl rfl rfl (VO.mv (Rn.assign rfl) rfl rfl rfl (VO.nil (VQ.then_code (VC.seq ?_)))))))
   refine VC.seq (VC.region (VO.mv (Rn.move rfl) rfl rfl rfl (VO.mv (Rn.move rfl) rfl rfl rfl (VO.mv (Rn.quo0 rfl rfl (by omega) (by omega) (by omega)) rfl rfl rfl (VO.mv (Rn.move rfl) rfl rfl rfl (VO.nil (VQ.then_code ?_)))))))
   refine VC.block (VC.loopS (σ := Nat) (fun j => [(0, .int .i64 n), (1, .int .i64 a), (7, .int .i64 (4 * ((a % n : Nat) : Int))), (9, .float .f64 (tur j).1), (10, .float .f64 (tur j).2), (47, .int .i64 (4 * ((a % n : Nat) : Int) / (n : Int))), (48, .int .i64 j)]) (fun j w' => w = w' ∧ j ≤ 4 * (a % n) / n) (fun j => 4 * (a % n) / n - j) 0 ?_ ⟨rfl, rfl, rfl, rfl, rfl, rfl, rfl, trivial⟩ ?_)
   · exact ⟨rfl, Nat.zero_le _⟩
   rintro j w1 ⟨rfl, hj⟩
   show VC _ _ _ _ [(0, .int .i64 n), (1, .int .i64 a), (7, .int .i64 (4 * ((a % n : Nat) : Int))), (9, .float .f64 (tur j).1), (10, .float .f64 (tur j).2), (47, .int .i64 (4 * ((a % n : Nat) : Int) / (n : Int))), (48, .int .i64 j)] _
   refine VC.seq (VC.region (VO.mv (Rn.lss rfl rfl) rfl rfl rfl (VO.nil (VQ.then_code (VC.seq (VC.cond_if rfl (fun hc4 => ?_) (fun hc4 => ?_)))))))
   ·
    refine VC.skip (VQ.then_code (VC.seq (VC.block (VC.region (VO.mv (Rn.move rfl) rfl rfl rfl (VO.mv (Rn.fneg rfl) rfl rfl rfl (VO.mv (Rn.move rfl) rfl rfl rfl ?_)))))))
    refine VO.mv (Rn.assign rfl) rfl rfl rfl (VO.mv (Rn.assign rfl) rfl rfl rfl (VO.nil (VQ.block_normal (VQ.then_code (VC.region ?_)))))
    refine VO.mv (Rn.add rfl rfl (by rw [IntKind.wrap_i64]; omega)) rfl rfl rfl ?_
    refine VO.mv (Rn.move rfl) rfl rfl rfl (VO.nil ?_)
    refine VQ.round (j + 1) (by first | omega | (dsimp only; omega)) ?_ ⟨rfl, rfl, rfl, rfl, rfl, rfl, rfl, trivial⟩
    exact ⟨rfl, by omega⟩
   ·
    refine VC.exit (VQ.then_exit (VQ.then_exit (VQ.block_exit (VQ.then_code (VC.seq (VC.region (VO.mv (Rn.move rfl) rfl rfl rfl ?_)))))))
    refine VO.wk (Wk.call Tryz.call34 rfl (roots_plus _ _)) rfl rfl rfl ?_
    rintro _ _ ⟨rfl, rfl⟩
    refine VO.mv (Rn.move rfl) rfl rfl rfl (VO.wk (Wk.call Tryz.call34 rfl (roots_plus _ _)) rfl rfl rfl ?_)
    rintro _ _ ⟨rfl, rfl⟩
    refine VO.mv (Rn.assign rfl) rfl rfl rfl (VO.mv (Rn.assign rfl) rfl rfl rfl (VO.mv (Rn.assign rfl) rfl rfl rfl (VO.nil (VQ.then_code (VC.ret (VQ.ret3 rfl rfl rfl rfl (Ret.mk ?_)))))))
    have e : j = 4 * (a % n) / n := by omega
    subst e
    exact ⟨rfl, rfl⟩
  ·
   rw [hr'] at hc3; omega
set_option maxRecDepth 100000 in
theorem roots_Root (n a : Nat) (hn : 1 ≤ n) (hn2 : n ≤ 4194304) (ha : a ≤ 1000000000000) (hr : 4 * (a % n) % n = 0) (w : World) :
  Calls Tryz.prog 30 #[.int .i64 n, .int .i64 a] w (Ret (fun v w' => v = .tuple #[.complex .f64 (rootB n a).1 (rootB n a).2, .nilIface] ∧ w = w')) := by
 refine calls_of_VC (args := [.int .i64 n, .int .i64 a]) Tryz.func30 rfl Tryz.ntmps30 rfl (VC.seq (VC.region (VO.mv (Rn.assign rfl) rfl rfl rfl (VO.mv (Rn.assign rfl) rfl rfl rfl (VO.nil (VQ.then_code (VC.seq ?_)))))))
 refine VC.region (VO.mv (Rn.move rfl) rfl rfl rfl (VO.mv (Rn.move rfl) rfl rfl rfl (VO.wk (Wk.call Tryz.call24 rfl (roots_pair _ _ (by omega) (by omega) (by omega) hr _)) rfl rfl rfl ?_)))
 rintro _ _ ⟨rfl, rfl⟩
 refine VO.mv (Rn.move rfl) rfl rfl rfl (VO.mv (Rn.extract rfl rfl) rfl rfl rfl (VO.mv (Rn.extract rfl rfl) rfl rfl rfl (VO.mv (Rn.extract rfl rfl) rfl rfl rfl (VO.mv (Rn.assign rfl) rfl rfl rfl (VO.mv (Rn.assign rfl) rfl rfl rfl (VO.mv (Rn.assign rfl) rfl rfl rfl (VO.nil ?_)))))))
 refine VQ.then_code (VC.seq (VC.seq (VC.region (VO.mv (Rn.move rfl) rfl rfl rfl (VO.mv (Rn.nil_neq_nil Tryz.underlying29 rfl) rfl rfl rfl (VO.nil (VQ.then_code ?_)))))))
 refine VC.cond_false rfl (VC.skip (VQ.then_code (VC.seq (VC.region (VO.mv (Rn.move rfl) rfl rfl rfl (VO.mv (Rn.move rfl) rfl rfl rfl (VO.mv (Rn.fneg rfl) rfl rfl rfl ?_)))))))
 refine VO.wk (Wk.call Tryz.call34 rfl (roots_plus _ _)) rfl rfl rfl ?_
 rintro _ _ ⟨rfl, rfl⟩
 refine VO.mv (Rn.complex rfl rfl) rfl rfl rfl (VO.mv (Rn.assign rfl) rfl rfl rfl (VO.mv (Rn.assign rfl) rfl rfl rfl (VO.nil (VQ.then_code (VC.ret (VQ.ret2 rfl rfl rfl (Ret.mk ?_)))))))
 exact ⟨rfl, rfl⟩
set_option maxRecDepth 100000 in
theorem roots_All (n : Nat) (hn : 1 ≤ n) (hn2 : n ≤ 16384) (hr : ∀ a, 4 * (a % n) % n = 0) (w : World) :
  Calls Tryz.prog 172 #[.int .i64 n] w (Ret (fun v w' => ∃ q, v = .tuple #[.slice (some ⟨q, 0, none⟩) n n, .nilIface] ∧ w.heap.size ≤ q ∧ CR 50 w' (q + 1) (some ⟨q, 0, none⟩) n n ((List.range n).map (rootB n)) ∧ Ch No w w')) := by
 refine calls_of_VC (args := [.int .i64 n]) Tryz.func172 rfl Tryz.ntmps172 rfl (VC.seq (VC.region (VO.mv (Rn.assign rfl) rfl rfl rfl (VO.mv (Rn.assign rfl) rfl rfl rfl (VO.nil (VQ.then_code (VC.seq ?_)))))))
 refine VC.seq (VC.region (VO.mv (Rn.move rfl) rfl rfl rfl (VO.mv (Rn.lss rfl rfl) rfl rfl rfl (VO.mv (Rn.move rfl) rfl rfl rfl ?_))))
 refine VO.orJoin (b := _) 3 8 11 rfl (fun hc1 Jhc1 => by
   refine VO.skip rfl rfl rfl (VO.skip rfl rfl rfl (VO.mv (Rn.pick_true rfl rfl) rfl rfl rfl ?_))
   exact (VO.fg rfl (VO.fg rfl Jhc1))) (fun hc1 Jhc1 => by
   try simp only [Bool.and_eq_true, Bool.or_eq_true, Bool.not_eq_true', Bool.not_eq_false', Bool.and_eq_false_iff, Bool.or_eq_false_iff, decide_eq_true_eq, decide_eq_false_iff_not] at hc1
   refine VO.mv (Rn.move rfl) rfl rfl rfl (VO.mv (Rn.gtr rfl rfl) rfl rfl rfl (VO.mv (Rn.pick_false rfl rfl) rfl rfl rfl ?_))
   exact (VO.fg rfl (VO.fg rfl Jhc1))) ?_
 refine VO.nil (VQ.then_code (VC.cond rfl (fun hc2 => ?_) (fun hc2 => ?_)))
 ·
  try simp only [Bool.and_eq_true, Bool.or_eq_true, Bool.not_eq_true', Bool.not_eq_false', Bool.and_eq_false_iff, Bool.or_eq_false_iff, decide_eq_true_eq, decide_eq_false_iff_not] at hc2
  omega
 ·
  try simp only [Bool.and_eq_true, Bool.or_eq_true, Bool.not_eq_true', Bool.not_eq_false', Bool.and_eq_false_iff, Bool.or_eq_false_iff, decide_eq_true_eq, decide_eq_false_iff_not] at hc2
  refine VC.skip (VQ.then_code (VC.seq (VC.region (VO.mv (Rn.move rfl) rfl rfl rfl (VO.wk (Wk.mkC Tryz.underlying49 inf50w40 rfl rfl (by omega) (by omega) (by omega)) rfl rfl rfl ?_)))))
  rintro _ w1 ⟨p1, rfl, o1, c1, e1, z1⟩
  refine VO.mv (Rn.assign rfl) rfl rfl rfl (VO.nil (VQ.then_code (VC.seq (VC.seq (VC.region (VO.mv (Rn.move rfl) rfl rfl rfl (VO.mv (Rn.len Tryz.underlying49 rfl) rfl rfl rfl ?_)))))))
  refine VO.mv (Rn.move rfl) rfl rfl rfl (VO.nil (VQ.then_code (VC.block ?_)))
  have CH_1 := (Ch.refl (No) w).and c1
  refine VC.loopS (σ := Nat) (fun j => [(0, .int .i64 n), (4, .slice (some ⟨p1, 0, none⟩) n n), (16, .int .i64 n), (17, .int .i64 j)]) (fun j w' => j ≤ n ∧ w1.heap.size ≤ w'.heap.size ∧ CR 50 w' (p1 + 1) (some ⟨p1, 0, none⟩) n n (rowF n (rootB n) j) ∧ Ch (No) w w') (fun j => n - j) 0 ?_ ⟨rfl, rfl, rfl, rfl, trivial⟩ ?_
  · exact ⟨(by omega), (Nat.le_refl _), (by rw [rowF_zero]; exact o1), CH_1⟩
  rintro j w2 ⟨hj, hsz2, row_2, CH_2⟩
  show VC _ _ _ _ [(0, .int .i64 n), (4, .slice (some ⟨p1, 0, none⟩) n n), (16, .int .i64 n), (17, .int .i64 j)] _
  refine VC.seq (VC.region (VO.mv (Rn.lss rfl rfl) rfl rfl rfl (VO.nil (VQ.then_code (VC.seq (VC.cond_if rfl (fun hc3 => ?_) (fun hc3 => ?_)))))))
  ·
   refine VC.skip (VQ.then_code (VC.seq (VC.block (VC.seq (VC.region (VO.mv (Rn.move rfl) rfl rfl rfl (VO.mv (Rn.assign rfl) rfl rfl rfl ?_)))))))
   refine VO.nil (VQ.then_code (VC.region (VO.mv (Rn.move rfl) rfl rfl rfl (VO.mv (Rn.move rfl) rfl rfl rfl (VO.mv (Rn.move rfl) rfl rfl rfl (VO.mv (Rn.move rfl) rfl rfl rfl (VO.wk (Wk.call Tryz.call30 rfl (roots_Root _ _ (by omega) (by omega) (by omega) (hr _) _)) rfl rfl rfl ?_)))))))
   rintro _ _ ⟨rfl, rfl⟩
   refine VO.mv (Rn.move rfl) rfl rfl rfl (VO.mv (Rn.extract rfl rfl) rfl rfl rfl (VO.mv (Rn.extract rfl rfl) rfl rfl rfl (VO.mv (Rn.indexS Tryz.underlying49 Tryz.sizeOf50 rfl rfl (row_2.sl.ne (by omega)) (by omega) (by omega)) rfl rfl rfl (VO.wk0 (Wk.putC Tryz.sizeOf50 rfl rfl (by omega) row_2) rfl rfl ?_))))
   rintro _ w3 ⟨o3, c3, z3⟩
   have y3 := o3.lt
   refine VO.nil (VQ.block_normal (VQ.then_code (VC.region ?_)))
   refine VO.mv (Rn.add rfl rfl (by rw [IntKind.wrap_i64]; omega)) rfl rfl rfl ?_
   refine VO.mv (Rn.move rfl) rfl rfl rfl (VO.nil ?_)
   refine VQ.round (j + 1) (by first | omega | (dsimp only; omega)) ?_ ⟨rfl, rfl, rfl, rfl, trivial⟩
   have CH_3 : Ch (No) w w3 := CH_2.then c3 (by intro q h1 h2; rcases h2 with h2 | h2 <;> first | exact h2 | (exfalso; omega) | omega)
   exact ⟨(by omega), (by omega), (by have := o3; rw [Int.toNat_natCast] at this; rw [← rowF_set (by omega)]; exact this), CH_3⟩
  ·
   refine VC.exit (VQ.then_exit (VQ.then_exit (VQ.block_exit (VQ.then_code (VC.seq (VC.region (VO.mv (Rn.move rfl) rfl rfl rfl ?_)))))))
   refine VO.mv (Rn.assign rfl) rfl rfl rfl (VO.mv (Rn.assign rfl) rfl rfl rfl (VO.nil (VQ.then_code (VC.ret (VQ.ret2 rfl rfl rfl (Ret.mk ?_))))))
   have e : j = n := by omega
   subst e
   have o9 := row_2; rw [rowF_all] at o9
   exact ⟨_, rfl, by omega, o9, CH_2⟩
set_option maxRecDepth 100000 in
theorem direct_table (n : Nat) (hn : 1 ≤ n) (hn2 : n ≤ 64) (hr : ∀ a, 4 * (a % n) % n = 0) (w : World) :
  Calls Tryz.prog 143 #[.int .i64 n] w (Ret (fun v w' => ∃ q, v = .tuple #[.slice (some ⟨q, 0, none⟩) n n, .nilIface] ∧ w.heap.size ≤ q ∧ CR 50 w' (q + 1) (some ⟨q, 0, none⟩) n n ((List.range n).map (rootB n)) ∧ Ch No w w')) := by
 refine calls_of_VC (args := [.int .i64 n]) Tryz.func143 rfl Tryz.ntmps143 rfl (VC.seq (VC.region (VO.mv (Rn.assign rfl) rfl rfl rfl (VO.mv (Rn.assign rfl) rfl rfl rfl (VO.nil (VQ.then_code (VC.seq ?_)))))))
 refine VC.seq (VC.region (VO.mv (Rn.move rfl) rfl rfl rfl (VO.mv (Rn.lss rfl rfl) rfl rfl rfl (VO.mv (Rn.move rfl) rfl rfl rfl ?_))))
 refine VO.orJoin (b := _) 3 6 9 rfl (fun hc1 Jhc1 => by
   refine VO.skip rfl rfl rfl (VO.skip rfl rfl rfl (VO.mv (Rn.pick_true rfl rfl) rfl rfl rfl ?_))
   exact (VO.fg rfl (VO.fg rfl Jhc1))) (fun hc1 Jhc1 => by
   try simp only [Bool.and_eq_true, Bool.or_eq_true, Bool.not_eq_true', Bool.not_eq_false', Bool.and_eq_false_iff, Bool.or_eq_false_iff, decide_eq_true_eq, decide_eq_false_iff_not] at hc1
   refine VO.mv (Rn.move rfl) rfl rfl rfl (VO.mv (Rn.gtr rfl rfl) rfl rfl rfl (VO.mv (Rn.pick_false rfl rfl) rfl rfl rfl ?_))
   exact (VO.fg rfl (VO.fg rfl Jhc1))) ?_
 refine VO.nil (VQ.then_code (VC.cond rfl (fun hc2 => ?_) (fun hc2 => ?_)))
 ·
  try simp only [Bool.and_eq_true, Bool.or_eq_true, Bool.not_eq_true', Bool.not_eq_false', Bool.and_eq_false_iff, Bool.or_eq_false_iff, decide_eq_true_eq, decide_eq_false_iff_not] at hc2
  omega
 ·
  try simp only [Bool.and_eq_true, Bool.or_eq_true, Bool.not_eq_true', Bool.not_eq_false', Bool.and_eq_false_iff, Bool.or_eq_false_iff, decide_eq_true_eq, decide_eq_false_iff_not] at hc2
  refine VC.skip (VQ.then_code (VC.seq (VC.region (VO.mv (Rn.move rfl) rfl rfl rfl (VO.wk (Wk.call Tryz.call172 rfl (roots_All _ (by omega) (by omega) hr _)) rfl rfl rfl ?_)))))
  rintro _ w1 ⟨q1, rfl, e1, ro1, c1⟩
  have z1 := c1.size
  refine VO.mv (Rn.extract rfl rfl) rfl rfl rfl (VO.mv (Rn.extract rfl rfl) rfl rfl rfl (VO.mv (Rn.assign rfl) rfl rfl rfl (VO.mv (Rn.assign rfl) rfl rfl rfl (VO.nil (VQ.then_code (VC.ret (VQ.ret2 rfl rfl rfl ?_)))))))
  refine Ret.mk ?_
  have CH_1 := (Ch.refl (No) w).and c1
  exact ⟨_, rfl, by omega, ro1, CH_1⟩
set_option maxRecDepth 100000 in
theorem direct_At1 (S : Nat → Prop) (w : World) (p5 p6 p7 : Nat) (A : Option Addr) (l c : Nat) (xs : List CB) (u v : Nat) (hl : l ≤ 1000000) (hu : u ≤ 1000000) (at_ : AtR S w p5 p6 p7 A l c xs u v) (j : Nat) (hj : j ≤ 64) (hb : u + j * v < l) :
  Calls Tryz.prog 145 #[.int .i64 j, .pointer (some ⟨p5, 0, none⟩), .pointer (some ⟨p6, 0, none⟩), .pointer (some ⟨p7, 0, none⟩)] w (Ret (fun r w' => r = .complex .f64 (xs.getD (u + j * v) (0, 0)).1 (xs.getD (u + j * v) (0, 0)).2 ∧ w = w')) := by
 obtain ⟨b5, b6, b7, sl⟩ := at_
 have e0 : ((j * v : Nat) : Int) = (j : Int) * (v : Int) := by push_cast; rfl
 refine calls_of_VC (args := [.int .i64 j, .pointer (some ⟨p5, 0, none⟩), .pointer (some ⟨p6, 0, none⟩), .pointer (some ⟨p7, 0, none⟩)]) Tryz.func145 rfl Tryz.ntmps145 rfl (VC.seq (VC.region (VO.mv (Rn.assign rfl) rfl rfl rfl (VO.nil (VQ.then_code (VC.seq (VC.region ?_)))))))
 refine VO.mv (Rn.load Tryz.isAgg49 rfl (b5.cell rfl)) rfl rfl rfl (VO.mv (Rn.load Tryz.isAgg3 rfl (b6.cell rfl)) rfl rfl rfl (VO.mv (Rn.move rfl) rfl rfl rfl (VO.mv (Rn.load Tryz.isAgg3 rfl (b7.cell rfl)) rfl rfl rfl ?_)))
 refine VO.mv (Rn.mul rfl rfl (by rw [IntKind.wrap_i64]; omega)) rfl rfl rfl ?_
 refine VO.mv (Rn.add rfl rfl (by rw [IntKind.wrap_i64]; omega)) rfl rfl rfl ?_
 refine VO.mv (Rn.indexS Tryz.underlying49 Tryz.sizeOf50 rfl rfl (sl.ne (by omega)) (by omega) (by omega)) rfl rfl rfl (VO.mv (Rn.load Tryz.isAgg50 rfl (sl.getC (by omega) (by omega))) rfl rfl rfl (VO.mv (Rn.assign rfl) rfl rfl rfl (VO.nil (VQ.then_code (VC.ret (VQ.ret1 rfl rfl (Ret.mk ?_)))))))
 exact ⟨by rw [show ((u : Int) + (j : Int) * (v : Int)).toNat = u + j * v by omega], rfl⟩
set_option maxRecDepth 100000 in
theorem direct_sum (S : Nat → Prop) (w : World) (p5 p6 p7 : Nat) (A : Option Addr) (l c : Nat) (xs : List CB) (u v : Nat) (hl : l ≤ 1000000) (hu : u ≤ 1000000) (at_ : AtR S w p5 p6 p7 A l c xs u v) (n k : Nat) (hn : 1 ≤ n) (hn2 : n ≤ 64) (hk : k < n) (hb : ∀ j, j < n → u + j * v < l) (q : Nat) (ro : CR 50 w (q + 1) (some ⟨q, 0, none⟩) n n ((List.range n).map (rootB n))) :
  Calls Tryz.prog 144 #[.slice (some ⟨q, 0, none⟩) n n, .int .i64 k, .func (.func 145) #[] #[.pointer (some ⟨p5, 0, none⟩), .pointer (some ⟨p6, 0, none⟩), .pointer (some ⟨p7, 0, none⟩)]] w (Ret (fun r w' => ∃ a b, r = .complex .f64 a b ∧ cx (a, b) = directC n k (XX xs u v) ∧ Ch No w w')) := by
 have hke : (((k : Int) % (n : Int) + (n : Int)) % (n : Int)) = (k : Int) := by rw [Int.add_emod_right, Int.emod_emod]; exact Int.emod_eq_of_lt (by omega) (by omega)
 have h1 := Int.emod_nonneg (k : Int) (show (n : Int) ≠ 0 by omega)
 have h2 := Int.emod_lt_of_pos (k : Int) (show (0 : Int) < n by omega)
 refine calls_of_VC (args := [.slice (some ⟨q, 0, none⟩) n n, .int .i64 k, .func (.func 145) #[] #[.pointer (some ⟨p5, 0, none⟩), .pointer (some ⟨p6, 0, none⟩), .pointer (some ⟨p7, 0, none⟩)]]) Tryz.func144 rfl Tryz.ntmps144 rfl (VC.seq (VC.region (VO.mv (Rn.assign rfl) rfl rfl rfl (VO.nil (VQ.then_code (VC.seq (VC.region ?_)))))))
 refine VO.mv (Rn.move rfl) rfl rfl rfl (VO.mv (Rn.len Tryz.underlying49 rfl) rfl rfl rfl (VO.mv (Rn.assign rfl) rfl rfl rfl (VO.nil (VQ.then_code (VC.seq (VC.region (VO.mv (Rn.move rfl) rfl rfl rfl ?_)))))))
 refine VO.mv (Rn.move rfl) rfl rfl rfl (VO.mv (Rn.rem0 rfl rfl (by omega) (by omega)) rfl rfl rfl (VO.mv (Rn.move rfl) rfl rfl rfl ?_))
 refine VO.mv (Rn.add rfl rfl (by rw [IntKind.wrap_i64]; omega)) rfl rfl rfl ?_
 refine VO.mv (Rn.move rfl) rfl rfl rfl (VO.mv (Rn.rem0 rfl rfl (by omega) (by omega)) rfl rfl rfl (VO.mv (Rn.assign rfl) rfl rfl rfl (VO.nil (VQ.then_code (VC.seq (VC.region (VO.mv (Rn.move rfl) rfl rfl rfl ?_)))))))
 refine VO.wk (Wk.callv Tryz.call145 rfl rfl (by rfl) (direct_At1 _ _ _ _ _ _ _ _ _ _ _ hl hu at_ 0 (by omega) (hb 0 (by omega)))) rfl rfl rfl ?_
 rintro _ _ ⟨rfl, rfl⟩
 refine VO.mv (Rn.assign rfl) rfl rfl rfl (VO.nil (VQ.then_code (VC.seq (VC.seq (VC.region (VO.mv (Rn.assign rfl) rfl rfl rfl (VO.nil ?_)))))))
 refine VQ.then_code (VC.block (VC.loopS (σ := Nat × Nat × Nat) (fun (j, a, b) => [(0, .slice (some ⟨q, 0, none⟩) n n), (1, .int .i64 (((k : Int) % (n : Int) + (n : Int)) % (n : Int))), (2, .func (.func 145) #[] #[.pointer (some ⟨p5, 0, none⟩), .pointer (some ⟨p6, 0, none⟩), .pointer (some ⟨p7, 0, none⟩)]), (7, .int .i64 n), (8, .complex .f64 a b), (9, .int .i64 j)]) (fun (j, a, b) w' => (1 ≤ j ∧ j ≤ n) ∧ cx (a, b) = sumC n k (XX xs u v) (j - 1) ∧ w.heap.size ≤ w'.heap.size ∧ AtR S w' p5 p6 p7 A l c xs u v ∧ CR 50 w' (q + 1) (some ⟨q, 0, none⟩) n n ((List.range n).map (rootB n)) ∧ Ch (No) w w') (fun (j, a, b) => n - j) (1, _, _) ?_ ⟨rfl, rfl, rfl, rfl, rfl, rfl, trivial⟩ ?_))
 · exact ⟨⟨by omega, by omega⟩, (by rfl), (Nat.le_refl _), at_, ro, (Ch.refl (No) w)⟩
 rintro ⟨j, a, b⟩ w1 ⟨hj, hs, hsz1, at__1, ro_1, CH_1⟩
 show VC _ _ _ _ [(0, .slice (some ⟨q, 0, none⟩) n n), (1, .int .i64 (((k : Int) % (n : Int) + (n : Int)) % (n : Int))), (2, .func (.func 145) #[] #[.pointer (some ⟨p5, 0, none⟩), .pointer (some ⟨p6, 0, none⟩), .pointer (some ⟨p7, 0, none⟩)]), (7, .int .i64 n), (8, .complex .f64 a b), (9, .int .i64 j)] _
 have hjk : (j : Int) * (((k : Int) % (n : Int) + (n : Int)) % (n : Int)) = ((j * k : Nat) : Int) := by rw [hke]; push_cast; rfl
 have hjk2 : j * k ≤ 64 * 64 := Nat.mul_le_mul (by omega) (by omega)
 have he : (j : Int) * (((k : Int) % (n : Int) + (n : Int)) % (n : Int)) % (n : Int) = ((j * k % n : Nat) : Int) := by rw [hjk]; norm_cast
 have hlt := Nat.mod_lt (j * k) (show 0 < n by omega)
 refine VC.seq (VC.seq (VC.region (VO.mv (Rn.move rfl) rfl rfl rfl (VO.mv (Rn.move rfl) rfl rfl rfl (VO.mv (Rn.lss rfl rfl) rfl rfl rfl (VO.nil (VQ.then_code ?_)))))))
 refine VC.cond_if rfl (fun hc1 => ?_) (fun hc1 => ?_)
 ·
  refine VC.skip (VQ.then_code (VC.seq (VC.block (VC.seq (VC.region (VO.mv (Rn.move rfl) rfl rfl rfl (VO.mv (Rn.move rfl) rfl rfl rfl ?_)))))))
  refine VO.wk (Wk.callv Tryz.call145 rfl rfl (by rfl) (direct_At1 _ _ _ _ _ _ _ _ _ _ _ hl hu at__1 j (by omega) (hb j (by omega)))) rfl rfl rfl ?_
  rintro _ _ ⟨rfl, rfl⟩
  refine VO.mv (Rn.assign rfl) rfl rfl rfl (VO.nil (VQ.then_code (VC.seq (VC.seq (VC.region (VO.mv (Rn.move rfl) rfl rfl rfl (VO.mv (Rn.move rfl) rfl rfl rfl ?_)))))))
  refine VO.mv (Rn.mul rfl rfl (by rw [IntKind.wrap_i64]; omega)) rfl rfl rfl ?_
  refine VO.mv (Rn.move rfl) rfl rfl rfl (VO.mv (Rn.rem0 rfl rfl (by omega) (by omega)) rfl rfl rfl (VO.mv (Rn.assign rfl) rfl rfl rfl (VO.nil (VQ.then_code (VC.seq (VC.region (VO.mv (Rn.move rfl) rfl rfl rfl ?_)))))))
  refine VO.mv (Rn.neq rfl rfl) rfl rfl rfl (VO.nil (VQ.then_code (VC.cond_if rfl (fun hc2 => ?_) (fun hc2 => ?_))))
  ·
   refine VC.region (VO.mv (Rn.move rfl) rfl rfl rfl (VO.mv (Rn.move rfl) rfl rfl rfl (VO.mv (Rn.move rfl) rfl rfl rfl (VO.mv (Rn.indexS Tryz.underlying49 Tryz.sizeOf50 rfl rfl (ro_1.sl.ne (by omega)) (by omega) (by omega)) rfl rfl rfl (VO.mv (Rn.load Tryz.isAgg50 rfl (ro_1.sl.getC (by omega) (by omega))) rfl rfl rfl (VO.wk (Wk.call Tryz.call32 rfl (cplx_Mul _ _ _ _ _)) rfl rfl rfl ?_))))))
   rintro _ w2 ⟨p2, q2, rfl, F2, c2⟩
   have z2 := c2.size
   refine VO.mv (Rn.assign rfl) rfl rfl rfl (VO.nil (VQ.then_code (VC.region (VO.mv (Rn.move rfl) rfl rfl rfl (VO.mv (Rn.real rfl) rfl rfl rfl (VO.mv (Rn.move rfl) rfl rfl rfl (VO.mv (Rn.real rfl) rfl rfl rfl ?_)))))))
   refine VO.wk (Wk.fbin (.inl rfl) rfl rfl) rfl rfl rfl ?_
   rintro _ w3 ⟨r3, rfl, f3, c3⟩
   have z3 := c3.size
   refine VO.mv (Rn.move rfl) rfl rfl rfl (VO.mv (Rn.imag rfl) rfl rfl rfl (VO.mv (Rn.move rfl) rfl rfl rfl (VO.mv (Rn.imag rfl) rfl rfl rfl (VO.wk (Wk.fbin (.inl rfl) rfl rfl) rfl rfl rfl ?_))))
   rintro _ w4 ⟨r4, rfl, f4, c4⟩
   have z4 := c4.size
   refine VO.mv (Rn.complex rfl rfl) rfl rfl rfl (VO.mv (Rn.assign rfl) rfl rfl rfl (VO.nil (VQ.block_normal (VQ.then_code (VC.region (VO.mv (Rn.move rfl) rfl rfl rfl ?_))))))
   refine VO.mv (Rn.add rfl rfl (by rw [IntKind.wrap_i64]; omega)) rfl rfl rfl ?_
   refine VO.mv (Rn.assign rfl) rfl rfl rfl (VO.nil ?_)
   refine VQ.round (j + 1, _, _) (by first | omega | (dsimp only; omega)) ?_ ⟨rfl, rfl, rfl, rfl, rfl, rfl, trivial⟩
   have at__4 := at__1.keep (c2.trans (c3.trans c4))
   have ro_4 := ro_1.keep (c2.trans (c3.trans c4))
   have CH_4 := CH_1.and (c2.trans (c3.trans c4))
   exact ⟨⟨by omega, by omega⟩, sum_next hj.1 hs f3 f4 (by rw [if_neg (by omega), F2, show ((j : Int) * (((k : Int) % (n : Int) + (n : Int)) % (n : Int)) % (n : Int)).toNat = j * k % n by omega, range_getD hlt]), by omega, at__4, ro_4, CH_4⟩
  ·
   refine VC.skip (VQ.then_code (VC.region (VO.mv (Rn.move rfl) rfl rfl rfl (VO.mv (Rn.real rfl) rfl rfl rfl (VO.mv (Rn.move rfl) rfl rfl rfl (VO.mv (Rn.real rfl) rfl rfl rfl (VO.wk (Wk.fbin (.inl rfl) rfl rfl) rfl rfl rfl ?_)))))))
   rintro _ w5 ⟨r5, rfl, f5, c5⟩
   have z5 := c5.size
   refine VO.mv (Rn.move rfl) rfl rfl rfl (VO.mv (Rn.imag rfl) rfl rfl rfl (VO.mv (Rn.move rfl) rfl rfl rfl (VO.mv (Rn.imag rfl) rfl rfl rfl (VO.wk (Wk.fbin (.inl rfl) rfl rfl) rfl rfl rfl ?_))))
   rintro _ w6 ⟨r6, rfl, f6, c6⟩
   have z6 := c6.size
   refine VO.mv (Rn.complex rfl rfl) rfl rfl rfl (VO.mv (Rn.assign rfl) rfl rfl rfl (VO.nil (VQ.block_normal (VQ.then_code (VC.region (VO.mv (Rn.move rfl) rfl rfl rfl ?_))))))
   refine VO.mv (Rn.add rfl rfl (by rw [IntKind.wrap_i64]; omega)) rfl rfl rfl ?_
   refine VO.mv (Rn.assign rfl) rfl rfl rfl (VO.nil ?_)
   refine VQ.round (j + 1, _, _) (by first | omega | (dsimp only; omega)) ?_ ⟨rfl, rfl, rfl, rfl, rfl, rfl, trivial⟩
   have at__6 := at__1.keep (c5.trans c6)
   have ro_6 := ro_1.keep (c5.trans c6)
   have CH_6 := CH_1.and (c5.trans c6)
   exact ⟨⟨by omega, by omega⟩, sum_next hj.1 hs f5 f6 (by rw [if_pos (by omega)]), by omega, at__6, ro_6, CH_6⟩
 ·
  refine VC.exit (VQ.then_exit (VQ.then_exit (VQ.block_exit (VQ.then_code (VC.seq (VC.region (VO.mv (Rn.move rfl) rfl rfl rfl ?_)))))))
  refine VO.mv (Rn.assign rfl) rfl rfl rfl (VO.nil (VQ.then_code (VC.ret (VQ.ret1 rfl rfl (Ret.mk ?_)))))
  have e : j = n := by omega
  subst e
  exact ⟨_, _, rfl, hs, CH_1⟩
set_option maxRecDepth 100000 in
theorem direct_At (S : Nat → Prop) (w : World) (A : Option Addr) (l c : Nat) (xs : List CB) (u v : Nat) (hl : l ≤ 1000000) (hu : u ≤ 1000000) (sl : SlR S w A l 1 (xs.map cxV)) (n k : Nat) (hn : 1 ≤ n) (hn2 : n ≤ 64) (hr : ∀ a, 4 * (a % n) % n = 0) (hk : k < n) (hv : 1 ≤ v) (hv2 : v ≤ 1000000) (hb : ∀ j, j < n → u + j * v < l) :
  Calls Tryz.prog 121 #[.slice A l c, .int .i64 u, .int .i64 v, .int .i64 n, .int .i64 k] w (Ret (fun r w' => ∃ a b, r = .tuple #[.complex .f64 a b, .nilIface] ∧ cx (a, b) = directC n k (XX xs u v) ∧ Ch No w w')) := by
 have hb0 := hb 0 (by omega); rw [Nat.zero_mul] at hb0
 have hq : 1 < n → (v : Int) ≤ ((l : Int) - 1 - u) / ((n : Int) - 1) := fun h => by
  have h9 := hb (n - 1) (by omega)
  have h8 : (((n - 1) * v : Nat) : Int) = (v : Int) * ((n : Int) - 1) := by rw [Nat.mul_comm]; push_cast [show 1 ≤ n by omega]; rfl
  exact Int.le_ediv_of_mul_le (by omega) (by omega)
 refine calls_of_VC (args := [.slice A l c, .int .i64 u, .int .i64 v, .int .i64 n, .int .i64 k]) Tryz.func121 rfl Tryz.ntmps121 rfl (VC.seq (VC.region (VO.wk (Wk.box rfl) rfl rfl rfl ?_)))
 rintro _ w1 ⟨p1, rfl, N1⟩
 have c1 := N1.ch
 have e1 := N1.p; have z1 := N1.size
 have b5 := Bk.new N1
 refine VO.wk (Wk.box rfl) rfl rfl rfl ?_
 rintro _ w2 ⟨p2, rfl, N2⟩
 have c2 := N2.ch
 have e2 := N2.p; have z2 := N2.size
 have b6 := Bk.new N2
 refine VO.wk (Wk.box rfl) rfl rfl rfl ?_
 rintro _ w3 ⟨p3, rfl, N3⟩
 have c3 := N3.ch
 have e3 := N3.p; have z3 := N3.size
 have b7 := Bk.new N3
 refine VO.mv (Rn.assign rfl) rfl rfl rfl (VO.mv (Rn.assign rfl) rfl rfl rfl (VO.nil (VQ.then_code (VC.seq (VC.region (VO.mv (Rn.move rfl) rfl rfl rfl (VO.wk (Wk.call Tryz.call143 rfl (direct_table _ (by omega) (by omega) hr _)) rfl rfl rfl ?_)))))))
 rintro _ w4 ⟨q4, rfl, e4, ro4, c4⟩
 have z4 := c4.size
 refine VO.mv (Rn.move rfl) rfl rfl rfl (VO.mv (Rn.extract rfl rfl) rfl rfl rfl (VO.mv (Rn.extract rfl rfl) rfl rfl rfl (VO.mv (Rn.assign rfl) rfl rfl rfl (VO.mv (Rn.assign rfl) rfl rfl rfl (VO.nil (VQ.then_code (VC.seq ?_)))))))
 refine VC.seq (VC.region (VO.mv (Rn.move rfl) rfl rfl rfl (VO.mv (Rn.nil_neq_nil Tryz.underlying29 rfl) rfl rfl rfl (VO.nil (VQ.then_code (VC.cond_false rfl (VC.skip ?_)))))))
 refine VQ.then_code (VC.seq (VC.seq (VC.draws 28 [(0, true), (1, true), (2, true), (3, true), (4, true), (5, true), (6, true), (7, true), (8, true), (9, true), (10, true), (11, true), (12, true), (13, true), (14, true), (15, true), (16, true), (17, true), (18, true), (19, true), (20, true), (21, true), (22, true), (23, true), (24, true), (25, true), (26, true), (27, true)] (fun w1 w' => Ch (No) w1 w') mixed (by kernel_rfl) (fun _ _ => Ch.refl _ _) ?_)))
 intro w5 D5
 have c5 := Ch.of_drew D5; have z5 := c5.size
 have sl_5 := sl.keep (c1.trans (c2.trans (c3.trans (c4.trans c5))))
 have b5_5 := b5.keep (c2.trans (c3.trans (c4.trans c5)))
 have b6_5 := b6.keep (c3.trans (c4.trans c5))
 have b7_5 := b7.keep (c4.trans c5)
 have ro_5 := ro4.keep c5
 refine VH.mv (fun w' hS => Rn.load Tryz.isAgg3 rfl ((b6_5.keep hS).cell rfl)) rfl rfl rfl rfl (VH.mv (fun w' hS => Rn.lss rfl rfl) rfl rfl rfl rfl (VH.mv (fun w' hS => Rn.move rfl) rfl rfl rfl rfl (VH.split_if 24 rfl (fun hc1 => ?_) (fun hc1 => ?_))))
 ·
  omega
 ·
  refine VH.mv (fun w' hS => Rn.load Tryz.isAgg3 rfl ((b6_5.keep hS).cell rfl)) rfl rfl rfl rfl (VH.mv (fun w' hS => Rn.load Tryz.isAgg49 rfl ((b5_5.keep hS).cell rfl)) rfl rfl rfl rfl (VH.mv (fun w' hS => Rn.len Tryz.underlying49 rfl) rfl rfl rfl rfl (VH.mv (fun w' hS => Rn.geq rfl rfl) rfl rfl rfl rfl (VH.mv (fun w' hS => Rn.pick_false rfl rfl) rfl rfl rfl rfl (VH.mv (fun w' hS => Rn.move rfl) rfl rfl rfl rfl (VH.split_if 30 rfl (fun hc2 => ?_) (fun hc2 => ?_)))))))
  ·
   omega
  ·
   refine VH.mv (fun w' hS => Rn.load Tryz.isAgg3 rfl ((b7_5.keep hS).cell rfl)) rfl rfl rfl rfl (VH.mv (fun w' hS => Rn.lss rfl rfl) rfl rfl rfl rfl (VH.mv (fun w' hS => Rn.pick_false rfl rfl) rfl rfl rfl rfl (VH.mv (fun w' hS => Rn.move rfl) rfl rfl rfl rfl (VH.split_if 34 rfl (fun hc3 => ?_) (fun hc3 => ?_)))))
   ·
    omega
   ·
    refine VH.mv (fun w' hS => Rn.move rfl) rfl rfl rfl rfl (VH.mv (fun w' hS => Rn.gtr rfl rfl) rfl rfl rfl rfl (VH.mv (fun w' hS => Rn.move rfl) rfl rfl rfl rfl (VH.split_if 37 rfl (fun hc4 => ?_) (fun hc4 => ?_))))
    ·
     have hq9 := hq (by omega)
     refine VH.mv (fun w' hS => Rn.load Tryz.isAgg3 rfl ((b7_5.keep hS).cell rfl)) rfl rfl rfl rfl (VH.mv (fun w' hS => Rn.load Tryz.isAgg49 rfl ((b5_5.keep hS).cell rfl)) rfl rfl rfl rfl (VH.mv (fun w' hS => Rn.len Tryz.underlying49 rfl) rfl rfl rfl rfl ?_))
     refine VH.mv (fun w' hS => Rn.sub rfl rfl (by rw [IntKind.wrap_i64]; omega)) rfl rfl rfl rfl ?_
     refine VH.mv (fun w' hS => Rn.load Tryz.isAgg3 rfl ((b6_5.keep hS).cell rfl)) rfl rfl rfl rfl ?_
     refine VH.mv (fun w' hS => Rn.sub rfl rfl (by rw [IntKind.wrap_i64]; omega)) rfl rfl rfl rfl ?_
     refine VH.mv (fun w' hS => Rn.move rfl) rfl rfl rfl rfl ?_
     refine VH.mv (fun w' hS => Rn.sub rfl rfl (by rw [IntKind.wrap_i64]; omega)) rfl rfl rfl rfl ?_
     refine VH.mv (fun w' hS => Rn.quo0 rfl rfl (by omega) (by omega) (by omega)) rfl rfl rfl rfl (VH.mv (fun w' hS => Rn.gtr rfl rfl) rfl rfl rfl rfl (VH.mv (fun w' hS => Rn.pick_true rfl rfl) rfl rfl rfl rfl (VH.mv (fun w' hS => Rn.pick_false rfl rfl) rfl rfl rfl rfl (VH.done (VO.nil (VQ.noPanic (VQ.then_code ?_)))))))
     refine VC.cond_if rfl (fun hc5 => ?_) (fun hc5 => ?_)
     ·
      omega
     ·
      refine VC.skip (VQ.then_code (VC.seq ?_))
      have at9 := AtR.mk b5_5 b6_5 b7_5 sl_5
      refine VC.region (VO.mv (Rn.move rfl) rfl rfl rfl (VO.mv (Rn.move rfl) rfl rfl rfl (VO.mv (Rn.func rfl rfl) rfl rfl rfl (VO.wk (Wk.call Tryz.call144 rfl (direct_sum _ _ _ _ _ _ _ _ _ _ _ hl hu at9 _ _ hn hn2 hk hb _ ro_5)) rfl rfl rfl ?_))))
      rintro _ w6 ⟨p6, q6, rfl, F6, c6⟩
      have z6 := c6.size
      refine VO.mv (Rn.assign rfl) rfl rfl rfl (VO.mv (Rn.assign rfl) rfl rfl rfl (VO.nil (VQ.then_code (VC.ret (VQ.ret2 rfl rfl rfl (Ret.mk ?_))))))
      have CH_6 := (Ch.refl (No) w).and (c1.trans (c2.trans (c3.trans (c4.trans (c5.trans c6)))))
      exact ⟨_, _, rfl, F6, CH_6⟩
    ·
     refine VH.skip rfl rfl rfl rfl (VH.skip rfl rfl rfl rfl (VH.skip rfl rfl rfl rfl (VH.skip rfl rfl rfl rfl (VH.skip rfl rfl rfl rfl (VH.skip rfl rfl rfl rfl (VH.skip rfl rfl rfl rfl (VH.skip rfl rfl rfl rfl ?_)))))))
     refine VH.skip rfl rfl rfl rfl (VH.skip rfl rfl rfl rfl (VH.mv (fun w' hS => Rn.pick_false rfl rfl) rfl rfl rfl rfl (VH.mv (fun w' hS => Rn.pick_false rfl rfl) rfl rfl rfl rfl (VH.done (VO.nil (VQ.noPanic (VQ.then_code ?_)))))))
     refine VC.cond_false rfl (VC.skip (VQ.then_code (VC.seq ?_)))
     have at9 := AtR.mk b5_5 b6_5 b7_5 sl_5
     refine VC.region (VO.mv (Rn.move rfl) rfl rfl rfl (VO.mv (Rn.move rfl) rfl rfl rfl (VO.mv (Rn.func rfl rfl) rfl rfl rfl (VO.wk (Wk.call Tryz.call144 rfl (direct_sum _ _ _ _ _ _ _ _ _ _ _ hl hu at9 _ _ hn hn2 hk hb _ ro_5)) rfl rfl rfl ?_))))
     rintro _ w7 ⟨p7, q7, rfl, F7, c7⟩
     have z7 := c7.size
     refine VO.mv (Rn.assign rfl) rfl rfl rfl (VO.mv (Rn.assign rfl) rfl rfl rfl (VO.nil (VQ.then_code (VC.ret (VQ.ret2 rfl rfl rfl (Ret.mk ?_))))))
     have CH_7 := (Ch.refl (No) w).and (c1.trans (c2.trans (c3.trans (c4.trans (c5.trans c7)))))
     exact ⟨_, _, rfl, F7, CH_7⟩
theorem fly_Fly (p c : Nat) (zs : List CB) (n : Nat) (hn : n = 2 ∨ n = 4) (S : Nat → Prop) (w : World) (sl : SlR S w (some ⟨p, 0, none⟩) n 1 (zs.map cxV)) : Calls Tryz.prog 120 #[.slice (some ⟨p, 0, none⟩) n c] w (Ret fun r w' => ∃ (q : Nat) (ys : List CB), r = .tuple #[.slice (some ⟨q, 0, none⟩) n n, .nilIface] ∧ ys.map cx = flyC (zs.map cx) ∧ SlR (Is q) w' (some ⟨q, 0, none⟩) n 1 (ys.map cxV) ∧ w.heap.size ≤ q ∧ Ch No w w') := by
  have hl : zs.length = n := by have := sl.len; simpa using this
  rcases hn with rfl | rfl
  · match zs, hl with
    | [x, y], _ => exact fly_Fly2 p c x y S w sl
  · match zs, hl with
    | [x, y, u, v], _ => exact fly_Fly4 p c x y u v S w sl
end Go.Tm
namespace Go.Tm
open Go.RowKit Go.Proofs
abbrev macV (b : Bld) (N : Nat) (SA : Option Addr) (sc : Nat) (bs : ByteArray) (CA : Option Addr) (ac dn st at_ : Int) : Array Value := #[.int .i64 b.ln, .int .i64 b.cl, .int .i64 b.i0, .int .i64 b.ou, .slice SA b.steps.length sc, .string bs, .slice CA N N, .int .i64 ac, .int .i64 dn, .int .i64 st, .int .i64 at_, .slice none 0 0, .int .i64 0, .int .i64 0, .int .i64 0, .int .i64 0, .int .i64 0, .int .i64 0, .int .i64 0]
structure MacR (w : World) (m r : Nat) (b : Bld) (N : Nat) (SA : Option Addr) (sc : Nat) (bs : ByteArray) (CA : Option Addr) (ac dn st at_ : Int) (xs : List CB) : Prop where
  bk : Bk w m (macV b N SA sc bs CA ac dn st at_) 121
  row : CR 50 w r CA N N xs
  ne : ¬ r = m + 1
theorem MacR.to {D : Nat → Prop} {w w' : World} {m r : Nat} {b : Bld} {N : Nat} {SA : Option Addr} {sc : Nat} {bs : ByteArray} {CA : Option Addr} {ac dn st at_ : Int} {xs : List CB} (h : MacR w m r b N SA sc bs CA ac dn st at_ xs) (c : Ch D w w') (hd : ∀ q, q < w.heap.size → (q = m ∨ r = q + 1) → q = q → ¬ D q) : MacR w' m r b N SA sc bs CA ac dn st at_ xs :=
  ⟨h.bk.to c (hd m h.bk.lt (.inl rfl) rfl), Ow.to h.row c (fun q h1 h2 _ => hd q h1 (.inr h2) rfl), h.ne⟩
theorem MacR.keep {w w' : World} {m r : Nat} {b : Bld} {N : Nat} {SA : Option Addr} {sc : Nat} {bs : ByteArray} {CA : Option Addr} {ac dn st at_ : Int} {xs : List CB} (h : MacR w m r b N SA sc bs CA ac dn st at_ xs) (c : Ch No w w') : MacR w' m r b N SA sc bs CA ac dn st at_ xs := h.to c fun _ _ _ _ => id
set_option maxRecDepth 100000 in
theorem inf50w41 : Inf Tryz.prog 50 (.complex .f64 0 0) 1 16 := ⟨Tryz.t50, Tryz.type50, rfl, rfl, rfl⟩
set_option maxRecDepth 100000 in
theorem act_gather (m r : Nat) (b : Bld) (N : Nat) (SA : Option Addr) (sc : Nat) (bs : ByteArray) (CA : Option Addr) (ac dn st at_ : Int) (xs : List CB) (w : World) (mr : MacR w m r b N SA sc bs CA ac dn st at_ xs) (hN : N ≤ 1000000) (op co nn kk : Int) (d sr ju i : Nat) (hd : d + i < N) (hs : sr + i * ju < N) :
  Calls Tryz.prog 90 #[.pointer (some ⟨m, 0, none⟩), .agg #[.int .i64 op, .int .i64 d, .int .i64 sr, .int .i64 ju, .int .i64 co, .int .i64 nn, .int .i64 kk], .int .i64 i] w (Ret (fun v w' => v = .tuple #[] ∧ ∃ ys, MacR w' m r b N SA sc bs CA ac dn st at_ ys ∧ ys.map cx = (xs.map cx).set (d + i) ((xs.map cx).getD (sr + i * ju) z0) ∧ Ch (At r) w w')) := by
 obtain ⟨bk, row, ne⟩ := id mr
 have yr := Ow.lt row; have ym := bk.lt
 have e0 : ((i * ju : Nat) : Int) = (i : Int) * (ju : Int) := by push_cast; rfl
 refine calls_of_VC (args := [.pointer (some ⟨m, 0, none⟩), .agg #[.int .i64 op, .int .i64 d, .int .i64 sr, .int .i64 ju, .int .i64 co, .int .i64 nn, .int .i64 kk], .int .i64 i]) Tryz.func90 rfl Tryz.ntmps90 rfl (VC.seq (VC.region (VO.wk (Wk.box rfl) rfl rfl rfl ?_)))
 rintro _ w1 ⟨p1, rfl, N1⟩
 have c1 := N1.ch
 have e1 := N1.p; have z1 := N1.size
 have b4 := Bk.new N1
 refine VO.nil (VQ.then_code (VC.draws 22 [(0, true), (1, true), (2, true), (3, true), (4, true), (5, true), (6, true), (7, true), (8, true), (9, true), (10, true), (11, true), (12, true), (13, true), (14, true), (15, true), (16, true), (17, true), (18, true), (19, true), (20, true), (21, true)] (fun w1 w' => Ch (No) w1 w') mixed (by kernel_rfl) (fun _ _ => Ch.refl _ _) ?_))
 intro w2 D2
 have c2 := Ch.of_drew D2; have z2 := c2.size
 have bk_2 := bk.keep (c1.trans c2)
 have row_2 := row.keep (c1.trans c2)
 have b4_2 := b4.keep c2
 refine VH.mv (fun w' hS => Rn.move rfl) rfl rfl rfl rfl (VH.mv (fun w' hS => Rn.nilCheck rfl) rfl rfl rfl rfl (VH.mv (fun w' hS => Rn.field Tryz.underlying121 rfl Tryz.sizeOf49 rfl rfl rfl) rfl rfl rfl rfl (VH.mv (fun w' hS => Rn.load Tryz.isAgg49 rfl ((bk_2.keep hS).cell rfl)) rfl rfl rfl rfl (VH.mv (fun w' hS => Rn.field Tryz.underlying119 rfl Tryz.sizeOf3 rfl rfl rfl) rfl rfl rfl rfl (VH.mv (fun w' hS => Rn.load Tryz.isAgg3 rfl ((b4_2.keep hS).cell rfl)) rfl rfl rfl rfl (VH.mv (fun w' hS => Rn.move rfl) rfl rfl rfl rfl ?_))))))
 refine VH.mv (fun w' hS => Rn.add rfl rfl (by rw [IntKind.wrap_i64]; omega)) rfl rfl rfl rfl ?_
 refine VH.mv (fun w' hS => Rn.move rfl) rfl rfl rfl rfl (VH.mv (fun w' hS => Rn.nilCheck rfl) rfl rfl rfl rfl (VH.mv (fun w' hS => Rn.field Tryz.underlying121 rfl Tryz.sizeOf49 rfl rfl rfl) rfl rfl rfl rfl (VH.mv (fun w' hS => Rn.load Tryz.isAgg49 rfl ((bk_2.keep hS).cell rfl)) rfl rfl rfl rfl (VH.mv (fun w' hS => Rn.field Tryz.underlying119 rfl Tryz.sizeOf3 rfl rfl rfl) rfl rfl rfl rfl (VH.mv (fun w' hS => Rn.load Tryz.isAgg3 rfl ((b4_2.keep hS).cell rfl)) rfl rfl rfl rfl (VH.mv (fun w' hS => Rn.move rfl) rfl rfl rfl rfl (VH.mv (fun w' hS => Rn.field Tryz.underlying119 rfl Tryz.sizeOf3 rfl rfl rfl) rfl rfl rfl rfl ?_)))))))
 refine VH.mv (fun w' hS => Rn.load Tryz.isAgg3 rfl ((b4_2.keep hS).cell rfl)) rfl rfl rfl rfl ?_
 refine VH.mv (fun w' hS => Rn.mul rfl rfl (by rw [IntKind.wrap_i64]; omega)) rfl rfl rfl rfl ?_
 refine VH.mv (fun w' hS => Rn.add rfl rfl (by rw [IntKind.wrap_i64]; omega)) rfl rfl rfl rfl ?_
 refine VH.mv (fun w' hS => Rn.indexS Tryz.underlying49 Tryz.sizeOf50 rfl rfl (row_2.sl.ne (by omega)) (by omega) (by omega)) rfl rfl rfl rfl (VH.mv (fun w' hS => Rn.load Tryz.isAgg50 rfl ((row_2.keep hS).sl.getC (by omega) (by omega))) rfl rfl rfl rfl (VH.mv (fun w' hS => Rn.indexS Tryz.underlying49 Tryz.sizeOf50 rfl rfl (row_2.sl.ne (by omega)) (by omega) (by omega)) rfl rfl rfl rfl (VH.done (VO.wk0 (Wk.putC Tryz.sizeOf50 rfl rfl (by omega) row_2) rfl rfl ?_))))
 rintro _ w3 ⟨o3, c3, z3⟩
 have y3 := o3.lt
 refine VO.nil (VQ.noPanic (VQ.end0 rfl (Ret.mk ?_)))
 have row9 := o3; rw [show ((d : Int) + (i : Int)).toNat = d + i by omega, show ((sr : Int) + (i : Int) * (ju : Int)).toNat = sr + i * ju by omega] at row9
 have bk_3 := bk_2.to c3 (by first | exact id | omega)
 have CH_2 := (Ch.refl (At r) w).and (c1.trans c2)
 have CH_3 : Ch (At r) w w3 := CH_2.then c3 (by intro q h1 h2; rcases h2 with h2 | h2 <;> first | exact h2 | (exfalso; omega) | omega)
 exact ⟨rfl, _, ⟨bk_3, row9, ne⟩, by rw [map_getD, ← List.map_set], CH_3⟩
set_option maxRecDepth 100000 in
theorem act_direct (m r : Nat) (b : Bld) (N : Nat) (SA : Option Addr) (sc : Nat) (bs : ByteArray) (CA : Option Addr) (ac dn st at_ : Int) (xs : List CB) (w : World) (mr : MacR w m r b N SA sc bs CA ac dn st at_ xs) (hN : N ≤ 1000000) (op co kk : Int) (d sr ju nn i : Nat) (hn : 1 ≤ nn) (hn2 : nn ≤ 64) (hr : ∀ a, 4 * (a % nn) % nn = 0) (hk : i < nn) (hv : 1 ≤ ju) (hv2 : ju ≤ 1000000) (hb : ∀ j, j < nn → sr + j * ju < N) (hd : d + i < N) :
  Calls Tryz.prog 95 #[.pointer (some ⟨m, 0, none⟩), .agg #[.int .i64 op, .int .i64 d, .int .i64 sr, .int .i64 ju, .int .i64 co, .int .i64 nn, .int .i64 kk], .int .i64 i] w (Ret (fun v w' => v = .tuple #[] ∧ ∃ ys, MacR w' m r b N SA sc bs CA ac dn st at_ ys ∧ ys.map cx = (xs.map cx).set (d + i) (directC nn i (fun j => (xs.map cx).getD (sr + j * ju) z0)) ∧ Ch (At r) w w')) := by
 obtain ⟨bk, row, ne⟩ := id mr
 have yr := Ow.lt row; have ym := bk.lt
 have hb0 := hb 0 (by omega); rw [Nat.zero_mul] at hb0
 refine calls_of_VC (args := [.pointer (some ⟨m, 0, none⟩), .agg #[.int .i64 op, .int .i64 d, .int .i64 sr, .int .i64 ju, .int .i64 co, .int .i64 nn, .int .i64 kk], .int .i64 i]) Tryz.func95 rfl Tryz.ntmps95 rfl (VC.seq (VC.region (VO.wk (Wk.box rfl) rfl rfl rfl ?_)))
 rintro _ w1 ⟨p1, rfl, N1⟩
 have c1 := N1.ch
 have e1 := N1.p; have z1 := N1.size
 have b4 := Bk.new N1
 refine VO.nil (VQ.then_code (VC.seq (VC.draws 16 [(0, true), (1, true), (2, true), (3, true), (4, true), (5, true), (6, true), (7, true), (8, true), (9, true), (10, true), (11, false), (12, true), (13, true), (14, true), (15, true)] (fun w1 w' => Ch (No) w1 w') mixed (by kernel_rfl) (fun _ _ => Ch.refl _ _) ?_)))
 intro w2 D2
 have c2 := Ch.of_drew D2; have z2 := c2.size
 have bk_2 := bk.keep (c1.trans c2)
 have row_2 := row.keep (c1.trans c2)
 have b4_2 := b4.keep c2
 refine VH.mv (fun w' hS => Rn.move rfl) rfl rfl rfl rfl (VH.mv (fun w' hS => Rn.nilCheck rfl) rfl rfl rfl rfl (VH.mv (fun w' hS => Rn.field Tryz.underlying121 rfl Tryz.sizeOf49 rfl rfl rfl) rfl rfl rfl rfl (VH.mv (fun w' hS => Rn.load Tryz.isAgg49 rfl ((bk_2.keep hS).cell rfl)) rfl rfl rfl rfl (VH.mv (fun w' hS => Rn.field Tryz.underlying119 rfl Tryz.sizeOf3 rfl rfl rfl) rfl rfl rfl rfl (VH.mv (fun w' hS => Rn.load Tryz.isAgg3 rfl ((b4_2.keep hS).cell rfl)) rfl rfl rfl rfl (VH.mv (fun w' hS => Rn.field Tryz.underlying119 rfl Tryz.sizeOf3 rfl rfl rfl) rfl rfl rfl rfl (VH.mv (fun w' hS => Rn.load Tryz.isAgg3 rfl ((b4_2.keep hS).cell rfl)) rfl rfl rfl rfl ?_)))))))
 refine VH.mv (fun w' hS => Rn.field Tryz.underlying119 rfl Tryz.sizeOf3 rfl rfl rfl) rfl rfl rfl rfl (VH.mv (fun w' hS => Rn.load Tryz.isAgg3 rfl ((b4_2.keep hS).cell rfl)) rfl rfl rfl rfl (VH.mv (fun w' hS => Rn.move rfl) rfl rfl rfl rfl (VH.wk (Wk.call Tryz.call121 rfl (direct_At _ _ _ _ _ _ _ _ (by omega) (by omega) (row_2).sl _ _ hn hn2 hr hk hv (by omega) hb)) rfl rfl rfl rfl ?_)))
 rintro _ w3 ⟨p3, q3, rfl, F3, c3⟩
 have z3 := c3.size
 have RD_3 := (Ch.refl (No) w2).and c3
 refine ⟨RD_3, ?_⟩
 refine VH.mv (fun w' hS => Rn.move rfl) rfl rfl rfl rfl (VH.mv (fun w' hS => Rn.extract rfl rfl) rfl rfl rfl rfl (VH.mv (fun w' hS => Rn.extract rfl rfl) rfl rfl rfl rfl (VH.mv (fun w' hS => Rn.assign rfl) rfl rfl rfl rfl (VH.done (VO.mv (Rn.assign rfl) rfl rfl rfl (VO.nil (VQ.noPanic ?_)))))))
 refine VQ.then_code (VC.seq (VC.region (VO.mv (Rn.move rfl) rfl rfl rfl (VO.mv (Rn.nil_eql_nil Tryz.underlying29 rfl) rfl rfl rfl (VO.nil (VQ.then_code (VC.cond_true rfl ?_)))))))
 refine VC.draws 10 [(0, true), (1, true), (2, true), (3, true), (4, true), (5, true), (6, true), (7, true), (8, true), (9, true)] (fun w1 w' => Ch (No) w1 w') mixed (by kernel_rfl) (fun _ _ => Ch.refl _ _) ?_
 intro w4 D4
 have c4 := Ch.of_drew D4; have z4 := c4.size
 have bk_4 := bk_2.keep (c3.trans c4)
 have row_4 := row_2.keep (c3.trans c4)
 have b4_4 := b4_2.keep (c3.trans c4)
 refine VH.mv (fun w' hS => Rn.move rfl) rfl rfl rfl rfl (VH.mv (fun w' hS => Rn.nilCheck rfl) rfl rfl rfl rfl (VH.mv (fun w' hS => Rn.field Tryz.underlying121 rfl Tryz.sizeOf49 rfl rfl rfl) rfl rfl rfl rfl (VH.mv (fun w' hS => Rn.load Tryz.isAgg49 rfl ((bk_4.keep hS).cell rfl)) rfl rfl rfl rfl (VH.mv (fun w' hS => Rn.field Tryz.underlying119 rfl Tryz.sizeOf3 rfl rfl rfl) rfl rfl rfl rfl (VH.mv (fun w' hS => Rn.load Tryz.isAgg3 rfl ((b4_4.keep hS).cell rfl)) rfl rfl rfl rfl (VH.mv (fun w' hS => Rn.move rfl) rfl rfl rfl rfl ?_))))))
 refine VH.mv (fun w' hS => Rn.add rfl rfl (by rw [IntKind.wrap_i64]; omega)) rfl rfl rfl rfl ?_
 refine VH.mv (fun w' hS => Rn.move rfl) rfl rfl rfl rfl (VH.mv (fun w' hS => Rn.indexS Tryz.underlying49 Tryz.sizeOf50 rfl rfl (row_4.sl.ne (by omega)) (by omega) (by omega)) rfl rfl rfl rfl (VH.done (VO.wk0 (Wk.putC Tryz.sizeOf50 rfl rfl (by omega) row_4) rfl rfl ?_)))
 rintro _ w5 ⟨o5, c5, z5⟩
 have y5 := o5.lt
 refine VO.nil (VQ.noPanic (VQ.end0 rfl (Ret.mk ?_)))
 have row9 := o5; rw [show ((d : Int) + (i : Int)).toNat = d + i by omega] at row9
 have bk_5 := bk_4.to c5 (by first | exact id | omega)
 have CH_4 := (Ch.refl (At r) w).and (c1.trans (c2.trans (c3.trans c4)))
 have CH_5 : Ch (At r) w w5 := CH_4.then c5 (by intro q h1 h2; rcases h2 with h2 | h2 <;> first | exact h2 | (exfalso; omega) | omega)
 exact ⟨rfl, _, ⟨bk_5, row9, ne⟩, by simp only [map_getD]; rw [List.map_set, F3], CH_5⟩
set_option maxRecDepth 100000 in
theorem act_fly (m r : Nat) (b : Bld) (N : Nat) (SA : Option Addr) (sc : Nat) (bs : ByteArray) (CA : Option Addr) (ac dn st at_ : Int) (xs : List CB) (w : World) (mr : MacR w m r b N SA sc bs CA ac dn st at_ xs) (hN : N ≤ 1000000) (op sr co kk : Int) (d ju nn i : Nat) (hnn : nn = 2 ∨ nn = 4) (hb : ∀ q, q < nn → d + i + q * ju < N) :
  Calls Tryz.prog 94 #[.pointer (some ⟨m, 0, none⟩), .agg #[.int .i64 op, .int .i64 d, .int .i64 sr, .int .i64 ju, .int .i64 co, .int .i64 nn, .int .i64 kk], .int .i64 i] w (Ret (fun v w' => v = .tuple #[] ∧ ∃ ys, MacR w' m r b N SA sc bs CA ac dn st at_ ys ∧ ys.map cx = putN (xs.map cx) (d + i) ju (flyC ((List.range nn).map fun q => (xs.map cx).getD (d + i + q * ju) z0)) nn ∧ Ch (At r) w w')) := by
 obtain ⟨bk, row, ne⟩ := id mr
 have yr := Ow.lt row; have ym := bk.lt
 have hb0 := hb 0 (by omega); rw [Nat.zero_mul] at hb0
 refine calls_of_VC (args := [.pointer (some ⟨m, 0, none⟩), .agg #[.int .i64 op, .int .i64 d, .int .i64 sr, .int .i64 ju, .int .i64 co, .int .i64 nn, .int .i64 kk], .int .i64 i]) Tryz.func94 rfl Tryz.ntmps94 rfl (VC.seq (VC.region (VO.wk (Wk.box rfl) rfl rfl rfl ?_)))
 rintro _ w1 ⟨p1, rfl, N1⟩
 have c1 := N1.ch
 have e1 := N1.p; have z1 := N1.size
 have b4 := Bk.new N1
 refine VO.nil (VQ.then_code (VC.seq (VC.region (VO.mv (Rn.field Tryz.underlying119 rfl Tryz.sizeOf3 rfl rfl rfl) rfl rfl rfl (VO.mv (Rn.load Tryz.isAgg3 rfl (b4.cell rfl)) rfl rfl rfl (VO.wk (Wk.mkC Tryz.underlying49 inf50w41 rfl rfl (by omega) (by omega) (by omega)) rfl rfl rfl ?_))))))
 rintro _ w2 ⟨p2, rfl, o2, c2, e2, z2⟩
 refine VO.mv (Rn.assign rfl) rfl rfl rfl (VO.nil (VQ.then_code (VC.seq (VC.seq (VC.region (VO.mv (Rn.move rfl) rfl rfl rfl (VO.mv (Rn.len Tryz.underlying49 rfl) rfl rfl rfl ?_)))))))
 refine VO.mv (Rn.move rfl) rfl rfl rfl (VO.nil (VQ.then_code (VC.block ?_)))
 have b4_2 := b4.keep c2
 have bk_2 := bk.keep (c1.trans c2)
 have row_2 := row.keep (c1.trans c2)
 have CH_2 := (Ch.refl (At r) w).and (c1.trans c2)
 refine VC.loopS (σ := Nat) (fun j => [(0, .pointer (some ⟨m, 0, none⟩)), (2, .int .i64 i), (4, .pointer (some ⟨p1, 0, none⟩)), (6, .slice (some ⟨p2, 0, none⟩) nn nn), (16, .int .i64 nn), (17, .int .i64 j)]) (fun j w' => j ≤ nn ∧ w2.heap.size ≤ w'.heap.size ∧ Bk w' p1 #[.int .i64 op, .int .i64 d, .int .i64 sr, .int .i64 ju, .int .i64 co, .int .i64 nn, .int .i64 kk] 119 ∧ Bk w' m (macV b N SA sc bs CA ac dn st at_) 121 ∧ CR 50 w' r CA N N xs ∧ CR 50 w' (p2 + 1) (some ⟨p2, 0, none⟩) nn nn (rowF nn (fun q => xs.getD (d + i + q * ju) (0, 0)) j) ∧ Ch (At r) w w') (fun j => nn - j) 0 ?_ ⟨rfl, rfl, rfl, rfl, rfl, rfl, trivial⟩ ?_
 · exact ⟨(by omega), (Nat.le_refl _), b4_2, bk_2, row_2, (by rw [rowF_zero]; exact o2), CH_2⟩
 rintro j w3 ⟨hj, hsz3, b4_3, bk_3, row_3, af_3, CH_3⟩
 show VC _ _ _ _ [(0, .pointer (some ⟨m, 0, none⟩)), (2, .int .i64 i), (4, .pointer (some ⟨p1, 0, none⟩)), (6, .slice (some ⟨p2, 0, none⟩) nn nn), (16, .int .i64 nn), (17, .int .i64 j)] _
 have e0 : ((j * ju : Nat) : Int) = (j : Int) * (ju : Int) := by push_cast; rfl
 have hbj := hb j
 refine VC.seq (VC.region (VO.mv (Rn.lss rfl rfl) rfl rfl rfl (VO.nil (VQ.then_code (VC.seq (VC.cond_if rfl (fun hc1 => ?_) (fun hc1 => ?_)))))))
 ·
  refine VC.skip (VQ.then_code (VC.seq (VC.block (VC.seq (VC.region (VO.mv (Rn.move rfl) rfl rfl rfl (VO.mv (Rn.assign rfl) rfl rfl rfl ?_)))))))
  refine VO.nil (VQ.then_code (VC.draws 18 [(0, true), (1, true), (2, true), (3, true), (4, true), (5, true), (6, true), (7, true), (8, true), (9, true), (10, true), (11, true), (12, true), (13, true), (14, true), (15, true), (16, true), (17, true)] (fun w1 w' => Ch (No) w1 w') mixed (by kernel_rfl) (fun _ _ => Ch.refl _ _) ?_))
  intro w4 D4
  have c4 := Ch.of_drew D4; have z4 := c4.size
  have bk_4 := bk_3.keep c4
  have row_4 := row_3.keep c4
  have b4_4 := b4_3.keep c4
  have af_4 := af_3.keep c4
  refine VH.mv (fun w' hS => Rn.move rfl) rfl rfl rfl rfl (VH.mv (fun w' hS => Rn.move rfl) rfl rfl rfl rfl (VH.mv (fun w' hS => Rn.move rfl) rfl rfl rfl rfl (VH.mv (fun w' hS => Rn.nilCheck rfl) rfl rfl rfl rfl (VH.mv (fun w' hS => Rn.field Tryz.underlying121 rfl Tryz.sizeOf49 rfl rfl rfl) rfl rfl rfl rfl (VH.mv (fun w' hS => Rn.load Tryz.isAgg49 rfl ((bk_4.keep hS).cell rfl)) rfl rfl rfl rfl (VH.mv (fun w' hS => Rn.field Tryz.underlying119 rfl Tryz.sizeOf3 rfl rfl rfl) rfl rfl rfl rfl (VH.mv (fun w' hS => Rn.load Tryz.isAgg3 rfl ((b4_4.keep hS).cell rfl)) rfl rfl rfl rfl ?_)))))))
  refine VH.mv (fun w' hS => Rn.move rfl) rfl rfl rfl rfl ?_
  refine VH.mv (fun w' hS => Rn.add rfl rfl (by rw [IntKind.wrap_i64]; omega)) rfl rfl rfl rfl ?_
  refine VH.mv (fun w' hS => Rn.move rfl) rfl rfl rfl rfl (VH.mv (fun w' hS => Rn.field Tryz.underlying119 rfl Tryz.sizeOf3 rfl rfl rfl) rfl rfl rfl rfl (VH.mv (fun w' hS => Rn.load Tryz.isAgg3 rfl ((b4_4.keep hS).cell rfl)) rfl rfl rfl rfl ?_))
  refine VH.mv (fun w' hS => Rn.mul rfl rfl (by rw [IntKind.wrap_i64]; omega)) rfl rfl rfl rfl ?_
  refine VH.mv (fun w' hS => Rn.add rfl rfl (by rw [IntKind.wrap_i64]; omega)) rfl rfl rfl rfl ?_
  refine VH.mv (fun w' hS => Rn.indexS Tryz.underlying49 Tryz.sizeOf50 rfl rfl (row_4.sl.ne (by omega)) (by omega) (by omega)) rfl rfl rfl rfl (VH.mv (fun w' hS => Rn.load Tryz.isAgg50 rfl ((row_4.keep hS).sl.getC (by omega) (by omega))) rfl rfl rfl rfl (VH.mv (fun w' hS => Rn.indexS Tryz.underlying49 Tryz.sizeOf50 rfl rfl (af_4.sl.ne (by omega)) (by omega) (by omega)) rfl rfl rfl rfl (VH.done (VO.wk0 (Wk.putC Tryz.sizeOf50 rfl rfl (by omega) af_4) rfl rfl ?_))))
  rintro _ w5 ⟨o5, c5, z5⟩
  have y5 := o5.lt
  refine VO.nil (VQ.noPanic (VQ.block_normal (VQ.then_code (VC.region ?_))))
  refine VO.mv (Rn.add rfl rfl (by rw [IntKind.wrap_i64]; omega)) rfl rfl rfl ?_
  refine VO.mv (Rn.move rfl) rfl rfl rfl (VO.nil ?_)
  refine VQ.round (j + 1) (by first | omega | (dsimp only; omega)) ?_ ⟨rfl, rfl, rfl, rfl, rfl, rfl, trivial⟩
  have b4_5 := b4_4.to c5 (by first | exact id | omega)
  have bk_5 := bk_4.to c5 (by first | exact id | omega)
  have row_5 := row_4.to c5 (by first | exact fun _ _ _ _ => id | (intro q h1 h2 hx h3; omega))
  have CH_4 := CH_3.and c4
  have CH_5 : Ch (At r) w w5 := CH_4.then c5 (by intro q h1 h2; rcases h2 with h2 | h2 <;> first | exact h2 | (exfalso; omega) | omega)
  exact ⟨(by omega), (by omega), b4_5, bk_5, row_5, (by have := o5; rw [Int.toNat_natCast, show ((d : Int) + (i : Int) + (j : Int) * (ju : Int)).toNat = d + i + j * ju by omega] at this; rw [← rowF_set (by omega)]; exact this), CH_5⟩
 ·
  refine VC.exit (VQ.then_exit (VQ.then_exit (VQ.block_exit (VQ.then_code (VC.seq (VC.region (VO.mv (Rn.move rfl) rfl rfl rfl ?_)))))))
  refine VO.wk (Wk.call Tryz.call120 rfl (fly_Fly _ _ _ _ hnn _ _ af_3.sl)) rfl rfl rfl ?_
  rintro _ w6 ⟨q6, zs6, rfl, F6, sl6, e6, c6⟩
  have z6 := c6.size
  have ej : j = nn := by omega
  rw [ej, rowF_all, List.map_map] at F6
  refine VO.mv (Rn.move rfl) rfl rfl rfl (VO.mv (Rn.extract rfl rfl) rfl rfl rfl (VO.mv (Rn.extract rfl rfl) rfl rfl rfl (VO.mv (Rn.assign rfl) rfl rfl rfl (VO.mv (Rn.assign rfl) rfl rfl rfl (VO.nil (VQ.then_code (VC.seq ?_)))))))
  refine VC.seq (VC.region (VO.mv (Rn.move rfl) rfl rfl rfl (VO.mv (Rn.nil_neq_nil Tryz.underlying29 rfl) rfl rfl rfl (VO.nil (VQ.then_code (VC.cond_false rfl (VC.skip ?_)))))))
  refine VQ.then_code (VC.seq (VC.region (VO.mv (Rn.move rfl) rfl rfl rfl (VO.mv (Rn.len Tryz.underlying49 rfl) rfl rfl rfl (VO.mv (Rn.move rfl) rfl rfl rfl (VO.nil (VQ.then_code ?_)))))))
  refine VC.block ?_
  have b4_6 := b4_3.keep c6
  have bk_6 := bk_3.keep c6
  have row_6 := row_3.keep c6
  have CH_6 := CH_3.and c6
  refine VC.loopS (σ := Nat × List CB) (fun (j, ys) => [(0, .pointer (some ⟨m, 0, none⟩)), (2, .int .i64 i), (4, .pointer (some ⟨p1, 0, none⟩)), (46, .slice (some ⟨q6, 0, none⟩) nn nn), (47, .int .i64 nn), (48, .int .i64 j)]) (fun (j, ys) w' => j ≤ nn ∧ ys.map cx = putN (xs.map cx) (d + i) ju (zs6.map cx) j ∧ w6.heap.size ≤ w'.heap.size ∧ Bk w' p1 #[.int .i64 op, .int .i64 d, .int .i64 sr, .int .i64 ju, .int .i64 co, .int .i64 nn, .int .i64 kk] 119 ∧ Bk w' m (macV b N SA sc bs CA ac dn st at_) 121 ∧ CR 50 w' r CA N N ys ∧ SlR (Is q6) w' (some ⟨q6, 0, none⟩) nn 1 (zs6.map cxV) ∧ Ch (At r) w w') (fun (j, ys) => nn - j) (0, xs) ?_ ⟨rfl, rfl, rfl, rfl, rfl, rfl, trivial⟩ ?_
  · exact ⟨(by omega), (by rfl), (Nat.le_refl _), b4_6, bk_6, row_6, sl6, CH_6⟩
  rintro ⟨j, ys⟩ w7 ⟨hj, hy, hsz7, b4_7, bk_7, row_7, sl_7, CH_7⟩
  show VC _ _ _ _ [(0, .pointer (some ⟨m, 0, none⟩)), (2, .int .i64 i), (4, .pointer (some ⟨p1, 0, none⟩)), (46, .slice (some ⟨q6, 0, none⟩) nn nn), (47, .int .i64 nn), (48, .int .i64 j)] _
  have e0 : ((j * ju : Nat) : Int) = (j : Int) * (ju : Int) := by push_cast; rfl
  have hbj := hb j
  refine VC.seq (VC.region (VO.mv (Rn.lss rfl rfl) rfl rfl rfl (VO.nil (VQ.then_code (VC.seq (VC.cond_if rfl (fun hc2 => ?_) (fun hc2 => ?_)))))))
  ·
   refine VC.skip (VQ.then_code (VC.seq (VC.block (VC.seq (VC.region (VO.mv (Rn.move rfl) rfl rfl rfl (VO.mv (Rn.indexS Tryz.underlying49 Tryz.sizeOf50 rfl rfl (sl_7.ne (by omega)) (by omega) (by omega)) rfl rfl rfl ?_)))))))
   refine VO.mv (Rn.load Tryz.isAgg50 rfl (sl_7.getC (by omega) (by omega))) rfl rfl rfl (VO.mv (Rn.assign rfl) rfl rfl rfl (VO.mv (Rn.assign rfl) rfl rfl rfl (VO.nil (VQ.then_code (VC.draws 15 [(0, true), (1, true), (2, true), (3, true), (4, true), (5, true), (6, true), (7, true), (8, true), (9, true), (10, true), (11, true), (12, true), (13, true), (14, true)] (fun w1 w' => Ch (No) w1 w') mixed (by kernel_rfl) (fun _ _ => Ch.refl _ _) ?_)))))
   intro w8 D8
   have c8 := Ch.of_drew D8; have z8 := c8.size
   have bk_8 := bk_7.keep c8
   have row_8 := row_7.keep c8
   have b4_8 := b4_7.keep c8
   have sl_8 := sl_7.keep c8
   refine VH.mv (fun w' hS => Rn.move rfl) rfl rfl rfl rfl (VH.mv (fun w' hS => Rn.nilCheck rfl) rfl rfl rfl rfl (VH.mv (fun w' hS => Rn.field Tryz.underlying121 rfl Tryz.sizeOf49 rfl rfl rfl) rfl rfl rfl rfl (VH.mv (fun w' hS => Rn.load Tryz.isAgg49 rfl ((bk_8.keep hS).cell rfl)) rfl rfl rfl rfl (VH.mv (fun w' hS => Rn.field Tryz.underlying119 rfl Tryz.sizeOf3 rfl rfl rfl) rfl rfl rfl rfl (VH.mv (fun w' hS => Rn.load Tryz.isAgg3 rfl ((b4_8.keep hS).cell rfl)) rfl rfl rfl rfl (VH.mv (fun w' hS => Rn.move rfl) rfl rfl rfl rfl ?_))))))
   refine VH.mv (fun w' hS => Rn.add rfl rfl (by rw [IntKind.wrap_i64]; omega)) rfl rfl rfl rfl ?_
   refine VH.mv (fun w' hS => Rn.move rfl) rfl rfl rfl rfl (VH.mv (fun w' hS => Rn.field Tryz.underlying119 rfl Tryz.sizeOf3 rfl rfl rfl) rfl rfl rfl rfl (VH.mv (fun w' hS => Rn.load Tryz.isAgg3 rfl ((b4_8.keep hS).cell rfl)) rfl rfl rfl rfl ?_))
   refine VH.mv (fun w' hS => Rn.mul rfl rfl (by rw [IntKind.wrap_i64]; omega)) rfl rfl rfl rfl ?_
   refine VH.mv (fun w' hS => Rn.add rfl rfl (by rw [IntKind.wrap_i64]; omega)) rfl rfl rfl rfl ?_
   refine VH.mv (fun w' hS => Rn.move rfl) rfl rfl rfl rfl (VH.mv (fun w' hS => Rn.indexS Tryz.underlying49 Tryz.sizeOf50 rfl rfl (row_8.sl.ne (by omega)) (by omega) (by omega)) rfl rfl rfl rfl (VH.done (VO.wk0 (Wk.putC Tryz.sizeOf50 rfl rfl (by omega) row_8) rfl rfl ?_)))
   rintro _ w9 ⟨o9, c9, z9⟩
   have y9 := o9.lt
   refine VO.nil (VQ.noPanic (VQ.block_normal (VQ.then_code (VC.region ?_))))
   refine VO.mv (Rn.add rfl rfl (by rw [IntKind.wrap_i64]; omega)) rfl rfl rfl ?_
   refine VO.mv (Rn.move rfl) rfl rfl rfl (VO.nil ?_)
   refine VQ.round (j + 1, ys.set (d + i + j * ju) (zs6.getD j (0, 0))) (by first | omega | (dsimp only; omega)) ?_ ⟨rfl, rfl, rfl, rfl, rfl, rfl, trivial⟩
   have b4_9 := b4_8.to c9 (by first | exact id | omega)
   have bk_9 := bk_8.to c9 (by first | exact id | omega)
   have sl_9 := sl_8.to c9 (by first | exact fun _ _ _ _ => id | (intro q h1 h2 hx h3; omega))
   have CH_8 := CH_7.and c8
   have CH_9 : Ch (At r) w w9 := CH_8.then c9 (by intro q h1 h2; rcases h2 with h2 | h2 <;> first | exact h2 | (exfalso; omega) | omega)
   exact ⟨(by omega), (by rw [List.map_set, hy]; show _ = (putN _ _ _ _ _).set _ _; rw [map_getD]), (by omega), b4_9, bk_9, (by have := o9; rw [Int.toNat_natCast, show ((d : Int) + (i : Int) + (j : Int) * (ju : Int)).toNat = d + i + j * ju by omega] at this; exact this), sl_9, CH_9⟩
  ·
   refine VC.exit (VQ.then_exit (VQ.then_exit (VQ.block_exit (VQ.end0 rfl (Ret.mk ?_)))))
   have e : j = nn := by omega
   rw [e, F6] at hy
   exact ⟨rfl, _, ⟨bk_7, row_7, ne⟩, by rw [hy]; simp only [map_getD]; rfl, CH_7⟩
def tblF (op : Int) : FuncId := if op = 1 then 90 else if op = 5 then 94 else 95
theorem call_tbl {op : Int} (h : op = 1 ∨ op = 5 ∨ op = 6) (args : Array Value) (w : World) : (callFunc (tblF op) args).run Tryz.prog w = .ok (.enter (tblF op) args) w := by
  rcases h with rfl | rfl | rfl
  · exact Tryz.call90 args w
  · exact Tryz.call94 args w
  · exact Tryz.call95 args w
theorem act_ok (m r : Nat) (b : Bld) (N : Nat) (SA : Option Addr) (sc : Nat) (bs : ByteArray) (CA : Option Addr) (ac dn st at_ : Int) (xs : List CB) (w : World) (mr : MacR w m r b N SA sc bs CA ac dn st at_ xs) (hN : N ≤ 1000000) (s : Stp) (i : Nat) (h : StepOk s N) (hi : (i : Int) < s.count) :
    Calls Tryz.prog (tblF s.op) #[.pointer (some ⟨m, 0, none⟩), .agg #[.int .i64 s.op, .int .i64 s.dst, .int .i64 s.src, .int .i64 s.jump, .int .i64 s.count, .int .i64 s.n, .int .i64 s.k], .int .i64 i] w (Ret fun v w' => v = .tuple #[] ∧ ∃ ys, MacR w' m r b N SA sc bs CA ac dn st at_ ys ∧ ys.map cx = actC s i (xs.map cx) ∧ Ch (At r) w w') := by
  obtain ⟨op, dst, src, jump, count, n, k⟩ := s
  obtain ⟨h1, h1', h2, h3, h4, h4', h5⟩ := h
  simp only at h1 h1' h2 h3 h4 h4' h5 hi
  obtain ⟨d, rfl⟩ := nat_of h2
  obtain ⟨u, rfl⟩ := nat_of h3
  obtain ⟨v, rfl⟩ := nat_of (show 0 ≤ jump by omega)
  obtain ⟨c, rfl⟩ := nat_of (show 0 ≤ count by omega)
  have hm : ∀ a e : Nat, a ≤ e → a * v ≤ e * v := fun a e h => Nat.mul_le_mul_right v h
  rcases h5 with ⟨rfl, h6, h7⟩ | ⟨rfl, h6, h7⟩ | ⟨rfl, h6, h8, h9, h7⟩
  · have e : ((c : Int) - 1) * (v : Int) = (((c - 1) * v : Nat) : Int) := by push_cast [show 1 ≤ c by omega]; rfl
    rw [e] at h7
    have := hm i (c - 1) (by omega)
    exact act_gather m r b N SA sc bs CA ac dn st at_ xs w mr hN 1 c n k d u v i (by omega) (by omega)
  · obtain ⟨nn, rfl⟩ := nat_of (show 0 ≤ n by omega)
    have e : ((nn : Int) - 1) * (v : Int) = (((nn - 1) * v : Nat) : Int) := by push_cast [show 1 ≤ nn by omega]; rfl
    rw [e] at h7
    exact act_fly m r b N SA sc bs CA ac dn st at_ xs w mr hN 5 u c k d v nn i (by omega) (fun q hq => by have := hm q (nn - 1) (by omega); omega)
  · obtain ⟨nn, rfl⟩ := nat_of (show 0 ≤ n by omega)
    have e : ((nn : Int) - 1) * (v : Int) = (((nn - 1) * v : Nat) : Int) := by push_cast [show 1 ≤ nn by omega]; rfl
    rw [e] at h7
    have hn : nn = 1 ∨ nn = 2 ∨ nn = 4 := by omega
    exact act_direct m r b N SA sc bs CA ac dn st at_ xs w mr hN 6 c k d u v nn i (by omega) (by omega) (fun a => by rcases hn with rfl | rfl | rfl <;> omega) (by omega) (by omega) (by omega) (fun j hj => by have := hm j (nn - 1) (by omega); omega) (by omega)
end Go.Tm
