/- Lemmas of this claim, joined by program. Walks of functions: a plan of 1, 2 or 4 by New; cosine transforms: one element; the sum; the law of one element. The law CosineOne walks. The document's roots and cosine sums in plain Lean: the same floats as the program's. Walks of functions: the document's roots of unity and its cosine sum. Conditions: each lemma names its own. -/
import Derived.Test.YtbmhbmlgndhpgaaGreatDoorA15
import Derived.Test.YtbmhbmlgndhpgaaGreatDoorA10
import Derived.Test.YtbmhbmlgndhpgaaGreatDoorA14
set_option linter.all false
namespace Go.Tm
open Go.RowKit Go.Proofs
theorem plan_NewL (n : Nat) (hn : n = 1 ∨ n = 2 ∨ n = 4) (w : World) (st : StT w) (tab : TabB w.heap.size w) (hG : 24 ≤ w.heap.size) :
    Calls Tryz.prog 28 #[.int .i64 n] w (Ret fun v w' => ∃ p P, v = .tuple #[.pointer (some ⟨p, 0, none⟩), .nilIface] ∧ PlnR w.heap.size w'.heap.size w' p P ∧ Leaf n P.b ∧ Ch No w w') := by
  refine (plan_New n (by omega) (by omega) (hasP24 n (by omega) (by omega)) w st tab hG).mono ?_
  rintro e w' ⟨v, rfl, p, rr, rfl, hr, h1, h2⟩
  exact ⟨_, rfl, p, _, rfl, h1, best_leaf hn hr, h2⟩
abbrev UV (i : Int) : Value := .int .u64 i
theorem SlR.getU {S : Nat → Prop} {w : World} {A : Option Addr} {l : Nat} {xs : List Int} (h : SlR S w A l 1 (xs.map UV)) {i : Int} (h0 : 0 ≤ i) (h1 : i < l) : w.cell? ((sAddr A).add (i.toNat * 1)) = some (.int .u64 (xs.getD i.toNat 0)) := SlR.get (f := UV) h 0 h0 h1
def flO (bs : List Int) : List Nat := bs.map Int.toNat
theorem flO_take {bs : List Int} {j : Nat} (h : j < bs.length) : ((flO bs).take (j + 1)).map flV = ((flO bs).take j).map flV ++ [.float .f64 (bs.getD j 0).toNat] := by
  have h2 : j < (flO bs).length := by simpa [flO] using h
  rw [List.take_add_one, List.map_append, List.getElem?_eq_getElem h2]
  simp [flO, List.getD, h]
def sumLF (X : Nat → Fl) : Nat → Fl
  | 0 => X 0
  | j + 1 => fadd (sumLF X j) (X (j + 1))
abbrev XF (xs : List Nat) : Nat → Fl := fun i => cn (xs.getD i 0)
structure SumI (X : Nat → Fl) (n k j : Nat) (zs : List Nat) : Prop where
  len : zs.length = n
  zero : k = 0 → 0 < j → cn (zs.getD 0 0) = sumLF X (j - 1)
  past : 0 < k → cn (zs.getD 0 0) = sumLF X (n - 1)
theorem SumI.init (X : Nat → Fl) (n : Nat) : SumI X n 0 0 (List.replicate n 0) := ⟨by simp, fun _ h => absurd h (by omega), fun h => absurd h (by omega)⟩
theorem SumI.round {X : Nat → Fl} {n k j : Nat} {zs : List Nat} (h : SumI X n k j zs) (hj : j = n) (hn : 0 < n) : SumI X n (k + 1) 0 zs := by
  subst hj
  refine ⟨h.len, fun h => absurd h (by omega), fun _ => ?_⟩
  by_cases e : k = 0
  · exact h.zero e hn
  · exact h.past (by omega)
theorem SumI.step {X : Nat → Fl} {n k j : Nat} {zs : List Nat} {a : Nat} (h : SumI X n k j zs) (hn : 0 < n) (ha : k = 0 → cn a = sumLF X j) : SumI X n k (j + 1) (zs.set k a) := by
  refine ⟨by rw [List.length_set]; exact h.len, fun e _ => ?_, fun e => ?_⟩
  · subst e
    rw [getD_set (by rw [h.len]; exact hn), if_pos rfl]; exact ha rfl
  · have : (zs.set k a).getD 0 0 = zs.getD 0 0 := by
      simp only [List.getD, List.getElem?_set]
      rw [if_neg (by omega)]
    rw [this]; exact h.past e
theorem SumI.val1 {X : Nat → Fl} {n k j : Nat} {zs : List Nat} {a p c : Nat} (h : SumI X n k j zs) (hj : 0 < j) (hX : FlOk (X j)) (fa : cn a = fop .add (cn (zs.getD k 0)) (cn p)) (fp : cn p = fop .mul (X j) (cn c)) (fc : k = 0 → cn c = one) : k = 0 → cn a = sumLF X j := fun e => by
  have h0 := h.zero e hj
  have hc := fc e
  subst e
  rw [fa, fp, hc, h0]
  obtain ⟨i, rfl⟩ : ∃ i, j = i + 1 := ⟨j - 1, by omega⟩
  show fop .add (sumLF X i) (fop .mul (X (i + 1)) one) = fop .add (sumLF X i) (X (i + 1))
  rw [show fop .mul (X (i + 1)) one = X (i + 1) from fmul_one hX]
theorem SumI.val0 {X : Nat → Fl} {k j a c : Nat} (hj : j = 0) (hX : FlOk (X j)) (fp : cn a = fop .mul (X j) (cn c)) (fc : k = 0 → cn c = one) : k = 0 → cn a = sumLF X j := fun e => by
  rw [fp, fc e]
  subst hj
  exact fmul_one hX
theorem pair_zero (n : Nat) (hn : 0 < n) : pairF n 0 = (one, fl0) := by
  have e : pair0 n 0 = (one, fl0) := by
    unfold pair0
    simp [eighF]
  unfold pairF
  rw [e, Nat.mul_zero, Nat.zero_div]
  show (pzF one, pzF fl0) = _
  kernel_rfl
theorem fwd_one {b : Bld} (h : Leaf 1 b) (z : Cx) : fwdC b [z] = [z] := by
  cases h
  rw [fwd_direct (n := 1) (zs := [z]) rfl]; rfl
theorem neg_neg (x : Fl) : fneg (fneg x) = x := by
  cases x with
  | none => rfl
  | some b => show some ((b ^^^ 2 ^ 63) ^^^ 2 ^ 63) = _; rw [Nat.xor_assoc, Nat.xor_self, Nat.xor_zero]
theorem inv_one {b : Bld} (h : Leaf 1 b) (z : Cx) (h1 : FlOk z.1) : (invC b [z]).map (·.1) = [z.1] := by
  unfold invC
  simp only [List.map_cons, List.map_nil, fwd_one h]
  rw [h.ln]
  show [fquo z.1 (fi ((1 : Nat) : Int))] = _
  rw [show ((1 : Nat) : Int) = 1 from rfl, fi_one, fquo_one h1]
theorem map_one {α β : Type} {f : α → β} {l : List α} {y : β} (h : l.map f = [y]) : ∃ x, l = [x] ∧ f x = y := by
  match l, h with
  | [x], h => exact ⟨x, rfl, by simpa using h⟩
def bitF (b : Nat) : Nat := if 2 ^ 52 * (2 ^ 11 - 1) < b % 2 ^ 63 then 9221120237041090560 else b
theorem bitF_same {a b : Nat} (h : cn a = cn b) : bitF a = bitF b := by
  rw [cn_eq, cn_eq] at h
  unfold bitF
  by_cases p : 2 ^ 52 * (2 ^ 11 - 1) < a % 2 ^ 63
  · by_cases q : 2 ^ 52 * (2 ^ 11 - 1) < b % 2 ^ 63
    · rw [if_pos p, if_pos q]
    · rw [if_pos p, if_neg q] at h; cases h
  · by_cases q : 2 ^ 52 * (2 ^ 11 - 1) < b % 2 ^ 63
    · rw [if_neg p, if_pos q] at h; cases h
    · rw [if_neg p, if_neg q] at h; injection h with h; subst h; rfl
section
variable {P : Program} {n : Fr} {k : K} {w : World} {d : Option Tmp} {ty : TypeId} {pos : String} {aft : Array Edge} {g : Option (Nat × Bool)}
theorem Rn.fromf {f : FuncId} {fn : Func} {x : Operand} {ts : Array TypeId} {m : Nat} (hf : P.funcs[f]? = some fn) (hname : (fn.name == "runtime.NumGoroutine") = false) (hb : fn.body.isNone = true) (hn : Extern.findNext fn = none)
    (he : Extern.find fn = some Extern.MathFloatBits.float64bits) (hx : ev k x = some (.float .f64 m)) :
    Rn P n k w { dst := d, op := .call { callee := .value (.func f), args := #[x], argTypes := ts }, type := ty, pos := pos, after := aft, guard := g } (.int .u64 m) :=
  fun ac ha => by
    have h1 : ¬ fn.name = "runtime.NumGoroutine" := by simpa using hname
    have h2 : fn.body = none := by simpa using hb
    have h3 : ac.eval (.func f) = .func (.func f) #[] #[] := rfl
    have h4 : (Extern.MathFloatBits.float64bits #[.float .f64 m]).run P w = .ok (.int .u64 m) w := rfl
    simp [execOp, resolve, h3, Deferred.ofValue, invoke, callFunc, hf, h1, h2, hn, he, ha.eval hx, h4]
end
def fst1 (x j : Nat) : List CB := if j = 0 then [(0, 0)] else [(x, 0)]
theorem feq_const {a b : Nat} (h : cn a = cn b) (hb : cn b = some b) (he : (Ieee.double.order b b == some .eq) = true) : (Ieee.double.order a b == some .eq) = true := by
  rw [hb] at h
  unfold cn at h
  split at h
  · cases h
  · injection h with h; rw [h]; exact he
set_option maxRecDepth 100000 in
theorem inf36w53 : Inf Tryz.prog 36 (.float .f64 0) 1 8 := ⟨Tryz.t36, Tryz.type36, rfl, rfl, rfl⟩
set_option maxRecDepth 100000 in
theorem inf50w53 : Inf Tryz.prog 50 (.complex .f64 0 0) 1 16 := ⟨Tryz.t50, Tryz.type50, rfl, rfl, rfl⟩
set_option maxRecDepth 100000 in
theorem ref_Bits (a : Nat) (w : World) :
  Calls Tryz.prog 37 #[.float .f64 a] w (Ret (fun v w' => v = .int .u64 (bitF a : Nat) ∧ w = w')) := by
 refine calls_of_VC (args := [.float .f64 a]) Tryz.func37 rfl Tryz.ntmps37 rfl (VC.seq (VC.region (VO.mv (Rn.assign rfl) rfl rfl rfl (VO.nil (VQ.then_code (VC.seq (VC.region ?_)))))))
 refine VO.mv (Rn.move rfl) rfl rfl rfl (VO.mv (Rn.fromf Tryz.func46 (by kernel_rfl) rfl (by kernel_rfl) (by kernel_rfl) rfl) rfl rfl rfl (VO.mv (Rn.assign rfl) rfl rfl rfl (VO.nil (VQ.then_code (VC.seq (VC.seq (VC.region ?_)))))))
 refine VO.mv (Rn.move rfl) rfl rfl rfl (VO.mv (Rn.rem0 rfl rfl (by omega) (by omega)) rfl rfl rfl (VO.mv (Rn.gtr rfl rfl) rfl rfl rfl (VO.nil (VQ.then_code (VC.cond_if rfl (fun hc1 => ?_) (fun hc1 => ?_))))))
 ·
  refine VC.seq (VC.region (VO.mv (Rn.assign rfl) rfl rfl rfl (VO.nil (VQ.then_code (VC.ret (VQ.then_ret (VQ.ret1 rfl rfl ?_)))))))
  refine Ret.mk ?_
  exact ⟨by unfold bitF; rw [if_pos (by omega)]; rfl, rfl⟩
 ·
  refine VC.skip (VQ.then_code (VC.seq (VC.region (VO.mv (Rn.move rfl) rfl rfl rfl (VO.mv (Rn.assign rfl) rfl rfl rfl (VO.nil (VQ.then_code ?_)))))))
  refine VC.ret (VQ.ret1 rfl rfl (Ret.mk ?_))
  exact ⟨by unfold bitF; rw [if_neg (by omega)], rfl⟩
set_option maxRecDepth 100000 in
theorem ref_SameT (a b : Nat) (h : cn a = cn b) (w : World) :
  Calls Tryz.prog 27 #[.float .f64 a, .float .f64 b] w (Ret (fun v w' => v = .bool true ∧ w = w')) := by
 have he := bitF_same h
 refine calls_of_VC (args := [.float .f64 a, .float .f64 b]) Tryz.func27 rfl Tryz.ntmps27 rfl (VC.seq (VC.region (VO.mv (Rn.assign rfl) rfl rfl rfl (VO.nil (VQ.then_code (VC.seq (VC.region ?_)))))))
 refine VO.mv (Rn.move rfl) rfl rfl rfl (VO.wk (Wk.call Tryz.call37 rfl (ref_Bits _ _)) rfl rfl rfl ?_)
 rintro _ _ ⟨rfl, rfl⟩
 refine VO.mv (Rn.move rfl) rfl rfl rfl (VO.wk (Wk.call Tryz.call37 rfl (ref_Bits _ _)) rfl rfl rfl ?_)
 rintro _ _ ⟨rfl, rfl⟩
 refine VO.mv (Rn.eqlT rfl rfl (by rw [he])) rfl rfl rfl (VO.mv (Rn.assign rfl) rfl rfl rfl (VO.nil (VQ.then_code (VC.ret (VQ.ret1 rfl rfl (Ret.mk ?_))))))
 exact ⟨rfl, rfl⟩
set_option maxRecDepth 100000 in
theorem roots_Cos (n : Nat) (a : Int) (q : Nat) (hn : 1 ≤ n) (hn2 : n ≤ 4194304) (ha : -1000000000000 ≤ a ∧ a ≤ 1000000000000) (hq : a % (n : Int) = (q : Int)) (w : World) :
  Calls Tryz.prog 15 #[.int .i64 n, .int .i64 a] w (Ret (fun v w' => ∃ x, v = .tuple #[.float .f64 x, .nilIface] ∧ cn x = (pairF n q).1 ∧ Ch No w w')) := by
 refine calls_of_VC (args := [.int .i64 n, .int .i64 a]) Tryz.func15 rfl Tryz.ntmps15 rfl (VC.seq (VC.region (VO.mv (Rn.assign rfl) rfl rfl rfl (VO.mv (Rn.assign rfl) rfl rfl rfl (VO.nil (VQ.then_code (VC.seq ?_)))))))
 refine VC.region (VO.mv (Rn.move rfl) rfl rfl rfl (VO.mv (Rn.move rfl) rfl rfl rfl (VO.wk (Wk.call Tryz.call24 rfl (roots_pairG _ _ q (by omega) (by omega) (by omega) hq _)) rfl rfl rfl ?_)))
 rintro _ w1 ⟨x1, y1, rfl, F1, c1⟩
 have z1 := c1.size
 refine VO.mv (Rn.move rfl) rfl rfl rfl (VO.mv (Rn.extract rfl rfl) rfl rfl rfl (VO.mv (Rn.extract rfl rfl) rfl rfl rfl (VO.mv (Rn.extract rfl rfl) rfl rfl rfl (VO.mv (Rn.assign rfl) rfl rfl rfl (VO.mv (Rn.assign rfl) rfl rfl rfl (VO.mv (Rn.assign rfl) rfl rfl rfl (VO.nil ?_)))))))
 refine VQ.then_code (VC.seq (VC.region (VO.mv (Rn.move rfl) rfl rfl rfl (VO.mv (Rn.move rfl) rfl rfl rfl (VO.mv (Rn.assign rfl) rfl rfl rfl (VO.mv (Rn.assign rfl) rfl rfl rfl (VO.nil ?_)))))))
 refine VQ.then_code (VC.ret (VQ.ret2 rfl rfl rfl (Ret.mk ?_)))
 have CH_1 := (Ch.refl (No) w).and c1
 exact ⟨_, rfl, congrArg (·.1) F1, CH_1⟩
set_option maxHeartbeats 1000000 in
set_option maxRecDepth 100000 in
theorem cos_Sum (SX : Nat → Prop) (X : Option Addr) (n xc : Nat) (xs : List Nat) (w : World) (sx : SlR SX w X n 1 (xs.map flV)) (hX : ∀ q, SX q → q < w.heap.size) (hn : 1 ≤ n ∧ n ≤ 300) (hok : ∀ i, FlOk (XF xs i)) :
  Calls Tryz.prog 7 #[.slice X n xc] w (Ret (fun v w' => ∃ q zs, v = .tuple #[.slice (some ⟨q, 0, none⟩) n n, .nilIface] ∧ FR 36 w' (q + 1) (some ⟨q, 0, none⟩) n n zs ∧ cn (zs.getD 0 0) = sumLF (XF xs) (n - 1) ∧ w.heap.size ≤ q ∧ Ch No w w')) := by
 refine calls_of_VC (args := [.slice X n xc]) Tryz.func7 rfl Tryz.ntmps7 rfl (VC.seq (VC.region (VO.mv (Rn.assign rfl) rfl rfl rfl (VO.mv (Rn.assign rfl) rfl rfl rfl (VO.nil (VQ.then_code (VC.seq ?_)))))))
 refine VC.region (VO.mv (Rn.move rfl) rfl rfl rfl (VO.mv (Rn.len Tryz.underlying24 rfl) rfl rfl rfl (VO.mv (Rn.assign rfl) rfl rfl rfl (VO.nil (VQ.then_code (VC.seq (VC.seq ?_)))))))
 refine VC.region (VO.mv (Rn.move rfl) rfl rfl rfl (VO.mv (Rn.eql rfl rfl) rfl rfl rfl (VO.mv (Rn.move rfl) rfl rfl rfl ?_)))
 refine VO.orJoin (b := _) 3 16 19 rfl (fun hc1 Jhc1 => by
   refine VO.skip rfl rfl rfl (VO.skip rfl rfl rfl (VO.mv (Rn.pick_true rfl rfl) rfl rfl rfl ?_))
   exact (VO.fg rfl (VO.fg rfl Jhc1))) (fun hc1 Jhc1 => by
   try simp only [Bool.and_eq_true, Bool.or_eq_true, Bool.not_eq_true', Bool.not_eq_false', Bool.and_eq_false_iff, Bool.or_eq_false_iff, decide_eq_true_eq, decide_eq_false_iff_not] at hc1
   refine VO.mv (Rn.move rfl) rfl rfl rfl (VO.mv (Rn.gtr rfl rfl) rfl rfl rfl (VO.mv (Rn.pick_false rfl rfl) rfl rfl rfl ?_))
   exact (VO.fg rfl (VO.fg rfl Jhc1))) ?_
 refine VO.nil (VQ.then_code (VC.cond rfl (fun hc2 => ?_) (fun hc2 => ?_)))
 ·
  try simp only [Bool.and_eq_true, Bool.or_eq_true, Bool.not_eq_true', Bool.not_eq_false', Bool.and_eq_false_iff, Bool.or_eq_false_iff, decide_eq_true_eq, decide_eq_false_iff_not] at hc2
  omega
 ·
  try simp only [Bool.and_eq_true, Bool.or_eq_true, Bool.not_eq_true', Bool.not_eq_false', Bool.and_eq_false_iff, Bool.or_eq_false_iff, decide_eq_true_eq, decide_eq_false_iff_not] at hc2
  refine VC.skip (VQ.then_code (VC.seq (VC.region (VO.mv (Rn.move rfl) rfl rfl rfl (VO.wk (Wk.mkF Tryz.underlying24 inf36w53 rfl rfl (by omega) (by omega) (by omega)) rfl rfl rfl ?_)))))
  rintro _ w1 ⟨p1, rfl, o1, c1, e1, z1⟩
  refine VO.mv (Rn.assign rfl) rfl rfl rfl (VO.nil (VQ.then_code (VC.seq (VC.seq (VC.region (VO.mv (Rn.move rfl) rfl rfl rfl (VO.mv (Rn.len Tryz.underlying24 rfl) rfl rfl rfl ?_)))))))
  refine VO.mv (Rn.move rfl) rfl rfl rfl (VO.nil (VQ.then_code (VC.block ?_)))
  have sx_1 := sx.keep c1
  have CH_1 := (Ch.refl (No) w).and c1
  refine VC.loopS (σ := Nat × List Nat) (fun (k, zs) => [(0, .slice X n xc), (4, .int .i64 n), (5, .slice (some ⟨p1, 0, none⟩) n n), (24, .int .i64 n), (25, .int .i64 k)]) (fun (k, zs) w' => k ≤ n ∧ SumI (XF xs) n k 0 zs ∧ w1.heap.size ≤ w'.heap.size ∧ FR 36 w' (p1 + 1) (some ⟨p1, 0, none⟩) n n zs ∧ SlR SX w' X n 1 (xs.map flV) ∧ Ch (No) w w') (fun (k, zs) => n - k) (0, List.replicate n 0) ?_ ⟨rfl, rfl, rfl, rfl, rfl, trivial⟩ ?_
  · exact ⟨(by omega), (SumI.init _ _), (Nat.le_refl _), o1, sx_1, CH_1⟩
  rintro ⟨k, zs⟩ w2 ⟨hk, hi, hsz2, row_2, sx_2, CH_2⟩
  show VC _ _ _ _ [(0, .slice X n xc), (4, .int .i64 n), (5, .slice (some ⟨p1, 0, none⟩) n n), (24, .int .i64 n), (25, .int .i64 k)] _
  refine VC.seq (VC.region (VO.mv (Rn.lss rfl rfl) rfl rfl rfl (VO.nil (VQ.then_code (VC.seq (VC.cond_if rfl (fun hc3 => ?_) (fun hc3 => ?_)))))))
  ·
   refine VC.skip (VQ.then_code (VC.seq (VC.block (VC.seq (VC.region (VO.mv (Rn.move rfl) rfl rfl rfl (VO.mv (Rn.assign rfl) rfl rfl rfl ?_)))))))
   refine VO.nil (VQ.then_code (VC.seq (VC.region (VO.mv (Rn.move rfl) rfl rfl rfl (VO.mv (Rn.len Tryz.underlying24 rfl) rfl rfl rfl (VO.mv (Rn.move rfl) rfl rfl rfl (VO.nil ?_)))))))
   refine VQ.then_code (VC.block (VC.loopS (σ := Nat × List Nat) (fun (j, zs2) => [(0, .slice X n xc), (4, .int .i64 n), (5, .slice (some ⟨p1, 0, none⟩) n n), (6, .int .i64 k), (24, .int .i64 n), (25, .int .i64 k), (28, .slice X n xc), (29, .int .i64 n), (30, .int .i64 j)]) (fun (j, zs2) w' => j ≤ n ∧ SumI (XF xs) n k j zs2 ∧ w2.heap.size ≤ w'.heap.size ∧ FR 36 w' (p1 + 1) (some ⟨p1, 0, none⟩) n n zs2 ∧ SlR SX w' X n 1 (xs.map flV) ∧ Ch (No) w w') (fun (j, zs2) => n - j) (0, zs) ?_ ⟨rfl, rfl, rfl, rfl, rfl, rfl, rfl, rfl, rfl, trivial⟩ ?_))
   · exact ⟨(by omega), hi, (Nat.le_refl _), row_2, sx_2, CH_2⟩
   rintro ⟨j, zs2⟩ w3 ⟨hj, hi2, hsz3, row_3, sx_3, CH_3⟩
   show VC _ _ _ _ [(0, .slice X n xc), (4, .int .i64 n), (5, .slice (some ⟨p1, 0, none⟩) n n), (6, .int .i64 k), (24, .int .i64 n), (25, .int .i64 k), (28, .slice X n xc), (29, .int .i64 n), (30, .int .i64 j)] _
   have hjk : 0 ≤ (2 * (j : Int) + 1) * (k : Int) ∧ (2 * (j : Int) + 1) * (k : Int) ≤ 601 * 300 := ⟨Int.mul_nonneg (by omega) (by omega), Int.mul_le_mul (by omega) (by omega) (by omega) (by omega)⟩
   obtain ⟨q, hq⟩ : ∃ q : Nat, ((2 * (j : Int) + 1) * (k : Int)) % ((4 * n : Nat) : Int) = (q : Int) := ⟨_, (Int.toNat_of_nonneg (Int.emod_nonneg _ (by omega))).symm⟩
   have hq0 : k = 0 → q = 0 := fun e => by subst e; rw [show ((2 * (j : Int) + 1) * ((0 : Nat) : Int)) = 0 from Int.mul_zero _, Int.zero_emod] at hq; omega
   refine VC.seq (VC.region (VO.mv (Rn.lss rfl rfl) rfl rfl rfl (VO.nil (VQ.then_code (VC.seq (VC.cond_if rfl (fun hc4 => ?_) (fun hc4 => ?_)))))))
   ·
    refine VC.skip (VQ.then_code (VC.seq (VC.block (VC.seq (VC.region (VO.mv (Rn.move rfl) rfl rfl rfl (VO.mv (Rn.indexS Tryz.underlying24 Tryz.sizeOf36 rfl rfl (sx_3.ne (by omega)) (by omega) (by omega)) rfl rfl rfl ?_)))))))
    refine VO.mv (Rn.load Tryz.isAgg36 rfl (sx_3.getF (by omega) (by omega))) rfl rfl rfl (VO.mv (Rn.assign rfl) rfl rfl rfl (VO.mv (Rn.assign rfl) rfl rfl rfl (VO.nil (VQ.then_code (VC.seq (VC.region (VO.mv (Rn.move rfl) rfl rfl rfl ?_)))))))
    refine VO.mv (Rn.mul rfl rfl (by rw [IntKind.wrap_i64]; omega)) rfl rfl rfl ?_
    refine VO.mv (Rn.move rfl) rfl rfl rfl ?_
    refine VO.mv (Rn.mul rfl rfl (by rw [IntKind.wrap_i64]; omega)) rfl rfl rfl ?_
    refine VO.mv (Rn.add rfl rfl (by rw [IntKind.wrap_i64]; omega)) rfl rfl rfl ?_
    refine VO.mv (Rn.move rfl) rfl rfl rfl ?_
    refine VO.mv (Rn.mul rfl rfl (by rw [IntKind.wrap_i64]; omega)) rfl rfl rfl ?_
    refine VO.wk (Wk.call Tryz.call15 rfl (roots_Cos (4 * n) ((2 * (j : Int) + 1) * (k : Int)) q (by omega) (by omega) ⟨by omega, by omega⟩ hq _)) rfl rfl rfl ?_
    rintro _ w4 ⟨x4, rfl, F4, c4⟩
    have z4 := c4.size
    refine VO.mv (Rn.move rfl) rfl rfl rfl (VO.mv (Rn.extract rfl rfl) rfl rfl rfl (VO.mv (Rn.extract rfl rfl) rfl rfl rfl (VO.mv (Rn.assign rfl) rfl rfl rfl (VO.mv (Rn.assign rfl) rfl rfl rfl (VO.nil (VQ.then_code (VC.seq ?_)))))))
    refine VC.seq (VC.region (VO.mv (Rn.move rfl) rfl rfl rfl (VO.mv (Rn.nil_neq_nil Tryz.underlying29 rfl) rfl rfl rfl (VO.nil (VQ.then_code (VC.cond_false rfl (VC.skip ?_)))))))
    refine VQ.then_code (VC.seq (VC.region (VO.mv (Rn.move rfl) rfl rfl rfl (VO.mv (Rn.move rfl) rfl rfl rfl (VO.wk (Wk.fbin (.inr (.inr (.inl rfl))) rfl rfl) rfl rfl rfl ?_)))))
    rintro _ w5 ⟨r5, rfl, f5, c5⟩
    have z5 := c5.size
    refine VO.mv (Rn.assign rfl) rfl rfl rfl (VO.nil (VQ.then_code (VC.seq (VC.seq (VC.region (VO.mv (Rn.move rfl) rfl rfl rfl (VO.mv (Rn.gtr rfl rfl) rfl rfl rfl ?_)))))))
    refine VO.nil (VQ.then_code (VC.cond_if rfl (fun hc5 => ?_) (fun hc5 => ?_)))
    ·
     refine VC.region (VO.mv (Rn.move rfl) rfl rfl rfl (VO.mv (Rn.move rfl) rfl rfl rfl ?_))
     have row_5 := row_3.keep (c4.trans c5)
     refine VO.mv (Rn.indexS Tryz.underlying24 Tryz.sizeOf36 rfl rfl (row_5.sl.ne (by omega)) (by omega) (by omega)) rfl rfl rfl (VO.mv (Rn.load Tryz.isAgg36 rfl (row_5.sl.getF (by omega) (by omega))) rfl rfl rfl (VO.mv (Rn.move rfl) rfl rfl rfl (VO.wk (Wk.fbin (.inl rfl) rfl rfl) rfl rfl rfl ?_)))
     rintro _ w6 ⟨r6, rfl, f6, c6⟩
     have z6 := c6.size
     refine VO.mv (Rn.assign rfl) rfl rfl rfl (VO.nil (VQ.then_code (VC.region (VO.mv (Rn.move rfl) rfl rfl rfl (VO.mv (Rn.move rfl) rfl rfl rfl (VO.mv (Rn.move rfl) rfl rfl rfl ?_))))))
     have row_6 := row_5.keep c6
     refine VO.mv (Rn.indexS Tryz.underlying24 Tryz.sizeOf36 rfl rfl (row_6.sl.ne (by omega)) (by omega) (by omega)) rfl rfl rfl (VO.wk0 (Wk.putF Tryz.sizeOf36 rfl rfl (by omega) row_6) rfl rfl ?_)
     rintro _ w7 ⟨o7, c7, z7⟩
     have y7 := o7.lt
     refine VO.nil (VQ.block_normal (VQ.then_code (VC.region ?_)))
     refine VO.mv (Rn.add rfl rfl (by rw [IntKind.wrap_i64]; omega)) rfl rfl rfl ?_
     refine VO.mv (Rn.move rfl) rfl rfl rfl (VO.nil ?_)
     refine VQ.round (j + 1, zs2.set k r6) (by first | omega | (dsimp only; omega)) ?_ ⟨rfl, rfl, rfl, rfl, rfl, rfl, rfl, rfl, rfl, trivial⟩
     have sx_6 := sx_3.keep (c4.trans (c5.trans c6))
     have sx_7 := sx_6.to c7 (by first | exact fun _ _ _ _ => id | (intro q h1 h2 hx h3; have := hX q h2; omega))
     have CH_6 := CH_3.and (c4.trans (c5.trans c6))
     have CH_7 : Ch (No) w w7 := CH_6.then c7 (by intro q h1 h2; rcases h2 with h2 | h2 <;> first | exact h2 | (exfalso; omega) | omega)
     exact ⟨by omega, hi2.step (by omega) (hi2.val1 (by omega) (hok j) f6 f5 (fun e => by rw [F4, hq0 e, pair_zero (4 * n) (by omega)])), by omega, o7, sx_7, CH_7⟩
    ·
     refine VC.skip (VQ.then_code (VC.region (VO.mv (Rn.move rfl) rfl rfl rfl (VO.mv (Rn.move rfl) rfl rfl rfl (VO.mv (Rn.move rfl) rfl rfl rfl ?_)))))
     have row_5 := row_3.keep (c4.trans c5)
     refine VO.mv (Rn.indexS Tryz.underlying24 Tryz.sizeOf36 rfl rfl (row_5.sl.ne (by omega)) (by omega) (by omega)) rfl rfl rfl (VO.wk0 (Wk.putF Tryz.sizeOf36 rfl rfl (by omega) row_5) rfl rfl ?_)
     rintro _ w8 ⟨o8, c8, z8⟩
     have y8 := o8.lt
     refine VO.nil (VQ.block_normal (VQ.then_code (VC.region ?_)))
     refine VO.mv (Rn.add rfl rfl (by rw [IntKind.wrap_i64]; omega)) rfl rfl rfl ?_
     refine VO.mv (Rn.move rfl) rfl rfl rfl (VO.nil ?_)
     refine VQ.round (j + 1, zs2.set k r5) (by first | omega | (dsimp only; omega)) ?_ ⟨rfl, rfl, rfl, rfl, rfl, rfl, rfl, rfl, rfl, trivial⟩
     have sx_5 := sx_3.keep (c4.trans c5)
     have sx_8 := sx_5.to c8 (by first | exact fun _ _ _ _ => id | (intro q h1 h2 hx h3; have := hX q h2; omega))
     have CH_5 := CH_3.and (c4.trans c5)
     have CH_8 : Ch (No) w w8 := CH_5.then c8 (by intro q h1 h2; rcases h2 with h2 | h2 <;> first | exact h2 | (exfalso; omega) | omega)
     exact ⟨by omega, hi2.step (by omega) (SumI.val0 (by omega) (hok j) f5 (fun e => by rw [F4, hq0 e, pair_zero (4 * n) (by omega)])), by omega, o8, sx_8, CH_8⟩
   ·
    refine VC.exit (VQ.then_exit (VQ.then_exit (VQ.block_exit (VQ.block_normal (VQ.then_code (VC.region ?_))))))
    refine VO.mv (Rn.add rfl rfl (by rw [IntKind.wrap_i64]; omega)) rfl rfl rfl ?_
    refine VO.mv (Rn.move rfl) rfl rfl rfl (VO.nil ?_)
    refine VQ.round (k + 1, zs2) (by first | omega | (dsimp only; omega)) ?_ ⟨rfl, rfl, rfl, rfl, rfl, trivial⟩
    exact ⟨(by omega), (hi2.round (by omega) (by omega)), (by omega), row_3, sx_3, CH_3⟩
  ·
   refine VC.exit (VQ.then_exit (VQ.then_exit (VQ.block_exit (VQ.then_code (VC.seq (VC.region (VO.mv (Rn.move rfl) rfl rfl rfl ?_)))))))
   refine VO.mv (Rn.assign rfl) rfl rfl rfl (VO.mv (Rn.assign rfl) rfl rfl rfl (VO.nil (VQ.then_code (VC.ret (VQ.ret2 rfl rfl rfl (Ret.mk ?_))))))
   have ek : k = n := by omega
   exact ⟨_, _, rfl, row_2, hi.past (by omega), by omega, CH_2⟩
set_option maxRecDepth 100000 in
theorem cos_planned (X : Option Addr) (xc : Nat) (w : World) (st : StT w) (tab : TabB w.heap.size w) (hG : 24 ≤ w.heap.size) :
  Calls Tryz.prog 19 #[.slice X 1 xc] w (Ret (fun v w' => ∃ p P, v = .tuple #[.pointer (some ⟨p, 0, none⟩), .nilIface] ∧ PlnR w.heap.size w'.heap.size w' p P ∧ Leaf 1 P.b ∧ Ch No w w')) := by
 refine calls_of_VC (args := [.slice X 1 xc]) Tryz.func19 rfl Tryz.ntmps19 rfl (VC.seq (VC.region (VO.mv (Rn.assign rfl) rfl rfl rfl (VO.mv (Rn.assign rfl) rfl rfl rfl (VO.nil (VQ.then_code (VC.seq ?_)))))))
 refine VC.seq (VC.region (VO.mv (Rn.move rfl) rfl rfl rfl (VO.mv (Rn.len Tryz.underlying24 rfl) rfl rfl rfl (VO.mv (Rn.eql rfl rfl) rfl rfl rfl (VO.mv (Rn.move rfl) rfl rfl rfl ?_)))))
 refine VO.orJoin (b := _) 4 7 11 rfl (fun hc1 Jhc1 => by
   refine VO.skip rfl rfl rfl (VO.skip rfl rfl rfl (VO.skip rfl rfl rfl (VO.mv (Rn.pick_true rfl rfl) rfl rfl rfl ?_)))
   exact (VO.fg rfl (VO.fg rfl (VO.fg rfl Jhc1)))) (fun hc1 Jhc1 => by
   try simp only [Bool.and_eq_true, Bool.or_eq_true, Bool.not_eq_true', Bool.not_eq_false', Bool.and_eq_false_iff, Bool.or_eq_false_iff, decide_eq_true_eq, decide_eq_false_iff_not] at hc1
   refine VO.mv (Rn.move rfl) rfl rfl rfl (VO.mv (Rn.len Tryz.underlying24 rfl) rfl rfl rfl (VO.mv (Rn.gtr rfl rfl) rfl rfl rfl (VO.mv (Rn.pick_false rfl rfl) rfl rfl rfl ?_)))
   exact (VO.fg rfl (VO.fg rfl (VO.fg rfl Jhc1)))) ?_
 refine VO.nil (VQ.then_code (VC.cond rfl (fun hc2 => ?_) (fun hc2 => ?_)))
 ·
  try simp only [Bool.and_eq_true, Bool.or_eq_true, Bool.not_eq_true', Bool.not_eq_false', Bool.and_eq_false_iff, Bool.or_eq_false_iff, decide_eq_true_eq, decide_eq_false_iff_not] at hc2
  omega
 ·
  try simp only [Bool.and_eq_true, Bool.or_eq_true, Bool.not_eq_true', Bool.not_eq_false', Bool.and_eq_false_iff, Bool.or_eq_false_iff, decide_eq_true_eq, decide_eq_false_iff_not] at hc2
  refine VC.skip (VQ.then_code (VC.seq (VC.region (VO.mv (Rn.move rfl) rfl rfl rfl (VO.mv (Rn.len Tryz.underlying24 rfl) rfl rfl rfl (VO.wk (Wk.call Tryz.call28 rfl (plan_NewL 1 (.inl rfl) _ st ((tab).up (by omega)) (by omega))) rfl rfl rfl ?_))))))
  rintro _ w1 ⟨pp, PP, rfl, pl1, hL, c1⟩
  have z1 := c1.size
  refine VO.mv (Rn.extract rfl rfl) rfl rfl rfl (VO.mv (Rn.extract rfl rfl) rfl rfl rfl (VO.mv (Rn.assign rfl) rfl rfl rfl (VO.mv (Rn.assign rfl) rfl rfl rfl (VO.nil (VQ.then_code (VC.ret (VQ.ret2 rfl rfl rfl ?_)))))))
  refine Ret.mk ?_
  have CH_1 := (Ch.refl (No) w).and c1
  exact ⟨pp, PP, rfl, pl1, hL, CH_1⟩
set_option maxRecDepth 100000 in
theorem cos_place0 (w : World) :
  Calls Tryz.prog 20 #[.int .i64 0, .int .i64 1] w (Ret (fun v w' => v = .int .i64 0 ∧ w = w')) := by
 refine calls_of_VC (args := [.int .i64 0, .int .i64 1]) Tryz.func20 rfl Tryz.ntmps20 rfl (VC.seq (VC.region (VO.mv (Rn.assign rfl) rfl rfl rfl (VO.nil (VQ.then_code (VC.seq (VC.seq ?_)))))))
 refine VC.region (VO.mv (Rn.move rfl) rfl rfl rfl (VO.mv (Rn.rem0 rfl rfl (by omega) (by omega)) rfl rfl rfl (VO.mv (Rn.eql rfl rfl) rfl rfl rfl (VO.nil (VQ.then_code (VC.cond_if rfl (fun hc1 => ?_) (fun hc1 => ?_)))))))
 ·
  refine VC.seq (VC.region (VO.mv (Rn.move rfl) rfl rfl rfl (VO.mv (Rn.quo0 rfl rfl (by omega) (by omega) (by omega)) rfl rfl rfl (VO.mv (Rn.assign rfl) rfl rfl rfl (VO.nil (VQ.then_code (VC.ret ?_)))))))
  refine VQ.then_ret (VQ.ret1 rfl rfl (Ret.mk ?_))
  exact ⟨rfl, rfl⟩
 ·
  omega
set_option maxHeartbeats 1000000 in
set_option maxRecDepth 100000 in
theorem cos_Forward1 (SX : Nat → Prop) (X : Option Addr) (xc x : Nat) (w : World) (sx : SlR SX w X 1 1 ([x].map flV)) (hX : ∀ q, SX q → q < w.heap.size) (st : StT w) (tab : TabB w.heap.size w) (hG : 24 ≤ w.heap.size) :
  Calls Tryz.prog 12 #[.slice X 1 xc] w (Ret (fun v w' => ∃ q z, v = .tuple #[.slice (some ⟨q, 0, none⟩) 1 1, .nilIface] ∧ FR 36 w' (q + 1) (some ⟨q, 0, none⟩) 1 1 [z] ∧ cn z = cn x ∧ w.heap.size ≤ q ∧ Ch No w w')) := by
 refine calls_of_VC (args := [.slice X 1 xc]) Tryz.func12 rfl Tryz.ntmps12 rfl (VC.seq (VC.region (VO.mv (Rn.assign rfl) rfl rfl rfl (VO.mv (Rn.assign rfl) rfl rfl rfl (VO.nil (VQ.then_code (VC.seq ?_)))))))
 refine VC.region (VO.mv (Rn.move rfl) rfl rfl rfl (VO.wk (Wk.call Tryz.call19 rfl (cos_planned _ _ _ st ((tab).up (by omega)) (by omega))) rfl rfl rfl ?_))
 rintro _ w1 ⟨pp, PP, rfl, pl1, hL, c1⟩
 have z1 := c1.size
 refine VO.mv (Rn.move rfl) rfl rfl rfl (VO.mv (Rn.extract rfl rfl) rfl rfl rfl (VO.mv (Rn.extract rfl rfl) rfl rfl rfl (VO.mv (Rn.assign rfl) rfl rfl rfl (VO.mv (Rn.assign rfl) rfl rfl rfl (VO.nil (VQ.then_code (VC.seq ?_)))))))
 refine VC.seq (VC.region (VO.mv (Rn.move rfl) rfl rfl rfl (VO.mv (Rn.nil_neq_nil Tryz.underlying29 rfl) rfl rfl rfl (VO.nil (VQ.then_code (VC.cond_false rfl (VC.skip ?_)))))))
 refine VQ.then_code (VC.seq (VC.region (VO.mv (Rn.move rfl) rfl rfl rfl (VO.mv (Rn.len Tryz.underlying24 rfl) rfl rfl rfl (VO.mv (Rn.assign rfl) rfl rfl rfl (VO.nil (VQ.then_code ?_)))))))
 refine VC.seq (VC.region (VO.mv (Rn.move rfl) rfl rfl rfl (VO.wk (Wk.mkC Tryz.underlying49 inf50w53 rfl rfl (by omega) (by omega) (by omega)) rfl rfl rfl ?_)))
 rintro _ w2 ⟨p2, rfl, o2, c2, e2, z2⟩
 refine VO.mv (Rn.assign rfl) rfl rfl rfl (VO.nil (VQ.then_code (VC.seq (VC.seq (VC.region (VO.mv (Rn.move rfl) rfl rfl rfl (VO.mv (Rn.len Tryz.underlying24 rfl) rfl rfl rfl ?_)))))))
 refine VO.mv (Rn.move rfl) rfl rfl rfl (VO.nil (VQ.then_code (VC.block ?_)))
 have pl_2 := pl1.keep c2
 have st_2 := st.keep (c1.trans c2)
 have sx_2 := sx.keep (c1.trans c2)
 have CH_2 := (Ch.refl (No) w).and (c1.trans c2)
 refine VC.loopS (σ := Nat) (fun j => [(4, .pointer (some ⟨pp, 0, none⟩)), (6, .int .i64 1), (7, .slice (some ⟨p2, 0, none⟩) 1 1), (26, .slice X 1 xc), (27, .int .i64 1), (28, .int .i64 j)]) (fun j w' => j ≤ 1 ∧ w2.heap.size ≤ w'.heap.size ∧ CR 50 w' ((p2 + 1)) (some ⟨p2, 0, none⟩) 1 1 (fst1 x j) ∧ PlnR w.heap.size w1.heap.size w' pp PP ∧ StT w' ∧ SlR SX w' X 1 1 ([x].map flV) ∧ Ch (No) w w') (fun j => 1 - j) 0 ?_ ⟨rfl, rfl, rfl, rfl, rfl, rfl, trivial⟩ ?_
 · exact ⟨(by omega), (Nat.le_refl _), o2, pl_2, st_2, sx_2, CH_2⟩
 rintro j w3 ⟨hj, hsz3, row_3, pl_3, st_3, sx_3, CH_3⟩
 show VC _ _ _ _ [(4, .pointer (some ⟨pp, 0, none⟩)), (6, .int .i64 1), (7, .slice (some ⟨p2, 0, none⟩) 1 1), (26, .slice X 1 xc), (27, .int .i64 1), (28, .int .i64 j)] _
 refine VC.seq (VC.region (VO.mv (Rn.lss rfl rfl) rfl rfl rfl (VO.nil (VQ.then_code (VC.seq (VC.cond_if rfl (fun hc1 => ?_) (fun hc1 => ?_)))))))
 ·
  obtain rfl : j = 0 := by omega
  refine VC.skip (VQ.then_code (VC.seq (VC.block (VC.seq (VC.region (VO.mv (Rn.move rfl) rfl rfl rfl (VO.mv (Rn.indexS Tryz.underlying24 Tryz.sizeOf36 rfl rfl (sx_3.ne (by omega)) (by omega) (by omega)) rfl rfl rfl ?_)))))))
  refine VO.mv (Rn.load Tryz.isAgg36 rfl (sx_3.getF (by omega) (by omega))) rfl rfl rfl (VO.mv (Rn.assign rfl) rfl rfl rfl (VO.mv (Rn.assign rfl) rfl rfl rfl (VO.nil (VQ.then_code (VC.region (VO.mv (Rn.move rfl) rfl rfl rfl (VO.mv (Rn.move rfl) rfl rfl rfl ?_)))))))
  refine VO.mv (Rn.move rfl) rfl rfl rfl (VO.wk (Wk.call Tryz.call20 rfl (cos_place0 _)) rfl rfl rfl ?_)
  rintro _ _ ⟨rfl, rfl⟩
  refine VO.mv (Rn.move rfl) rfl rfl rfl (VO.mv (Rn.complex rfl rfl) rfl rfl rfl (VO.mv (Rn.indexS Tryz.underlying49 Tryz.sizeOf50 rfl rfl (row_3.sl.ne (by omega)) (by omega) (by omega)) rfl rfl rfl (VO.wk0 (Wk.putC Tryz.sizeOf50 rfl rfl (by omega) row_3) rfl rfl ?_)))
  rintro _ w4 ⟨o4, c4, z4⟩
  have y4 := o4.lt
  refine VO.nil (VQ.block_normal (VQ.then_code (VC.region ?_)))
  refine VO.mv (Rn.add rfl rfl (by rw [IntKind.wrap_i64]; omega)) rfl rfl rfl ?_
  refine VO.mv (Rn.move rfl) rfl rfl rfl (VO.nil ?_)
  refine VQ.round (0 + 1) (by first | omega | (dsimp only; omega)) ?_ ⟨rfl, rfl, rfl, rfl, rfl, rfl, trivial⟩
  have pl_4 := pl_3.to c4 (by first | exact fun _ _ _ _ => id | (intro q h1 h2 hx h3; omega))
  have st_4 := st_3.to c4 (by first | exact fun _ _ _ _ => id | (intro q h1 h2 hx h3; omega))
  have sx_4 := sx_3.to c4 (by first | exact fun _ _ _ _ => id | (intro q h1 h2 hx h3; have := hX q h2; omega))
  have CH_4 : Ch (No) w w4 := CH_3.then c4 (by intro q h1 h2; rcases h2 with h2 | h2 <;> first | exact h2 | (exfalso; omega) | omega)
  exact ⟨(by omega), (by omega), o4, pl_4, st_4, sx_4, CH_4⟩
 ·
  obtain rfl : j = 1 := by omega
  refine VC.exit (VQ.then_exit (VQ.then_exit (VQ.block_exit (VQ.then_code (VC.seq (VC.region (VO.mv (Rn.move rfl) rfl rfl rfl ?_)))))))
  refine VO.mv (Rn.move rfl) rfl rfl rfl (VO.wk (Wk.call Tryz.call21 rfl (p_Forward _ _ _ _ _ _ 1 _ (fst1 x 1) _ (row_3).sl (fun q hq => by omega) pl_3 (by omega) _ hL.ok.ok hL.ok.okb hL.ok.ne (by rw [hL.ln]) st_3 (by omega) hL.ok.ac)) rfl rfl rfl ?_)
  rintro _ w5 ⟨rO, AO, kO, ws, rfl, out5, hz, yo5, c5⟩
  rw [show (fst1 x 1).map cx = [(cn x, fl0)] from rfl, fwd_one hL] at hz
  have e1 : PP.b.ln.toNat = 1 := by rw [hL.ln]; rfl
  obtain ⟨y0, rfl, hy0⟩ := map_one hz
  have hlo := Ow.lt out5
  have z5 := c5.size
  refine VO.mv (Rn.move rfl) rfl rfl rfl (VO.mv (Rn.extract rfl rfl) rfl rfl rfl (VO.mv (Rn.extract rfl rfl) rfl rfl rfl (VO.mv (Rn.assign rfl) rfl rfl rfl (VO.mv (Rn.assign rfl) rfl rfl rfl (VO.nil (VQ.then_code (VC.seq ?_)))))))
  refine VC.seq (VC.region (VO.mv (Rn.move rfl) rfl rfl rfl (VO.mv (Rn.nil_neq_nil Tryz.underlying29 rfl) rfl rfl rfl (VO.nil (VQ.then_code (VC.cond_false rfl (VC.skip ?_)))))))
  refine VQ.then_code (VC.seq (VC.region (VO.mv (Rn.move rfl) rfl rfl rfl (VO.wk (Wk.mkF Tryz.underlying24 inf36w53 rfl rfl (by omega) (by omega) (by omega)) rfl rfl rfl ?_))))
  rintro _ w6 ⟨p6, rfl, o6, c6, e6, z6⟩
  refine VO.mv (Rn.assign rfl) rfl rfl rfl (VO.nil (VQ.then_code (VC.seq (VC.seq (VC.region (VO.mv (Rn.move rfl) rfl rfl rfl (VO.mv (Rn.len Tryz.underlying49 rfl) rfl rfl rfl ?_)))))))
  refine VO.mv (Rn.move rfl) rfl rfl rfl (VO.nil (VQ.then_code (VC.block ?_)))
  have out_6 := out5.keep c6
  have CH_6 := CH_3.and (c5.trans c6)
  refine VC.loopS (σ := Nat × Nat) (fun (j, z) => [(6, .int .i64 1), (11, .slice (some ⟨p6, 0, none⟩) 1 1), (52, .slice AO PP.b.ln.toNat kO), (53, .int .i64 (PP.b.ln.toNat : Nat)), (54, .int .i64 j)]) (fun (j, z) w' => j ≤ 1 ∧ (0 < j → cn z = cn x) ∧ w6.heap.size ≤ w'.heap.size ∧ FR 36 w' ((p6 + 1)) (some ⟨p6, 0, none⟩) 1 1 [z] ∧ CR 50 w' rO AO PP.b.ln.toNat kO [y0] ∧ Ch (No) w w') (fun (j, z) => 1 - j) (0, 0) ?_ ⟨rfl, rfl, rfl, rfl, rfl, trivial⟩ ?_
  · exact ⟨(by omega), (fun h => absurd h (by omega)), (Nat.le_refl _), o6, out_6, CH_6⟩
  rintro ⟨j, z⟩ w7 ⟨hj, hzz, hsz7, rof_7, out_7, CH_7⟩
  show VC _ _ _ _ [(6, .int .i64 1), (11, .slice (some ⟨p6, 0, none⟩) 1 1), (52, .slice AO PP.b.ln.toNat kO), (53, .int .i64 (PP.b.ln.toNat : Nat)), (54, .int .i64 j)] _
  refine VC.seq (VC.region (VO.mv (Rn.lss rfl rfl) rfl rfl rfl (VO.nil (VQ.then_code (VC.seq (VC.cond_if rfl (fun hc2 => ?_) (fun hc2 => ?_)))))))
  ·
   obtain rfl : j = 0 := by omega
   refine VC.skip (VQ.then_code (VC.seq (VC.block (VC.seq (VC.region (VO.mv (Rn.move rfl) rfl rfl rfl (VO.mv (Rn.indexS Tryz.underlying49 Tryz.sizeOf50 rfl rfl (out_7.sl.ne (by omega)) (by omega) (by omega)) rfl rfl rfl ?_)))))))
   refine VO.mv (Rn.load Tryz.isAgg50 rfl (out_7.sl.getC (by omega) (by omega))) rfl rfl rfl (VO.mv (Rn.assign rfl) rfl rfl rfl (VO.mv (Rn.assign rfl) rfl rfl rfl (VO.nil (VQ.then_code (VC.seq (VC.region (VO.mv (Rn.move rfl) rfl rfl rfl ?_)))))))
   refine VO.mv (Rn.move rfl) rfl rfl rfl ?_
   refine VO.mv (Rn.mul rfl rfl (by rw [IntKind.wrap_i64]; omega)) rfl rfl rfl ?_
   refine VO.mv (Rn.move rfl) rfl rfl rfl (VO.wk (Wk.call Tryz.call22 rfl (roots_Twist _ _ 4 0 0 (by omega) (by omega) ⟨by omega, by omega⟩ (by rfl) _)) rfl rfl rfl ?_)
   rintro _ w8 ⟨x8, y8, rfl, F8, c8⟩
   have z8 := c8.size
   refine VO.mv (Rn.move rfl) rfl rfl rfl (VO.mv (Rn.extract rfl rfl) rfl rfl rfl (VO.mv (Rn.extract rfl rfl) rfl rfl rfl (VO.mv (Rn.assign rfl) rfl rfl rfl (VO.mv (Rn.assign rfl) rfl rfl rfl (VO.nil (VQ.then_code (VC.seq ?_)))))))
   refine VC.seq (VC.region (VO.mv (Rn.move rfl) rfl rfl rfl (VO.mv (Rn.nil_neq_nil Tryz.underlying29 rfl) rfl rfl rfl (VO.nil (VQ.then_code (VC.cond_false rfl (VC.skip ?_)))))))
   refine VQ.then_code (VC.region (VO.mv (Rn.move rfl) rfl rfl rfl (VO.mv (Rn.move rfl) rfl rfl rfl (VO.mv (Rn.move rfl) rfl rfl rfl (VO.mv (Rn.real rfl) rfl rfl rfl ?_)))))
   have rof_8 := rof_7.keep c8
   refine VO.mv (Rn.indexS Tryz.underlying24 Tryz.sizeOf36 rfl rfl (rof_8.sl.ne (by omega)) (by omega) (by omega)) rfl rfl rfl (VO.wk0 (Wk.putF Tryz.sizeOf36 rfl rfl (by omega) rof_8) rfl rfl ?_)
   rintro _ w9 ⟨o9, c9, z9⟩
   have y9 := o9.lt
   refine VO.nil (VQ.block_normal (VQ.then_code (VC.region ?_)))
   refine VO.mv (Rn.add rfl rfl (by rw [IntKind.wrap_i64]; omega)) rfl rfl rfl ?_
   refine VO.mv (Rn.move rfl) rfl rfl rfl (VO.nil ?_)
   refine VQ.round (0 + 1, x8) (by first | omega | (dsimp only; omega)) ?_ ⟨rfl, rfl, rfl, rfl, rfl, trivial⟩
   have out_8 := out_7.keep c8
   have out_9 := out_8.to c9 (by first | exact fun _ _ _ _ => id | (intro q h1 h2 hx h3; omega))
   have CH_8 := CH_7.and c8
   have CH_9 : Ch (No) w w9 := CH_8.then c9 (by intro q h1 h2; rcases h2 with h2 | h2 <;> first | exact h2 | (exfalso; omega) | omega)
   exact ⟨(by omega), (fun _ => (congrArg (·.1) F8).trans (congrArg (·.1) hy0)), (by omega), o9, out_9, CH_9⟩
  ·
   refine VC.exit (VQ.then_exit (VQ.then_exit (VQ.block_exit (VQ.then_code (VC.seq (VC.region (VO.mv (Rn.move rfl) rfl rfl rfl ?_)))))))
   refine VO.mv (Rn.assign rfl) rfl rfl rfl (VO.mv (Rn.assign rfl) rfl rfl rfl (VO.nil (VQ.then_code (VC.ret (VQ.ret2 rfl rfl rfl (Ret.mk ?_))))))
   exact ⟨_, _, rfl, rof_7, hzz (by omega), by omega, CH_7⟩
set_option maxHeartbeats 1000000 in
set_option maxRecDepth 100000 in
theorem cos_Inverse1 (SX : Nat → Prop) (X : Option Addr) (xc x : Nat) (w : World) (sx : SlR SX w X 1 1 ([x].map flV)) (hX : ∀ q, SX q → q < w.heap.size) (st : StT w) (tab : TabB w.heap.size w) (hG : 24 ≤ w.heap.size) (hok : FlOk (cn x)) :
  Calls Tryz.prog 13 #[.slice X 1 xc] w (Ret (fun v w' => ∃ q z, v = .tuple #[.slice (some ⟨q, 0, none⟩) 1 1, .nilIface] ∧ FR 36 w' (q + 1) (some ⟨q, 0, none⟩) 1 1 [z] ∧ cn z = cn x ∧ w.heap.size ≤ q ∧ Ch No w w')) := by
 refine calls_of_VC (args := [.slice X 1 xc]) Tryz.func13 rfl Tryz.ntmps13 rfl (VC.seq (VC.region (VO.mv (Rn.assign rfl) rfl rfl rfl (VO.mv (Rn.assign rfl) rfl rfl rfl (VO.nil (VQ.then_code (VC.seq ?_)))))))
 refine VC.region (VO.mv (Rn.move rfl) rfl rfl rfl (VO.wk (Wk.call Tryz.call19 rfl (cos_planned _ _ _ st ((tab).up (by omega)) (by omega))) rfl rfl rfl ?_))
 rintro _ w1 ⟨pp, PP, rfl, pl1, hL, c1⟩
 have z1 := c1.size
 refine VO.mv (Rn.move rfl) rfl rfl rfl (VO.mv (Rn.extract rfl rfl) rfl rfl rfl (VO.mv (Rn.extract rfl rfl) rfl rfl rfl (VO.mv (Rn.assign rfl) rfl rfl rfl (VO.mv (Rn.assign rfl) rfl rfl rfl (VO.nil (VQ.then_code (VC.seq ?_)))))))
 refine VC.seq (VC.region (VO.mv (Rn.move rfl) rfl rfl rfl (VO.mv (Rn.nil_neq_nil Tryz.underlying29 rfl) rfl rfl rfl (VO.nil (VQ.then_code (VC.cond_false rfl (VC.skip ?_)))))))
 refine VQ.then_code (VC.seq (VC.region (VO.mv (Rn.move rfl) rfl rfl rfl (VO.mv (Rn.len Tryz.underlying24 rfl) rfl rfl rfl (VO.mv (Rn.assign rfl) rfl rfl rfl (VO.nil (VQ.then_code ?_)))))))
 refine VC.seq (VC.region (VO.mv (Rn.move rfl) rfl rfl rfl (VO.wk (Wk.mkC Tryz.underlying49 inf50w53 rfl rfl (by omega) (by omega) (by omega)) rfl rfl rfl ?_)))
 rintro _ w2 ⟨p2, rfl, o2, c2, e2, z2⟩
 refine VO.mv (Rn.assign rfl) rfl rfl rfl (VO.nil (VQ.then_code (VC.seq (VC.region (VO.mv (Rn.move rfl) rfl rfl rfl (VO.mv (Rn.move rfl) rfl rfl rfl ?_))))))
 have sx_2 := sx.keep (c1.trans c2)
 refine VO.mv (Rn.indexS Tryz.underlying24 Tryz.sizeOf36 rfl rfl (sx_2.ne (by omega)) (by omega) (by omega)) rfl rfl rfl (VO.mv (Rn.load Tryz.isAgg36 rfl (sx_2.getF (by omega) (by omega))) rfl rfl rfl (VO.mv (Rn.complex rfl rfl) rfl rfl rfl (VO.mv (Rn.indexS Tryz.underlying49 Tryz.sizeOf50 rfl rfl (o2.sl.ne (by omega)) (by omega) (by omega)) rfl rfl rfl (VO.wk0 (Wk.putC Tryz.sizeOf50 rfl rfl (by omega) o2) rfl rfl ?_))))
 rintro _ w3 ⟨o3, c3, z3⟩
 have y3 := o3.lt
 refine VO.nil (VQ.then_code (VC.seq (VC.seq (VC.region (VO.mv (Rn.assign rfl) rfl rfl rfl (VO.nil (VQ.then_code ?_)))))))
 refine VC.block ?_
 have pl_2 := pl1.keep c2
 have pl_3 := pl_2.to c3 (by first | exact fun _ _ _ _ => id | (intro q h1 h2 hx h3; omega))
 have st_2 := st.keep (c1.trans c2)
 have st_3 := st_2.to c3 (by first | exact fun _ _ _ _ => id | (intro q h1 h2 hx h3; omega))
 have CH_2 := (Ch.refl (No) w).and (c1.trans c2)
 have CH_3 : Ch (No) w w3 := CH_2.then c3 (by intro q h1 h2; rcases h2 with h2 | h2 <;> first | exact h2 | (exfalso; omega) | omega)
 refine VC.loopS (σ := Nat) (fun k => [(0, .slice X 1 xc), (4, .pointer (some ⟨pp, 0, none⟩)), (6, .int .i64 1), (7, .slice (some ⟨p2, 0, none⟩) 1 1), (8, .int .i64 k)]) (fun k w' => k = 1 ∧ w3.heap.size ≤ w'.heap.size ∧ CR 50 w' ((p2 + 1)) (some ⟨p2, 0, none⟩) 1 1 ([(x, 0)]) ∧ PlnR w.heap.size w1.heap.size w' pp PP ∧ StT w' ∧ Ch (No) w w') (fun k => 1 - k) 1 ?_ ⟨rfl, rfl, rfl, rfl, rfl, trivial⟩ ?_
 · exact ⟨(by omega), (Nat.le_refl _), o3, pl_3, st_3, CH_3⟩
 rintro k w4 ⟨hk, hsz4, row_4, pl_4, st_4, CH_4⟩
 show VC _ _ _ _ [(0, .slice X 1 xc), (4, .pointer (some ⟨pp, 0, none⟩)), (6, .int .i64 1), (7, .slice (some ⟨p2, 0, none⟩) 1 1), (8, .int .i64 k)] _
 refine VC.seq (VC.seq (VC.region (VO.mv (Rn.move rfl) rfl rfl rfl (VO.mv (Rn.move rfl) rfl rfl rfl (VO.mv (Rn.lss rfl rfl) rfl rfl rfl (VO.nil (VQ.then_code ?_)))))))
 refine VC.cond_if rfl (fun hc1 => ?_) (fun hc1 => ?_)
 ·
  omega
 ·
  refine VC.exit (VQ.then_exit (VQ.then_exit (VQ.block_exit (VQ.then_code (VC.seq (VC.region (VO.mv (Rn.move rfl) rfl rfl rfl ?_)))))))
  refine VO.mv (Rn.move rfl) rfl rfl rfl (VO.wk (Wk.call Tryz.call23 rfl (p_Inverse _ _ _ _ _ _ 1 _ [(x, 0)] _ (row_4).sl (fun q hq => by omega) pl_4 (by omega) _ hL.ok.ok hL.ok.okb hL.ok.ne (by rw [hL.ln]) st_4 (by omega) hL.ok.ac)) rfl rfl rfl ?_)
  rintro _ w5 ⟨rO, AO, kO, ws, rfl, out5, hz, yo5, c5⟩
  have hz2 : (ws.map cx).map (·.1) = [cn x] := by rw [hz]; exact inv_one hL _ hok
  rw [List.map_map] at hz2
  have e1 : PP.b.ln.toNat = 1 := by rw [hL.ln]; rfl
  obtain ⟨y0, rfl, hy0⟩ := map_one hz2
  have hlo := Ow.lt out5
  have z5 := c5.size
  refine VO.mv (Rn.move rfl) rfl rfl rfl (VO.mv (Rn.extract rfl rfl) rfl rfl rfl (VO.mv (Rn.extract rfl rfl) rfl rfl rfl (VO.mv (Rn.assign rfl) rfl rfl rfl (VO.mv (Rn.assign rfl) rfl rfl rfl (VO.nil (VQ.then_code (VC.seq ?_)))))))
  refine VC.seq (VC.region (VO.mv (Rn.move rfl) rfl rfl rfl (VO.mv (Rn.nil_neq_nil Tryz.underlying29 rfl) rfl rfl rfl (VO.nil (VQ.then_code (VC.cond_false rfl (VC.skip ?_)))))))
  refine VQ.then_code (VC.seq (VC.region (VO.mv (Rn.move rfl) rfl rfl rfl (VO.wk (Wk.mkF Tryz.underlying24 inf36w53 rfl rfl (by omega) (by omega) (by omega)) rfl rfl rfl ?_))))
  rintro _ w6 ⟨p6, rfl, o6, c6, e6, z6⟩
  refine VO.mv (Rn.assign rfl) rfl rfl rfl (VO.nil (VQ.then_code (VC.seq (VC.seq (VC.region (VO.mv (Rn.move rfl) rfl rfl rfl (VO.mv (Rn.len Tryz.underlying24 rfl) rfl rfl rfl ?_)))))))
  refine VO.mv (Rn.move rfl) rfl rfl rfl (VO.nil (VQ.then_code (VC.block ?_)))
  have out_6 := out5.keep c6
  have CH_6 := CH_4.and (c5.trans c6)
  refine VC.loopS (σ := Nat × Nat) (fun (j, z) => [(6, .int .i64 1), (9, .slice AO PP.b.ln.toNat kO), (10, .slice (some ⟨p6, 0, none⟩) 1 1), (73, .int .i64 1), (74, .int .i64 j)]) (fun (j, z) w' => j ≤ 1 ∧ (0 < j → cn z = cn x) ∧ w6.heap.size ≤ w'.heap.size ∧ FR 36 w' ((p6 + 1)) (some ⟨p6, 0, none⟩) 1 1 [z] ∧ CR 50 w' rO AO PP.b.ln.toNat kO [y0] ∧ Ch (No) w w') (fun (j, z) => 1 - j) (0, 0) ?_ ⟨rfl, rfl, rfl, rfl, rfl, trivial⟩ ?_
  · exact ⟨(by omega), (fun h => absurd h (by omega)), (Nat.le_refl _), o6, out_6, CH_6⟩
  rintro ⟨j, z⟩ w7 ⟨hj, hzz, hsz7, rof_7, out_7, CH_7⟩
  show VC _ _ _ _ [(6, .int .i64 1), (9, .slice AO PP.b.ln.toNat kO), (10, .slice (some ⟨p6, 0, none⟩) 1 1), (73, .int .i64 1), (74, .int .i64 j)] _
  refine VC.seq (VC.region (VO.mv (Rn.lss rfl rfl) rfl rfl rfl (VO.nil (VQ.then_code (VC.seq (VC.cond_if rfl (fun hc2 => ?_) (fun hc2 => ?_)))))))
  ·
   obtain rfl : j = 0 := by omega
   refine VC.skip (VQ.then_code (VC.seq (VC.block (VC.seq (VC.region (VO.mv (Rn.move rfl) rfl rfl rfl (VO.mv (Rn.assign rfl) rfl rfl rfl ?_)))))))
   refine VO.nil (VQ.then_code (VC.region (VO.mv (Rn.move rfl) rfl rfl rfl (VO.mv (Rn.move rfl) rfl rfl rfl (VO.mv (Rn.move rfl) rfl rfl rfl (VO.mv (Rn.move rfl) rfl rfl rfl (VO.mv (Rn.move rfl) rfl rfl rfl ?_)))))))
   refine VO.wk (Wk.call Tryz.call20 rfl (cos_place0 _)) rfl rfl rfl ?_
   rintro _ _ ⟨rfl, rfl⟩
   refine VO.mv (Rn.indexS Tryz.underlying49 Tryz.sizeOf50 rfl rfl (out_7.sl.ne (by omega)) (by omega) (by omega)) rfl rfl rfl (VO.mv (Rn.load Tryz.isAgg50 rfl (out_7.sl.getC (by omega) (by omega))) rfl rfl rfl (VO.mv (Rn.real rfl) rfl rfl rfl (VO.mv (Rn.indexS Tryz.underlying24 Tryz.sizeOf36 rfl rfl (rof_7.sl.ne (by omega)) (by omega) (by omega)) rfl rfl rfl (VO.wk0 (Wk.putF Tryz.sizeOf36 rfl rfl (by omega) rof_7) rfl rfl ?_))))
   rintro _ w8 ⟨o8, c8, z8⟩
   have y8 := o8.lt
   refine VO.nil (VQ.block_normal (VQ.then_code (VC.region ?_)))
   refine VO.mv (Rn.add rfl rfl (by rw [IntKind.wrap_i64]; omega)) rfl rfl rfl ?_
   refine VO.mv (Rn.move rfl) rfl rfl rfl (VO.nil ?_)
   refine VQ.round (0 + 1, y0.1) (by first | omega | (dsimp only; omega)) ?_ ⟨rfl, rfl, rfl, rfl, rfl, trivial⟩
   have out_8 := out_7.to c8 (by first | exact fun _ _ _ _ => id | (intro q h1 h2 hx h3; omega))
   have CH_8 : Ch (No) w w8 := CH_7.then c8 (by intro q h1 h2; rcases h2 with h2 | h2 <;> first | exact h2 | (exfalso; omega) | omega)
   exact ⟨(by omega), (fun _ => hy0), (by omega), o8, out_8, CH_8⟩
  ·
   refine VC.exit (VQ.then_exit (VQ.then_exit (VQ.block_exit (VQ.then_code (VC.seq (VC.region (VO.mv (Rn.move rfl) rfl rfl rfl ?_)))))))
   refine VO.mv (Rn.assign rfl) rfl rfl rfl (VO.mv (Rn.assign rfl) rfl rfl rfl (VO.nil (VQ.then_code (VC.ret (VQ.ret2 rfl rfl rfl (Ret.mk ?_))))))
   exact ⟨_, _, rfl, rof_7, hzz (by omega), by omega, CH_7⟩
end Go.Tm
namespace Go.Tm
open Go.RowKit Go.Proofs
theorem xf_ok {xs : List Nat} (h : ∀ x ∈ xs, x < 2 ^ 64) (i : Nat) : FlOk (XF xs i) := by
  refine FlOk.cn ?_
  simp only [List.getD]
  cases hi : xs[i]? with
  | none => simp
  | some x => simpa using h x (List.mem_of_getElem? hi)
theorem flO_len (bs : List Int) : (flO bs).length = bs.length := by simp [flO]
theorem flO_all {bs : List Int} {j : Nat} (h : bs.length = j) : ((flO bs).take j).map flV = (flO bs).map flV := by
  rw [List.take_of_length_le (by rw [flO_len]; omega)]
set_option maxRecDepth 100000 in
theorem inf36w54 : Inf Tryz.prog 36 (.float .f64 0) 1 8 := ⟨Tryz.t36, Tryz.type36, rfl, rfl, rfl⟩
set_option maxRecDepth 100000 in
theorem law23_floats (SX : Nat → Prop) (X : Option Addr) (n xc : Nat) (bs : List Int) (w : World) (sx : SlR SX w X n 1 (bs.map UV)) (hX : ∀ q, SX q → q < w.heap.size) (hn : n ≤ 17592186044416)  :
  Calls Tryz.prog 5 #[.slice X n xc] w (Ret (fun v w' => ∃ r A c, v = .slice A n c ∧ FR 36 w' r A n c (flO bs) ∧ w.heap.size < r ∧ Ch No w w')) := by
 have hbl : bs.length = n := by have := sx.len; simpa using this
 refine calls_of_VC (args := [.slice X n xc]) Tryz.func5 rfl Tryz.ntmps5 rfl (VC.seq (VC.region (VO.mv (Rn.assign rfl) rfl rfl rfl (VO.nil (VQ.then_code (VC.seq (VC.region ?_)))))))
 refine VO.wk (Wk.lit0 Tryz.underlying24 inf36w54) rfl rfl rfl ?_
 rintro _ w1 ⟨p1, rfl, N1⟩
 have c1 := N1.ch
 have e1 := N1.p; have z1 := N1.size
 have l6o := Ow.of_new (cs := []) (sz := 1) (l := 0) N1 rfl (by decide)
 refine VO.mv (Rn.assign rfl) rfl rfl rfl (VO.nil (VQ.then_code (VC.seq (VC.seq (VC.region (VO.mv (Rn.move rfl) rfl rfl rfl (VO.mv (Rn.len Tryz.underlying22 rfl) rfl rfl rfl ?_)))))))
 refine VO.mv (Rn.move rfl) rfl rfl rfl (VO.nil (VQ.then_code (VC.block ?_)))
 have sx_1 := sx.keep c1
 have CH_1 := (Ch.refl (No) w).and c1
 refine VC.loopS (σ := Nat × Nat × Option Addr × Nat) (fun (j, r2, A2, c2) => [(3, .slice A2 j c2), (7, .slice X n xc), (8, .int .i64 n), (9, .int .i64 j)]) (fun (j, r2, A2, c2) w' => j ≤ n ∧ w.heap.size < r2 ∧ w1.heap.size ≤ w'.heap.size ∧ Ow w' r2 36 1 A2 j c2 (((flO bs).take j).map flV) ∧ SlR SX w' X n 1 (bs.map UV) ∧ Ch (No) w w') (fun (j, r2, A2, c2) => n - j) (0, (p1 + 1), (some ⟨p1, 0, none⟩), 0) ?_ ⟨rfl, rfl, rfl, rfl, trivial⟩ ?_
 · exact ⟨(by omega), (by omega), (Nat.le_refl _), l6o, sx_1, CH_1⟩
 rintro ⟨j, r2, A2, c2⟩ w2 ⟨hj, hr2, hsz2, row_2, sx_2, CH_2⟩
 show VC _ _ _ _ [(3, .slice A2 j c2), (7, .slice X n xc), (8, .int .i64 n), (9, .int .i64 j)] _
 refine VC.seq (VC.region (VO.mv (Rn.lss rfl rfl) rfl rfl rfl (VO.nil (VQ.then_code (VC.seq (VC.cond_if rfl (fun hc1 => ?_) (fun hc1 => ?_)))))))
 ·
  refine VC.skip (VQ.then_code (VC.seq (VC.block (VC.seq (VC.region (VO.mv (Rn.indexS Tryz.underlying22 Tryz.sizeOf38 rfl rfl (sx_2.ne (by omega)) (by omega) (by omega)) rfl rfl rfl (VO.mv (Rn.load Tryz.isAgg38 rfl ((sx_2).getU (by omega) (by omega))) rfl rfl rfl ?_)))))))
  refine VO.mv (Rn.assign rfl) rfl rfl rfl (VO.nil (VQ.then_code (VC.region (VO.mv (Rn.move rfl) rfl rfl rfl (VO.mv (Rn.move rfl) rfl rfl rfl (VO.mv (Rn.fbits Tryz.func14 (by kernel_rfl) rfl (by kernel_rfl) (by kernel_rfl) rfl) rfl rfl rfl (VO.wk (Wk.lit Tryz.underlying24 inf36w54 (by decide) rfl rfl (by rfl) (by decide) (by decide) (by rfl)) rfl rfl rfl ?_)))))))
  rintro _ w3 ⟨p3, rfl, N3⟩
  have c3 := N3.ch
  have e3 := N3.p; have z3 := N3.size
  have l16 := SlR.of_new (sz := 1) (l := 1) N3 rfl
  have l16o := Ow.of_new (sz := 1) (l := 1) N3 rfl (by decide)
  have row_3 := row_2.keep c3
  refine VO.wk (Wk.append (S := _) Tryz.underlying24 inf36w54 rfl (by decide) rfl rfl row_3 l16 (by rfl) (fun h => by simp at h) (by omega) (by simp only [maxLen]; omega)) rfl rfl rfl ?_
  rintro _ w4 ⟨r4, A4, k4, rfl, o4, c4, q4⟩
  have z4 := c4.size
  have y4 := o4.lt
  refine VO.mv (Rn.assign rfl) rfl rfl rfl (VO.nil (VQ.block_normal (VQ.then_code (VC.region ?_))))
  refine VO.mv (Rn.add rfl rfl (by rw [IntKind.wrap_i64]; omega)) rfl rfl rfl ?_
  refine VO.mv (Rn.move rfl) rfl rfl rfl (VO.nil ?_)
  refine VQ.round (j + 1, r4, A4, k4) (by first | omega | (dsimp only; omega)) ?_ ⟨rfl, rfl, rfl, rfl, trivial⟩
  have sx_3 := sx_2.keep c3
  have sx_4 := sx_3.to c4 (by first | exact fun _ _ _ _ => id | (intro q h1 h2 hx h3; have := hX q h2; omega))
  have CH_3 := CH_2.and c3
  have CH_4 : Ch (No) w w4 := CH_3.then c4 (by intro q h1 h2; rcases h2 with h2 | h2 <;> first | exact h2 | (exfalso; omega) | omega)
  exact ⟨(by omega), (by omega), (by omega), (by rw [flO_take (by omega)]; exact o4), sx_4, CH_4⟩
 ·
  refine VC.exit (VQ.then_exit (VQ.then_exit (VQ.block_exit (VQ.then_code (VC.seq (VC.region (VO.mv (Rn.move rfl) rfl rfl rfl ?_)))))))
  refine VO.mv (Rn.assign rfl) rfl rfl rfl (VO.nil (VQ.then_code (VC.ret (VQ.ret1 rfl rfl (Ret.mk ?_)))))
  obtain rfl : j = n := by omega
  have o9 := row_2; rw [flO_all hbl] at o9
  exact ⟨_, _, _, rfl, o9, hr2, CH_2⟩
set_option maxRecDepth 100000 in
theorem law23_lives (w : World) (st : StT w) (tab : TabB w.heap.size w) (hG : 24 ≤ w.heap.size) :
  Calls Tryz.prog 4 #[] w (Ret (fun v w' => v = .bool true ∧ Ch No w w')) := by
 refine calls_of_VC (args := []) Tryz.func4 rfl Tryz.ntmps4 rfl (VC.seq (VC.region (VO.mv (Rn.assign rfl) rfl rfl rfl (VO.nil (VQ.then_code (VC.seq (VC.region ?_)))))))
 refine VO.wk (Wk.lit Tryz.underlying24 inf36w54 (by decide) rfl rfl (by rfl) (by decide) (by decide) (by rfl)) rfl rfl rfl ?_
 rintro _ w1 ⟨p1, rfl, N1⟩
 have c1 := N1.ch
 have e1 := N1.p; have z1 := N1.size
 have l8 := SlR.of_new (sz := 1) (l := 2) N1 rfl
 have l8o := Ow.of_new (sz := 1) (l := 2) N1 rfl (by decide)
 refine VO.wk (Wk.call Tryz.call7 rfl (cos_Sum _ _ 2 _ [4607182418800017408, 4611686018427387904] _ l8 (fun q hq => by omega) (by omega) (xf_ok (by decide)))) rfl rfl rfl ?_
 rintro _ w2 ⟨q2, zs2, rfl, su2, hs2, e2, c2⟩
 have z2 := c2.size
 refine VO.mv (Rn.move rfl) rfl rfl rfl (VO.mv (Rn.extract rfl rfl) rfl rfl rfl (VO.mv (Rn.extract rfl rfl) rfl rfl rfl (VO.mv (Rn.assign rfl) rfl rfl rfl (VO.mv (Rn.assign rfl) rfl rfl rfl (VO.nil (VQ.then_code (VC.seq ?_)))))))
 refine VC.region (VO.wk (Wk.lit Tryz.underlying24 inf36w54 (by decide) rfl rfl (by rfl) (by decide) (by decide) (by rfl)) rfl rfl rfl ?_)
 rintro _ w3 ⟨p3, rfl, N3⟩
 have c3 := N3.ch
 have e3 := N3.p; have z3 := N3.size
 have l13 := SlR.of_new (sz := 1) (l := 1) N3 rfl
 have l13o := Ow.of_new (sz := 1) (l := 1) N3 rfl (by decide)
 have st_3 := st.keep (c1.trans (c2.trans c3))
 have tab_3 := tab.keep (c1.trans (c2.trans c3))
 refine VO.wk (Wk.call Tryz.call12 rfl (cos_Forward1 _ _ _ 4617315517961601024 _ l13 (fun q hq => by omega) st_3 ((tab_3).up (by omega)) (by omega))) rfl rfl rfl ?_
 rintro _ w4 ⟨q4, z4, rfl, fo4, hz4, e4, c4⟩
 have z4 := c4.size
 refine VO.mv (Rn.move rfl) rfl rfl rfl (VO.mv (Rn.extract rfl rfl) rfl rfl rfl (VO.mv (Rn.extract rfl rfl) rfl rfl rfl (VO.mv (Rn.assign rfl) rfl rfl rfl (VO.mv (Rn.assign rfl) rfl rfl rfl (VO.nil (VQ.then_code (VC.seq ?_)))))))
 refine VC.region (VO.wk (Wk.lit Tryz.underlying24 inf36w54 (by decide) rfl rfl (by rfl) (by decide) (by decide) (by rfl)) rfl rfl rfl ?_)
 rintro _ w5 ⟨p5, rfl, N5⟩
 have c5 := N5.ch
 have e5 := N5.p; have z5 := N5.size
 have l18 := SlR.of_new (sz := 1) (l := 1) N5 rfl
 have l18o := Ow.of_new (sz := 1) (l := 1) N5 rfl (by decide)
 have st_5 := st_3.keep (c4.trans c5)
 have tab_5 := tab_3.keep (c4.trans c5)
 refine VO.wk (Wk.call Tryz.call13 rfl (cos_Inverse1 _ _ _ 4619567317775286272 _ l18 (fun q hq => by omega) st_5 ((tab_5).up (by omega)) (by omega) (FlOk.cn (by decide)))) rfl rfl rfl ?_
 rintro _ w6 ⟨q6, z6, rfl, io6, hy6, e6, c6⟩
 have z6 := c6.size
 refine VO.mv (Rn.move rfl) rfl rfl rfl (VO.mv (Rn.extract rfl rfl) rfl rfl rfl (VO.mv (Rn.extract rfl rfl) rfl rfl rfl (VO.mv (Rn.assign rfl) rfl rfl rfl (VO.mv (Rn.assign rfl) rfl rfl rfl (VO.nil (VQ.then_code (VC.seq ?_)))))))
 refine VC.region (VO.mv (Rn.move rfl) rfl rfl rfl (VO.mv (Rn.nil_eql_nil Tryz.underlying29 rfl) rfl rfl rfl (VO.mv (Rn.move rfl) rfl rfl rfl (VO.mv (Rn.move rfl) rfl rfl rfl (VO.mv (Rn.len Tryz.underlying24 rfl) rfl rfl rfl (VO.mv (Rn.eql rfl rfl) rfl rfl rfl (VO.mv (Rn.pick_true rfl rfl) rfl rfl rfl ?_)))))))
 refine VO.mv (Rn.move rfl) rfl rfl rfl ?_
 refine VO.andJoin (b := _) 5 29 34 rfl (fun hc1 Jhc1 => by
   try simp only [Bool.and_eq_true, Bool.or_eq_true, Bool.not_eq_true', Bool.not_eq_false', Bool.and_eq_false_iff, Bool.or_eq_false_iff, decide_eq_true_eq, decide_eq_false_iff_not] at hc1
   refine VO.mv (Rn.move rfl) rfl rfl rfl ?_
   have su_6 := su2.keep (c3.trans (c4.trans (c5.trans c6)))
   refine VO.mv (Rn.indexS Tryz.underlying24 Tryz.sizeOf36 rfl rfl (su_6.sl.ne (by omega)) (by omega) (by omega)) rfl rfl rfl (VO.mv (Rn.load Tryz.isAgg36 rfl (su_6.sl.getF (by omega) (by omega))) rfl rfl rfl (VO.mv (Rn.feqlT rfl rfl (feq_const (hs2.trans (by kernel_rfl)) (by kernel_rfl) (by kernel_rfl))) rfl rfl rfl (VO.mv (Rn.pick_true rfl rfl) rfl rfl rfl ?_)))
   exact (VO.fg rfl (VO.fg rfl (VO.fg rfl (VO.fg rfl Jhc1))))) (fun hc1 Jhc1 => by
   refine VO.skip rfl rfl rfl (VO.skip rfl rfl rfl (VO.skip rfl rfl rfl (VO.skip rfl rfl rfl (VO.mv (Rn.pick_false rfl rfl) rfl rfl rfl ?_))))
   exact (VO.fg rfl (VO.fg rfl (VO.fg rfl (VO.fg rfl Jhc1))))) ?_
 refine VO.mv (Rn.move rfl) rfl rfl rfl ?_
 refine VO.andJoin (b := _) 3 35 38 rfl (fun hc2 Jhc2 => by
   try simp only [Bool.and_eq_true, Bool.or_eq_true, Bool.not_eq_true', Bool.not_eq_false', Bool.and_eq_false_iff, Bool.or_eq_false_iff, decide_eq_true_eq, decide_eq_false_iff_not] at hc2
   refine VO.mv (Rn.move rfl) rfl rfl rfl (VO.mv (Rn.nil_eql_nil Tryz.underlying29 rfl) rfl rfl rfl (VO.mv (Rn.pick_true rfl rfl) rfl rfl rfl ?_))
   exact (VO.fg rfl (VO.fg rfl Jhc2))) (fun hc2 Jhc2 => by
   refine VO.skip rfl rfl rfl (VO.skip rfl rfl rfl (VO.mv (Rn.pick_false rfl rfl) rfl rfl rfl ?_))
   exact (VO.fg rfl (VO.fg rfl Jhc2))) ?_
 refine VO.mv (Rn.move rfl) rfl rfl rfl ?_
 refine VO.andJoin (b := _) 4 39 43 rfl (fun hc3 Jhc3 => by
   try simp only [Bool.and_eq_true, Bool.or_eq_true, Bool.not_eq_true', Bool.not_eq_false', Bool.and_eq_false_iff, Bool.or_eq_false_iff, decide_eq_true_eq, decide_eq_false_iff_not] at hc3
   refine VO.mv (Rn.move rfl) rfl rfl rfl (VO.mv (Rn.len Tryz.underlying24 rfl) rfl rfl rfl (VO.mv (Rn.eql rfl rfl) rfl rfl rfl (VO.mv (Rn.pick_true rfl rfl) rfl rfl rfl ?_)))
   exact (VO.fg rfl (VO.fg rfl (VO.fg rfl Jhc3)))) (fun hc3 Jhc3 => by
   refine VO.skip rfl rfl rfl (VO.skip rfl rfl rfl (VO.skip rfl rfl rfl (VO.mv (Rn.pick_false rfl rfl) rfl rfl rfl ?_)))
   exact (VO.fg rfl (VO.fg rfl (VO.fg rfl Jhc3)))) ?_
 refine VO.mv (Rn.move rfl) rfl rfl rfl ?_
 refine VO.andJoin (b := _) 5 44 49 rfl (fun hc4 Jhc4 => by
   try simp only [Bool.and_eq_true, Bool.or_eq_true, Bool.not_eq_true', Bool.not_eq_false', Bool.and_eq_false_iff, Bool.or_eq_false_iff, decide_eq_true_eq, decide_eq_false_iff_not] at hc4
   refine VO.mv (Rn.move rfl) rfl rfl rfl ?_
   have fo_6 := fo4.keep (c5.trans c6)
   refine VO.mv (Rn.indexS Tryz.underlying24 Tryz.sizeOf36 rfl rfl (fo_6.sl.ne (by omega)) (by omega) (by omega)) rfl rfl rfl (VO.mv (Rn.load Tryz.isAgg36 rfl (fo_6.sl.getF (by omega) (by omega))) rfl rfl rfl (VO.mv (Rn.feqlT rfl rfl (feq_const (hz4) (by kernel_rfl) (by kernel_rfl))) rfl rfl rfl (VO.mv (Rn.pick_true rfl rfl) rfl rfl rfl ?_)))
   exact (VO.fg rfl (VO.fg rfl (VO.fg rfl (VO.fg rfl Jhc4))))) (fun hc4 Jhc4 => by
   refine VO.skip rfl rfl rfl (VO.skip rfl rfl rfl (VO.skip rfl rfl rfl (VO.skip rfl rfl rfl (VO.mv (Rn.pick_false rfl rfl) rfl rfl rfl ?_))))
   exact (VO.fg rfl (VO.fg rfl (VO.fg rfl (VO.fg rfl Jhc4))))) ?_
 refine VO.mv (Rn.move rfl) rfl rfl rfl ?_
 refine VO.andJoin (b := _) 3 50 53 rfl (fun hc5 Jhc5 => by
   try simp only [Bool.and_eq_true, Bool.or_eq_true, Bool.not_eq_true', Bool.not_eq_false', Bool.and_eq_false_iff, Bool.or_eq_false_iff, decide_eq_true_eq, decide_eq_false_iff_not] at hc5
   refine VO.mv (Rn.move rfl) rfl rfl rfl (VO.mv (Rn.nil_eql_nil Tryz.underlying29 rfl) rfl rfl rfl (VO.mv (Rn.pick_true rfl rfl) rfl rfl rfl ?_))
   exact (VO.fg rfl (VO.fg rfl Jhc5))) (fun hc5 Jhc5 => by
   refine VO.skip rfl rfl rfl (VO.skip rfl rfl rfl (VO.mv (Rn.pick_false rfl rfl) rfl rfl rfl ?_))
   exact (VO.fg rfl (VO.fg rfl Jhc5))) ?_
 refine VO.mv (Rn.move rfl) rfl rfl rfl ?_
 refine VO.andJoin (b := _) 4 54 58 rfl (fun hc6 Jhc6 => by
   try simp only [Bool.and_eq_true, Bool.or_eq_true, Bool.not_eq_true', Bool.not_eq_false', Bool.and_eq_false_iff, Bool.or_eq_false_iff, decide_eq_true_eq, decide_eq_false_iff_not] at hc6
   refine VO.mv (Rn.move rfl) rfl rfl rfl (VO.mv (Rn.len Tryz.underlying24 rfl) rfl rfl rfl (VO.mv (Rn.eql rfl rfl) rfl rfl rfl (VO.mv (Rn.pick_true rfl rfl) rfl rfl rfl ?_)))
   exact (VO.fg rfl (VO.fg rfl (VO.fg rfl Jhc6)))) (fun hc6 Jhc6 => by
   refine VO.skip rfl rfl rfl (VO.skip rfl rfl rfl (VO.skip rfl rfl rfl (VO.mv (Rn.pick_false rfl rfl) rfl rfl rfl ?_)))
   exact (VO.fg rfl (VO.fg rfl (VO.fg rfl Jhc6)))) ?_
 refine VO.mv (Rn.move rfl) rfl rfl rfl ?_
 refine VO.andJoin (b := _) 5 59 64 rfl (fun hc7 Jhc7 => by
   try simp only [Bool.and_eq_true, Bool.or_eq_true, Bool.not_eq_true', Bool.not_eq_false', Bool.and_eq_false_iff, Bool.or_eq_false_iff, decide_eq_true_eq, decide_eq_false_iff_not] at hc7
   refine VO.mv (Rn.move rfl) rfl rfl rfl (VO.mv (Rn.indexS Tryz.underlying24 Tryz.sizeOf36 rfl rfl (io6.sl.ne (by omega)) (by omega) (by omega)) rfl rfl rfl (VO.mv (Rn.load Tryz.isAgg36 rfl (io6.sl.getF (by omega) (by omega))) rfl rfl rfl (VO.mv (Rn.feqlT rfl rfl (feq_const (hy6) (by kernel_rfl) (by kernel_rfl))) rfl rfl rfl (VO.mv (Rn.pick_true rfl rfl) rfl rfl rfl ?_))))
   exact (VO.fg rfl (VO.fg rfl (VO.fg rfl (VO.fg rfl Jhc7))))) (fun hc7 Jhc7 => by
   refine VO.skip rfl rfl rfl (VO.skip rfl rfl rfl (VO.skip rfl rfl rfl (VO.skip rfl rfl rfl (VO.mv (Rn.pick_false rfl rfl) rfl rfl rfl ?_))))
   exact (VO.fg rfl (VO.fg rfl (VO.fg rfl (VO.fg rfl Jhc7))))) ?_
 refine VO.mv (Rn.assign rfl) rfl rfl rfl (VO.nil (VQ.then_code (VC.ret (VQ.ret1 rfl rfl (Ret.mk ?_)))))
 have CH_6 := (Ch.refl (No) w).and (c1.trans (c2.trans (c3.trans (c4.trans (c5.trans c6)))))
 exact ⟨rfl, CH_6⟩
end Go.Tm
namespace Go.Tm
def facR : Nat → Fl
  | 0 => one
  | 1 => one
  | m + 2 => fmul (facR (m + 1)) (fi ((m + 2 : Nat) : Int))
theorem facR_eq : ∀ m, facR m = facF m
  | 0 => rfl
  | 1 => by kernel_rfl
  | m + 2 => by rw [facR, facR_eq (m + 1)]; rfl
theorem one_quo : fquo one one = one := by kernel_rfl
theorem cof_eq (first k : Nat) : fquo one (facR (2 * k + first)) = cofL first k := by
  unfold cofL
  by_cases c : first = 0 ∧ k = 0
  · rw [if_pos c, c.1, c.2]; exact one_quo
  · rw [if_neg c, facR_eq]
theorem fneg_fneg (x : Fl) : fneg (fneg x) = x := by
  cases x with
  | none => rfl
  | some b => exact congrArg some (by show (b ^^^ 2 ^ 63) ^^^ 2 ^ 63 = b; rw [Nat.xor_assoc, Nat.xor_self, Nat.xor_zero])
theorem tur_two (x : Cx) : turF x 2 = (fneg x.1, fneg x.2) := rfl
theorem tur_three (x : Cx) : turF x 3 = (x.2, fneg x.1) := by
  show (fneg (fneg x.2), fneg x.1) = _
  rw [fneg_fneg]
def cosK (n k j : Nat) : Fl := (pairF (4 * n) ((2 * j + 1) * k % (4 * n))).1
def sumK (n : Nat) (X : Nat → Fl) (k : Nat) : Nat → Fl
  | 0 => fmul (X 0) (cosK n k 0)
  | j + 1 => fadd (sumK n X k j) (fmul (X (j + 1)) (cosK n k (j + 1)))
structure SumG (X : Nat → Fl) (n k j : Nat) (zs : List Nat) : Prop where
  len : zs.length = n
  done : ∀ i, i < k → cn (zs.getD i 0) = sumK n X i (n - 1)
  now : 0 < j → cn (zs.getD k 0) = sumK n X k (j - 1)
theorem SumG.init (X : Nat → Fl) (n : Nat) : SumG X n 0 0 (List.replicate n 0) := ⟨by simp, fun i h => absurd h (by omega), fun h => absurd h (by omega)⟩
theorem SumG.round {X : Nat → Fl} {n k j : Nat} {zs : List Nat} (h : SumG X n k j zs) (hj : j = n) (hn : 0 < n) : SumG X n (k + 1) 0 zs := by
  refine ⟨h.len, fun i hi => ?_, fun h => absurd h (by omega)⟩
  by_cases c : i = k
  · subst c; have := h.now (by omega); rwa [hj] at this
  · exact h.done i (by omega)
theorem SumG.step {X : Nat → Fl} {n k j : Nat} {zs : List Nat} {a : Nat} (h : SumG X n k j zs) (hk : k < n) (ha : cn a = sumK n X k j) : SumG X n k (j + 1) (zs.set k a) := by
  have hl := h.len
  refine ⟨by rw [List.length_set]; exact hl, fun i hi => ?_, fun _ => ?_⟩
  · have := h.done i hi
    simp only [List.getD, List.getElem?_set] at this ⊢
    simpa [show ¬ k = i by omega] using this
  · rw [Nat.add_sub_cancel]
    simp only [List.getD, List.getElem?_set]
    simpa [show k < zs.length by omega] using ha
theorem sumK_succ {n k j : Nat} {X : Nat → Fl} {a p c s : Nat} (hj : 0 < j) (hs : cn s = sumK n X k (j - 1)) (fa : cn a = fop .add (cn s) (cn p)) (fp : cn p = fop .mul (X j) (cn c)) (fc : cn c = cosK n k j) : cn a = sumK n X k j := by
  obtain ⟨i, rfl⟩ : ∃ i, j = i + 1 := ⟨j - 1, by omega⟩
  rw [Nat.add_sub_cancel] at hs
  rw [fa, hs, fp, fc]; rfl
end Go.Tm
namespace Go.Tm
open Go.RowKit Go.Proofs
theorem facR_succ {m : Nat} {a f : Nat} (hm : 1 ≤ m) (hf : cn f = facR m) (fa : cn a = fop .mul (cn f) (fi ((m : Int) + 1))) : cn a = facR (m + 1) := by
  obtain ⟨i, rfl⟩ : ∃ i, m = i + 1 := ⟨m - 1, by omega⟩
  rw [fa, hf]; rfl
theorem cof_of {first m : Nat} {k : Int} {c f : Nat} (h0 : 0 ≤ k) (h1 : 1 ≤ m) (h2 : (m : Int) ≤ 2 * k + first ∨ m = 1) (h3 : 2 * k + first < (m : Int) + 1) (hf : cn f = facR m) (fc : cn c = fop .quo (cn 4607182418800017408) (cn f)) : cn c = cofL first k.toNat := by
  rw [← cof_eq, fc, hf]
  by_cases e : m = 2 * k.toNat + first
  · rw [← e]; rfl
  · have e0 : 2 * k.toNat + first = 0 := by omega
    have e1 : m = 1 := by omega
    rw [e0, e1]; rfl
theorem horn_step {first : Nat} {k : Int} {y p c q r : Nat} (h0 : 0 ≤ k) (h8 : k < 8) (hp : cn p = hornP first (cn y) (7 - k).toNat) (hc : cn c = cofL first k.toNat) (fq : cn q = fop .mul (cn y) (cn p)) (fr : cn r = fop .sub (cn c) (cn q)) : cn r = hornP first (cn y) (7 - (k - 1)).toNat := by
  rw [show (7 - (k - 1)).toNat = (7 - k).toNat + 1 by omega, hornP, fr, fq, hp, hc, show 7 - (7 - k).toNat = k.toNat by omega]
theorem pz_yes {b : Nat} (h : (Ieee.double.order b 0 == some .eq) = true) : cn 0 = pzF (cn b) := by rw [← cn_pz, pzB, if_pos h]
theorem pz_no {b : Nat} (h : ¬ (Ieee.double.order b 0 == some .eq) = true) : cn b = pzF (cn b) := by rw [← cn_pz, pzB, if_neg h]
set_option maxHeartbeats 1000000 in
set_option maxRecDepth 100000 in
theorem ref07_series0 (y : Nat) (w : World) :
  Calls Tryz.prog 45 #[.float .f64 y, .int .i64 0] w (Ret (fun v w' => ∃ b, v = .float .f64 b ∧ cn b = hornF 0 (cn y) ∧ Ch No w w')) := by
 refine calls_of_VC (args := [.float .f64 y, .int .i64 0]) Tryz.func45 rfl Tryz.ntmps45 rfl (VC.seq (VC.region (VO.mv (Rn.assign rfl) rfl rfl rfl (VO.nil (VQ.then_code (VC.seq (VC.region ?_)))))))
 refine VO.mv (Rn.assign rfl) rfl rfl rfl (VO.nil (VQ.then_code (VC.seq (VC.seq (VC.region (VO.mv (Rn.assign rfl) rfl rfl rfl (VO.nil ?_)))))))
 refine VQ.then_code (VC.block (VC.loopS (σ := Int × Nat) (fun (k, p) => [(0, .float .f64 y), (1, .int .i64 0), (5, .float .f64 p), (6, .int .i64 k)]) (fun (k, p) w' => (-1 ≤ k ∧ k ≤ 8) ∧ (k < 8 → cn p = hornP 0 (cn y) (7 - k).toNat) ∧ w.heap.size ≤ w'.heap.size ∧ Ch (No) w w') (fun (k, p) => (k + 1).toNat) (8, 0) ?_ ⟨rfl, rfl, rfl, rfl, trivial⟩ ?_))
 · exact ⟨⟨by omega, by omega⟩, (fun h => absurd h (by omega)), (Nat.le_refl _), (Ch.refl (No) w)⟩
 rintro ⟨k, p⟩ w1 ⟨hk, hp, hsz1, CH_1⟩
 show VC _ _ _ _ [(0, .float .f64 y), (1, .int .i64 0), (5, .float .f64 p), (6, .int .i64 k)] _
 refine VC.seq (VC.seq (VC.region (VO.mv (Rn.move rfl) rfl rfl rfl (VO.mv (Rn.geq rfl rfl) rfl rfl rfl (VO.nil (VQ.then_code (VC.cond_if rfl (fun hc1 => ?_) (fun hc1 => ?_))))))))
 ·
  refine VC.skip (VQ.then_code (VC.seq (VC.block (VC.seq (VC.region (VO.mv (Rn.assign rfl) rfl rfl rfl (VO.nil ?_)))))))
  refine VQ.then_code (VC.seq (VC.seq (VC.region (VO.mv (Rn.assign rfl) rfl rfl rfl (VO.nil (VQ.then_code (VC.block ?_)))))))
  refine VC.loopS (σ := Nat × Nat) (fun (m, f) => [(0, .float .f64 y), (1, .int .i64 0), (5, .float .f64 p), (6, .int .i64 k), (7, .float .f64 f), (8, .int .i64 ((m : Int) + 1))]) (fun (m, f) w' => (1 ≤ m ∧ ((m : Int) ≤ 2 * k + 0 ∨ m = 1)) ∧ cn f = facR m ∧ w1.heap.size ≤ w'.heap.size ∧ Ch (No) w w') (fun (m, f) => 20 - m) (1, 4607182418800017408) ?_ ⟨rfl, rfl, rfl, rfl, rfl, rfl, trivial⟩ ?_
  · exact ⟨⟨by omega, .inr rfl⟩, (by rfl), (Nat.le_refl _), CH_1⟩
  rintro ⟨m, f⟩ w2 ⟨hm, hf, hsz2, CH_2⟩
  show VC _ _ _ _ [(0, .float .f64 y), (1, .int .i64 0), (5, .float .f64 p), (6, .int .i64 k), (7, .float .f64 f), (8, .int .i64 ((m : Int) + 1))] _
  refine VC.seq (VC.seq (VC.region (VO.mv (Rn.move rfl) rfl rfl rfl (VO.mv (Rn.move rfl) rfl rfl rfl ?_))))
  refine VO.mv (Rn.mul rfl rfl (by rw [IntKind.wrap_i64]; omega)) rfl rfl rfl ?_
  refine VO.mv (Rn.move rfl) rfl rfl rfl ?_
  refine VO.mv (Rn.add rfl rfl (by rw [IntKind.wrap_i64]; omega)) rfl rfl rfl ?_
  refine VO.mv (Rn.leq rfl rfl) rfl rfl rfl (VO.nil (VQ.then_code (VC.cond_if rfl (fun hc2 => ?_) (fun hc2 => ?_))))
  ·
   refine VC.skip (VQ.then_code (VC.seq (VC.block (VC.region (VO.mv (Rn.move rfl) rfl rfl rfl (VO.mv (Rn.move rfl) rfl rfl rfl (VO.mv (Rn.conv_if Tryz.underlying3 Tryz.underlying36 rfl) rfl rfl rfl ?_)))))))
   refine VO.wk (Wk.fbin (.inr (.inr (.inl rfl))) rfl rfl) rfl rfl rfl ?_
   rintro _ w3 ⟨r3, rfl, f3, c3⟩
   have z3 := c3.size
   refine VO.mv (Rn.assign rfl) rfl rfl rfl (VO.nil (VQ.block_normal (VQ.then_code (VC.region (VO.mv (Rn.move rfl) rfl rfl rfl ?_)))))
   refine VO.mv (Rn.add rfl rfl (by rw [IntKind.wrap_i64]; omega)) rfl rfl rfl ?_
   refine VO.mv (Rn.assign rfl) rfl rfl rfl (VO.nil ?_)
   refine VQ.round (m + 1, _) (by first | omega | (dsimp only; omega)) ?_ ⟨rfl, rfl, rfl, rfl, rfl, rfl, trivial⟩
   have CH_3 := CH_2.and c3
   exact ⟨⟨by omega, .inl (by omega)⟩, (facR_succ hm.1 hf f3), (by omega), CH_3⟩
  ·
   refine VC.exit (VQ.then_exit (VQ.then_exit (VQ.block_exit (VQ.then_code (VC.seq (VC.region (VO.mv (Rn.move rfl) rfl rfl rfl ?_)))))))
   refine VO.wk (Wk.fbin (.inr (.inr (.inr rfl))) rfl rfl) rfl rfl rfl ?_
   rintro _ w4 ⟨r4, rfl, f4, c4⟩
   have z4 := c4.size
   refine VO.mv (Rn.assign rfl) rfl rfl rfl (VO.nil (VQ.then_code (VC.seq (VC.seq (VC.region (VO.mv (Rn.move rfl) rfl rfl rfl (VO.mv (Rn.eql rfl rfl) rfl rfl rfl ?_)))))))
   refine VO.nil (VQ.then_code (VC.cond_if rfl (fun hc3 => ?_) (fun hc3 => ?_)))
   ·
    refine VC.seq (VC.region (VO.mv (Rn.move rfl) rfl rfl rfl (VO.mv (Rn.assign rfl) rfl rfl rfl (VO.nil (VQ.then_code (VC.exit (VQ.then_exit ?_)))))))
    refine VQ.block_exit (VQ.then_code (VC.region (VO.mv (Rn.move rfl) rfl rfl rfl ?_)))
    refine VO.mv (Rn.sub rfl rfl (by rw [IntKind.wrap_i64]; omega)) rfl rfl rfl ?_
    refine VO.mv (Rn.assign rfl) rfl rfl rfl (VO.nil ?_)
    refine VQ.round (k - 1, _) (by first | omega | (dsimp only; omega)) ?_ ⟨rfl, rfl, rfl, rfl, trivial⟩
    have CH_4 := CH_2.and c4
    exact ⟨⟨by omega, by omega⟩, fun _ => (by have h9 := cof_of (first := 0) (by omega) hm.1 (by omega) (by omega) hf f4; rw [show (7 - (k - 1)).toNat = 0 by omega, hornP, h9, show k.toNat = 8 by omega]), by omega, CH_4⟩
   ·
    refine VC.skip (VQ.then_code (VC.region (VO.mv (Rn.move rfl) rfl rfl rfl (VO.mv (Rn.move rfl) rfl rfl rfl (VO.mv (Rn.move rfl) rfl rfl rfl (VO.wk (Wk.fbin (.inr (.inr (.inl rfl))) rfl rfl) rfl rfl rfl ?_))))))
    rintro _ w5 ⟨r5, rfl, f5, c5⟩
    have z5 := c5.size
    refine VO.wk (Wk.fbin (.inr (.inl rfl)) rfl rfl) rfl rfl rfl ?_
    rintro _ w6 ⟨r6, rfl, f6, c6⟩
    have z6 := c6.size
    refine VO.mv (Rn.assign rfl) rfl rfl rfl (VO.nil (VQ.block_normal (VQ.then_code (VC.region (VO.mv (Rn.move rfl) rfl rfl rfl ?_)))))
    refine VO.mv (Rn.sub rfl rfl (by rw [IntKind.wrap_i64]; omega)) rfl rfl rfl ?_
    refine VO.mv (Rn.assign rfl) rfl rfl rfl (VO.nil ?_)
    refine VQ.round (k - 1, _) (by first | omega | (dsimp only; omega)) ?_ ⟨rfl, rfl, rfl, rfl, trivial⟩
    have CH_6 := CH_2.and (c4.trans (c5.trans c6))
    exact ⟨⟨by omega, by omega⟩, fun _ => horn_step (first := 0) hc1 (by omega) (hp (by omega)) (cof_of (first := 0) (by omega) hm.1 (by omega) (by omega) hf f4) f5 f6, by omega, CH_6⟩
 ·
  refine VC.exit (VQ.then_exit (VQ.then_exit (VQ.block_exit (VQ.then_code (VC.seq (VC.region (VO.mv (Rn.move rfl) rfl rfl rfl ?_)))))))
  refine VO.mv (Rn.assign rfl) rfl rfl rfl (VO.nil (VQ.then_code (VC.ret (VQ.ret1 rfl rfl (Ret.mk ?_)))))
  have ek : k = -1 := by omega
  subst ek
  exact ⟨_, rfl, hp (by omega), CH_1⟩
set_option maxHeartbeats 1000000 in
set_option maxRecDepth 100000 in
theorem ref07_series1 (y : Nat) (w : World) :
  Calls Tryz.prog 45 #[.float .f64 y, .int .i64 1] w (Ret (fun v w' => ∃ b, v = .float .f64 b ∧ cn b = hornF 1 (cn y) ∧ Ch No w w')) := by
 refine calls_of_VC (args := [.float .f64 y, .int .i64 1]) Tryz.func45 rfl Tryz.ntmps45 rfl (VC.seq (VC.region (VO.mv (Rn.assign rfl) rfl rfl rfl (VO.nil (VQ.then_code (VC.seq (VC.region ?_)))))))
 refine VO.mv (Rn.assign rfl) rfl rfl rfl (VO.nil (VQ.then_code (VC.seq (VC.seq (VC.region (VO.mv (Rn.assign rfl) rfl rfl rfl (VO.nil ?_)))))))
 refine VQ.then_code (VC.block (VC.loopS (σ := Int × Nat) (fun (k, p) => [(0, .float .f64 y), (1, .int .i64 1), (5, .float .f64 p), (6, .int .i64 k)]) (fun (k, p) w' => (-1 ≤ k ∧ k ≤ 8) ∧ (k < 8 → cn p = hornP 1 (cn y) (7 - k).toNat) ∧ w.heap.size ≤ w'.heap.size ∧ Ch (No) w w') (fun (k, p) => (k + 1).toNat) (8, 0) ?_ ⟨rfl, rfl, rfl, rfl, trivial⟩ ?_))
 · exact ⟨⟨by omega, by omega⟩, (fun h => absurd h (by omega)), (Nat.le_refl _), (Ch.refl (No) w)⟩
 rintro ⟨k, p⟩ w1 ⟨hk, hp, hsz1, CH_1⟩
 show VC _ _ _ _ [(0, .float .f64 y), (1, .int .i64 1), (5, .float .f64 p), (6, .int .i64 k)] _
 refine VC.seq (VC.seq (VC.region (VO.mv (Rn.move rfl) rfl rfl rfl (VO.mv (Rn.geq rfl rfl) rfl rfl rfl (VO.nil (VQ.then_code (VC.cond_if rfl (fun hc1 => ?_) (fun hc1 => ?_))))))))
 ·
  refine VC.skip (VQ.then_code (VC.seq (VC.block (VC.seq (VC.region (VO.mv (Rn.assign rfl) rfl rfl rfl (VO.nil ?_)))))))
  refine VQ.then_code (VC.seq (VC.seq (VC.region (VO.mv (Rn.assign rfl) rfl rfl rfl (VO.nil (VQ.then_code (VC.block ?_)))))))
  refine VC.loopS (σ := Nat × Nat) (fun (m, f) => [(0, .float .f64 y), (1, .int .i64 1), (5, .float .f64 p), (6, .int .i64 k), (7, .float .f64 f), (8, .int .i64 ((m : Int) + 1))]) (fun (m, f) w' => (1 ≤ m ∧ ((m : Int) ≤ 2 * k + 1 ∨ m = 1)) ∧ cn f = facR m ∧ w1.heap.size ≤ w'.heap.size ∧ Ch (No) w w') (fun (m, f) => 20 - m) (1, 4607182418800017408) ?_ ⟨rfl, rfl, rfl, rfl, rfl, rfl, trivial⟩ ?_
  · exact ⟨⟨by omega, .inr rfl⟩, (by rfl), (Nat.le_refl _), CH_1⟩
  rintro ⟨m, f⟩ w2 ⟨hm, hf, hsz2, CH_2⟩
  show VC _ _ _ _ [(0, .float .f64 y), (1, .int .i64 1), (5, .float .f64 p), (6, .int .i64 k), (7, .float .f64 f), (8, .int .i64 ((m : Int) + 1))] _
  refine VC.seq (VC.seq (VC.region (VO.mv (Rn.move rfl) rfl rfl rfl (VO.mv (Rn.move rfl) rfl rfl rfl ?_))))
  refine VO.mv (Rn.mul rfl rfl (by rw [IntKind.wrap_i64]; omega)) rfl rfl rfl ?_
  refine VO.mv (Rn.move rfl) rfl rfl rfl ?_
  refine VO.mv (Rn.add rfl rfl (by rw [IntKind.wrap_i64]; omega)) rfl rfl rfl ?_
  refine VO.mv (Rn.leq rfl rfl) rfl rfl rfl (VO.nil (VQ.then_code (VC.cond_if rfl (fun hc2 => ?_) (fun hc2 => ?_))))
  ·
   refine VC.skip (VQ.then_code (VC.seq (VC.block (VC.region (VO.mv (Rn.move rfl) rfl rfl rfl (VO.mv (Rn.move rfl) rfl rfl rfl (VO.mv (Rn.conv_if Tryz.underlying3 Tryz.underlying36 rfl) rfl rfl rfl ?_)))))))
   refine VO.wk (Wk.fbin (.inr (.inr (.inl rfl))) rfl rfl) rfl rfl rfl ?_
   rintro _ w3 ⟨r3, rfl, f3, c3⟩
   have z3 := c3.size
   refine VO.mv (Rn.assign rfl) rfl rfl rfl (VO.nil (VQ.block_normal (VQ.then_code (VC.region (VO.mv (Rn.move rfl) rfl rfl rfl ?_)))))
   refine VO.mv (Rn.add rfl rfl (by rw [IntKind.wrap_i64]; omega)) rfl rfl rfl ?_
   refine VO.mv (Rn.assign rfl) rfl rfl rfl (VO.nil ?_)
   refine VQ.round (m + 1, _) (by first | omega | (dsimp only; omega)) ?_ ⟨rfl, rfl, rfl, rfl, rfl, rfl, trivial⟩
   have CH_3 := CH_2.and c3
   exact ⟨⟨by omega, .inl (by omega)⟩, (facR_succ hm.1 hf f3), (by omega), CH_3⟩
  ·
   refine VC.exit (VQ.then_exit (VQ.then_exit (VQ.block_exit (VQ.then_code (VC.seq (VC.region (VO.mv (Rn.move rfl) rfl rfl rfl ?_)))))))
   refine VO.wk (Wk.fbin (.inr (.inr (.inr rfl))) rfl rfl) rfl rfl rfl ?_
   rintro _ w4 ⟨r4, rfl, f4, c4⟩
   have z4 := c4.size
   refine VO.mv (Rn.assign rfl) rfl rfl rfl (VO.nil (VQ.then_code (VC.seq (VC.seq (VC.region (VO.mv (Rn.move rfl) rfl rfl rfl (VO.mv (Rn.eql rfl rfl) rfl rfl rfl ?_)))))))
   refine VO.nil (VQ.then_code (VC.cond_if rfl (fun hc3 => ?_) (fun hc3 => ?_)))
   ·
    refine VC.seq (VC.region (VO.mv (Rn.move rfl) rfl rfl rfl (VO.mv (Rn.assign rfl) rfl rfl rfl (VO.nil (VQ.then_code (VC.exit (VQ.then_exit ?_)))))))
    refine VQ.block_exit (VQ.then_code (VC.region (VO.mv (Rn.move rfl) rfl rfl rfl ?_)))
    refine VO.mv (Rn.sub rfl rfl (by rw [IntKind.wrap_i64]; omega)) rfl rfl rfl ?_
    refine VO.mv (Rn.assign rfl) rfl rfl rfl (VO.nil ?_)
    refine VQ.round (k - 1, _) (by first | omega | (dsimp only; omega)) ?_ ⟨rfl, rfl, rfl, rfl, trivial⟩
    have CH_4 := CH_2.and c4
    exact ⟨⟨by omega, by omega⟩, fun _ => (by have h9 := cof_of (first := 1) (by omega) hm.1 (by omega) (by omega) hf f4; rw [show (7 - (k - 1)).toNat = 0 by omega, hornP, h9, show k.toNat = 8 by omega]), by omega, CH_4⟩
   ·
    refine VC.skip (VQ.then_code (VC.region (VO.mv (Rn.move rfl) rfl rfl rfl (VO.mv (Rn.move rfl) rfl rfl rfl (VO.mv (Rn.move rfl) rfl rfl rfl (VO.wk (Wk.fbin (.inr (.inr (.inl rfl))) rfl rfl) rfl rfl rfl ?_))))))
    rintro _ w5 ⟨r5, rfl, f5, c5⟩
    have z5 := c5.size
    refine VO.wk (Wk.fbin (.inr (.inl rfl)) rfl rfl) rfl rfl rfl ?_
    rintro _ w6 ⟨r6, rfl, f6, c6⟩
    have z6 := c6.size
    refine VO.mv (Rn.assign rfl) rfl rfl rfl (VO.nil (VQ.block_normal (VQ.then_code (VC.region (VO.mv (Rn.move rfl) rfl rfl rfl ?_)))))
    refine VO.mv (Rn.sub rfl rfl (by rw [IntKind.wrap_i64]; omega)) rfl rfl rfl ?_
    refine VO.mv (Rn.assign rfl) rfl rfl rfl (VO.nil ?_)
    refine VQ.round (k - 1, _) (by first | omega | (dsimp only; omega)) ?_ ⟨rfl, rfl, rfl, rfl, trivial⟩
    have CH_6 := CH_2.and (c4.trans (c5.trans c6))
    exact ⟨⟨by omega, by omega⟩, fun _ => horn_step (first := 1) hc1 (by omega) (hp (by omega)) (cof_of (first := 1) (by omega) hm.1 (by omega) (by omega) hf f4) f5 f6, by omega, CH_6⟩
 ·
  refine VC.exit (VQ.then_exit (VQ.then_exit (VQ.block_exit (VQ.then_code (VC.seq (VC.region (VO.mv (Rn.move rfl) rfl rfl rfl ?_)))))))
  refine VO.mv (Rn.assign rfl) rfl rfl rfl (VO.nil (VQ.then_code (VC.ret (VQ.ret1 rfl rfl (Ret.mk ?_)))))
  have ek : k = -1 := by omega
  subst ek
  exact ⟨_, rfl, hp (by omega), CH_1⟩
set_option maxRecDepth 100000 in
theorem ref07_eighth (r m : Int) (hr : 0 ≤ r ∧ r ≤ 1000000000000) (w : World) :
  Calls Tryz.prog 36 #[.int .i64 r, .int .i64 m] w (Ret (fun v w' => ∃ a b, v = .tuple #[.float .f64 a, .float .f64 b] ∧ cx (a, b) = eighF r m ∧ Ch No w w')) := by
 refine calls_of_VC (args := [.int .i64 r, .int .i64 m]) Tryz.func36 rfl Tryz.ntmps36 rfl (VC.seq (VC.region (VO.mv (Rn.assign rfl) rfl rfl rfl (VO.mv (Rn.assign rfl) rfl rfl rfl (VO.nil (VQ.then_code (VC.seq ?_)))))))
 refine VC.seq (VC.region (VO.mv (Rn.move rfl) rfl rfl rfl (VO.mv (Rn.eql rfl rfl) rfl rfl rfl (VO.nil (VQ.then_code (VC.cond_if rfl (fun hc1 => ?_) (fun hc1 => ?_)))))))
 ·
  refine VC.seq (VC.region (VO.mv (Rn.assign rfl) rfl rfl rfl (VO.mv (Rn.assign rfl) rfl rfl rfl (VO.nil (VQ.then_code (VC.ret (VQ.then_ret ?_)))))))
  refine VQ.ret2 rfl rfl rfl (Ret.mk ?_)
  exact ⟨_, _, rfl, (by rw [eighF, if_pos (by omega)]; rfl), (Ch.refl (No) w)⟩
 ·
  refine VC.skip (VQ.then_code (VC.seq (VC.seq (VC.region (VO.mv (Rn.move rfl) rfl rfl rfl ?_)))))
  refine VO.mv (Rn.mul rfl rfl (by rw [IntKind.wrap_i64]; omega)) rfl rfl rfl ?_
  refine VO.mv (Rn.move rfl) rfl rfl rfl (VO.mv (Rn.eql rfl rfl) rfl rfl rfl (VO.nil (VQ.then_code (VC.cond_if rfl (fun hc2 => ?_) (fun hc2 => ?_)))))
  ·
   refine VC.seq (VC.region (VO.mv (Rn.fbits Tryz.func14 (by kernel_rfl) rfl (by kernel_rfl) (by kernel_rfl) rfl) rfl rfl rfl (VO.mv (Rn.assign rfl) rfl rfl rfl (VO.nil (VQ.then_code (VC.seq (VC.region ?_)))))))
   refine VO.mv (Rn.move rfl) rfl rfl rfl (VO.mv (Rn.move rfl) rfl rfl rfl (VO.mv (Rn.assign rfl) rfl rfl rfl (VO.mv (Rn.assign rfl) rfl rfl rfl (VO.nil (VQ.then_code (VC.ret (VQ.then_ret ?_)))))))
   refine VQ.ret2 rfl rfl rfl (Ret.mk ?_)
   exact ⟨_, _, rfl, (by rw [eighF, if_neg (by omega), if_pos (by omega)]; rfl), (Ch.refl (No) w)⟩
  ·
   refine VC.skip (VQ.then_code (VC.seq (VC.region (VO.mv (Rn.fbits Tryz.func14 (by kernel_rfl) rfl (by kernel_rfl) (by kernel_rfl) rfl) rfl rfl rfl (VO.mv (Rn.move rfl) rfl rfl rfl (VO.mv (Rn.conv_if Tryz.underlying3 Tryz.underlying36 rfl) rfl rfl rfl (VO.wk (Wk.fbin (.inr (.inr (.inl rfl))) rfl rfl) rfl rfl rfl ?_)))))))
   rintro _ w1 ⟨r1, rfl, f1, c1⟩
   have z1 := c1.size
   refine VO.mv (Rn.move rfl) rfl rfl rfl (VO.mv (Rn.conv_if Tryz.underlying3 Tryz.underlying36 rfl) rfl rfl rfl (VO.wk (Wk.fbin (.inr (.inr (.inr rfl))) rfl rfl) rfl rfl rfl ?_))
   rintro _ w2 ⟨r2, rfl, f2, c2⟩
   have z2 := c2.size
   refine VO.mv (Rn.assign rfl) rfl rfl rfl (VO.nil (VQ.then_code (VC.seq (VC.region (VO.mv (Rn.move rfl) rfl rfl rfl (VO.mv (Rn.move rfl) rfl rfl rfl (VO.wk (Wk.fbin (.inr (.inr (.inl rfl))) rfl rfl) rfl rfl rfl ?_)))))))
   rintro _ w3 ⟨r3, rfl, f3, c3⟩
   have z3 := c3.size
   refine VO.mv (Rn.assign rfl) rfl rfl rfl (VO.nil (VQ.then_code (VC.seq (VC.region (VO.mv (Rn.move rfl) rfl rfl rfl (VO.wk (Wk.call Tryz.call45 rfl (ref07_series0 _ _)) rfl rfl rfl ?_))))))
   rintro _ w4 ⟨b4, rfl, F4, c4⟩
   have z4 := c4.size
   refine VO.mv (Rn.move rfl) rfl rfl rfl (VO.mv (Rn.move rfl) rfl rfl rfl (VO.wk (Wk.call Tryz.call45 rfl (ref07_series1 _ _)) rfl rfl rfl ?_))
   rintro _ w5 ⟨b5, rfl, F5, c5⟩
   have z5 := c5.size
   refine VO.wk (Wk.fbin (.inr (.inr (.inl rfl))) rfl rfl) rfl rfl rfl ?_
   rintro _ w6 ⟨r6, rfl, f6, c6⟩
   have z6 := c6.size
   refine VO.mv (Rn.assign rfl) rfl rfl rfl (VO.mv (Rn.assign rfl) rfl rfl rfl (VO.nil (VQ.then_code (VC.ret (VQ.ret2 rfl rfl rfl (Ret.mk ?_))))))
   have CH_6 := (Ch.refl (No) w).and (c1.trans (c2.trans (c3.trans (c4.trans (c5.trans c6)))))
   exact ⟨_, _, rfl, (by rw [eighF, if_neg (by omega), if_neg (by omega)]; show (cn _, cn _) = _; rw [F4, f6, F5, f3, f2, f1]; rfl), CH_6⟩
set_option maxRecDepth 100000 in
theorem ref07_Mod (a : Int) (n q : Nat) (hn : 0 < n) (ha : -1000000000000 ≤ a ∧ a ≤ 1000000000000) (hn2 : n ≤ 1000000000000) (hq : a % (n : Int) = (q : Int)) (w : World) :
  Calls Tryz.prog 35 #[.int .i64 a, .int .i64 n] w (Ret (fun v w' => v = .int .i64 q ∧ w = w')) := by
 have h0 := tmod_mod (k := a) hn
 have h1 := Int.tmod_lt_of_pos a (show (0 : Int) < n by omega)
 have h2 := Int.tmod_lt_of_pos (-a) (show (0 : Int) < n by omega)
 rw [Int.neg_tmod] at h2
 refine calls_of_VC (args := [.int .i64 a, .int .i64 n]) Tryz.func35 rfl Tryz.ntmps35 rfl (VC.seq (VC.region (VO.mv (Rn.assign rfl) rfl rfl rfl (VO.nil (VQ.then_code (VC.seq (VC.region ?_)))))))
 refine VO.mv (Rn.move rfl) rfl rfl rfl (VO.mv (Rn.move rfl) rfl rfl rfl (VO.mv (Rn.rem rfl rfl (by omega)) rfl rfl rfl (VO.mv (Rn.move rfl) rfl rfl rfl ?_)))
 refine VO.mv (Rn.add rfl rfl (by rw [IntKind.wrap_i64]; omega)) rfl rfl rfl ?_
 refine VO.mv (Rn.move rfl) rfl rfl rfl (VO.mv (Rn.rem rfl rfl (by omega)) rfl rfl rfl (VO.mv (Rn.assign rfl) rfl rfl rfl (VO.nil (VQ.then_code (VC.ret (VQ.ret1 rfl rfl (Ret.mk ?_)))))))
 exact ⟨by rw [h0, hq], rfl⟩
set_option maxRecDepth 100000 in
theorem ref07_pair (n : Nat) (a : Int) (q : Nat) (hn : 1 ≤ n) (hn2 : n ≤ 4194304) (ha : -1000000000000 ≤ a ∧ a ≤ 1000000000000) (hq : a % (n : Int) = (q : Int)) (w : World) :
  Calls Tryz.prog 26 #[.int .i64 n, .int .i64 a] w (Ret (fun v w' => ∃ c s, v = .tuple #[.float .f64 c, .float .f64 s] ∧ cx (c, s) = pairF n q ∧ Ch No w w')) := by
 have hql : q < n := by have := Int.emod_lt_of_pos a (show (0 : Int) < n by omega); omega
 have hm := Nat.mod_lt (4 * q) (show 0 < n by omega)
 have hr : (4 * (q : Int)) % (n : Int) = ((4 * q % n : Nat) : Int) := by push_cast; rfl
 have hd : (4 * (q : Int)) / (n : Int) = ((4 * q / n : Nat) : Int) := by push_cast; rfl
 have hd2 := Nat.div_le_self (4 * q) n
 have hd4 : 4 * q / n < 4 := Nat.div_lt_of_lt_mul (by omega)
 refine calls_of_VC (args := [.int .i64 n, .int .i64 a]) Tryz.func26 rfl Tryz.ntmps26 rfl (VC.seq (VC.region (VO.mv (Rn.assign rfl) rfl rfl rfl (VO.mv (Rn.assign rfl) rfl rfl rfl (VO.nil (VQ.then_code (VC.seq ?_)))))))
 refine VC.region (VO.mv (Rn.move rfl) rfl rfl rfl (VO.mv (Rn.move rfl) rfl rfl rfl (VO.wk (Wk.call Tryz.call35 rfl (ref07_Mod _ _ q (by omega) (by omega) (by omega) hq _)) rfl rfl rfl ?_)))
 rintro _ _ ⟨rfl, rfl⟩
 refine VO.mv (Rn.mul rfl rfl (by rw [IntKind.wrap_i64]; omega)) rfl rfl rfl ?_
 refine VO.mv (Rn.assign rfl) rfl rfl rfl (VO.nil (VQ.then_code (VC.seq (VC.draws 7 [(0, true), (1, true), (2, true), (3, true), (4, true), (5, true), (6, true)] (fun w1 w' => Ch (No) w1 w') mixed (by kernel_rfl) (fun _ _ => Ch.refl _ _) ?_))))
 intro w1 D1
 have c1 := Ch.of_drew D1; have z1 := c1.size
 refine VH.mv (fun w' hS => Rn.move rfl) rfl rfl rfl rfl (VH.mv (fun w' hS => Rn.move rfl) rfl rfl rfl rfl (VH.mv (fun w' hS => Rn.quo0 rfl rfl (by omega) (by omega) (by omega)) rfl rfl rfl rfl (VH.mv (fun w' hS => Rn.move rfl) rfl rfl rfl rfl (VH.mv (fun w' hS => Rn.move rfl) rfl rfl rfl rfl (VH.mv (fun w' hS => Rn.rem0 rfl rfl (by omega) (by omega)) rfl rfl rfl rfl (VH.mv (fun w' hS => Rn.assign rfl) rfl rfl rfl rfl (VH.done ?_)))))))
 refine VO.mv (Rn.assign rfl) rfl rfl rfl (VO.nil (VQ.noPanic (VQ.then_code (VC.seq (VC.region (VO.mv (Rn.assign rfl) rfl rfl rfl (VO.mv (Rn.assign rfl) rfl rfl rfl ?_)))))))
 refine VO.nil (VQ.then_code (VC.cut (σ := Nat × Nat) (fun (c, s) => [(7, .int .i64 (4 * (q : Int) / (n : Int))), (9, .float .f64 c), (10, .float .f64 s)]) (fun (c, s) w' => cx (c, s) = pair0 n q ∧ w1.heap.size ≤ w'.heap.size ∧ Ch No w w') ?_ ?_))
 ·
  refine VC.seq (VC.region (VO.mv (Rn.move rfl) rfl rfl rfl ?_))
  refine VO.mv (Rn.mul rfl rfl (by rw [IntKind.wrap_i64]; omega)) rfl rfl rfl ?_
  refine VO.mv (Rn.move rfl) rfl rfl rfl (VO.mv (Rn.leq rfl rfl) rfl rfl rfl (VO.nil (VQ.then_code (VC.cond_if rfl (fun hc1 => ?_) (fun hc1 => ?_)))))
  ·
   refine VC.region (VO.mv (Rn.move rfl) rfl rfl rfl (VO.mv (Rn.move rfl) rfl rfl rfl ?_))
   refine VO.mv (Rn.mul rfl rfl (by rw [IntKind.wrap_i64]; omega)) rfl rfl rfl ?_
   refine VO.wk (Wk.call Tryz.call36 rfl (ref07_eighth _ _ (by omega) _)) rfl rfl rfl ?_
   rintro _ w2 ⟨a2, b2, rfl, F2, c2⟩
   have z2 := c2.size
   refine VO.mv (Rn.move rfl) rfl rfl rfl (VO.mv (Rn.extract rfl rfl) rfl rfl rfl (VO.mv (Rn.extract rfl rfl) rfl rfl rfl (VO.mv (Rn.assign rfl) rfl rfl rfl (VO.mv (Rn.assign rfl) rfl rfl rfl (VO.nil (VQ.cut (_, _) ?_ ⟨rfl, rfl, rfl, trivial⟩))))))
   have CH_2 := (Ch.refl (No) w).and (c1.trans c2)
   exact ⟨(by rw [hr] at F2 hc1; rw [pair0, if_pos (by omega)]; exact F2), by omega, CH_2⟩
  ·
   refine VC.region (VO.mv (Rn.move rfl) rfl rfl rfl (VO.mv (Rn.move rfl) rfl rfl rfl ?_))
   refine VO.mv (Rn.sub rfl rfl (by rw [IntKind.wrap_i64]; omega)) rfl rfl rfl ?_
   refine VO.mv (Rn.move rfl) rfl rfl rfl ?_
   refine VO.mv (Rn.mul rfl rfl (by rw [IntKind.wrap_i64]; omega)) rfl rfl rfl ?_
   refine VO.wk (Wk.call Tryz.call36 rfl (ref07_eighth _ _ (by omega) _)) rfl rfl rfl ?_
   rintro _ w3 ⟨a3, b3, rfl, F3, c3⟩
   have z3 := c3.size
   refine VO.mv (Rn.move rfl) rfl rfl rfl (VO.mv (Rn.extract rfl rfl) rfl rfl rfl (VO.mv (Rn.extract rfl rfl) rfl rfl rfl (VO.mv (Rn.assign rfl) rfl rfl rfl (VO.mv (Rn.assign rfl) rfl rfl rfl (VO.nil (VQ.cut (_, _) ?_ ⟨rfl, rfl, rfl, trivial⟩))))))
   have CH_3 := (Ch.refl (No) w).and (c1.trans c3)
   exact ⟨(by rw [hr] at F3 hc1; rw [pair0, if_neg (by omega)]; exact congrArg (fun z : Cx => (z.2, z.1)) F3), by omega, CH_3⟩
 rintro ⟨c, s⟩ w4 ⟨hcs, hszhcs, CH_4⟩
 show VC _ _ _ _ [(7, .int .i64 (4 * (q : Int) / (n : Int))), (9, .float .f64 c), (10, .float .f64 s)] _
 refine VC.cut (σ := Nat × Nat) (fun (c1, s1) => [(9, .float .f64 c1), (10, .float .f64 s1)]) (fun (c1, s1) w' => cx (c1, s1) = turF (pair0 n q) (4 * q / n) ∧ w4.heap.size ≤ w'.heap.size ∧ Ch No w w') ?_ ?_
 ·
  refine VC.seq (VC.region (VO.mv (Rn.move rfl) rfl rfl rfl (VO.nil (VQ.then_code (VC.block (VC.seq (VC.region ?_)))))))
  refine VO.mv (Rn.eql rfl rfl) rfl rfl rfl (VO.mv (Rn.assign rfl) rfl rfl rfl (VO.nil (VQ.then_code (VC.cond_if rfl (fun hc2 => ?_) (fun hc2 => ?_)))))
  ·
   refine VC.region (VO.mv (Rn.move rfl) rfl rfl rfl (VO.mv (Rn.fneg rfl) rfl rfl rfl (VO.mv (Rn.move rfl) rfl rfl rfl (VO.mv (Rn.assign rfl) rfl rfl rfl (VO.mv (Rn.assign rfl) rfl rfl rfl (VO.nil (VQ.block_normal ?_)))))))
   refine VQ.cut (_, _) ?_ ⟨rfl, rfl, trivial⟩
   exact ⟨(by rw [hd] at hc2; rw [show 4 * q / n = 1 by omega, ← hcs]; show (cn _, cn _) = _; rw [cn_neg]; rfl), by omega, CH_4⟩
  ·
   refine VC.seq (VC.region (VO.mv (Rn.eql rfl rfl) rfl rfl rfl (VO.mv (Rn.assign rfl) rfl rfl rfl (VO.nil (VQ.then_code (VC.cond_if rfl (fun hc3 => ?_) (fun hc3 => ?_)))))))
   ·
    refine VC.region (VO.mv (Rn.move rfl) rfl rfl rfl (VO.mv (Rn.fneg rfl) rfl rfl rfl (VO.mv (Rn.move rfl) rfl rfl rfl (VO.mv (Rn.fneg rfl) rfl rfl rfl (VO.mv (Rn.assign rfl) rfl rfl rfl (VO.mv (Rn.assign rfl) rfl rfl rfl (VO.nil ?_)))))))
    refine VQ.block_normal (VQ.cut (_, _) ?_ ⟨rfl, rfl, trivial⟩)
    exact ⟨(by rw [hd] at hc3; rw [show 4 * q / n = 2 by omega, tur_two, ← hcs]; show (cn _, cn _) = _; rw [cn_neg, cn_neg]; rfl), by omega, CH_4⟩
   ·
    refine VC.seq (VC.region (VO.mv (Rn.eql rfl rfl) rfl rfl rfl (VO.mv (Rn.assign rfl) rfl rfl rfl (VO.nil (VQ.then_code (VC.cond_if rfl (fun hc4 => ?_) (fun hc4 => ?_)))))))
    ·
     refine VC.region (VO.mv (Rn.move rfl) rfl rfl rfl (VO.mv (Rn.move rfl) rfl rfl rfl (VO.mv (Rn.fneg rfl) rfl rfl rfl (VO.mv (Rn.assign rfl) rfl rfl rfl (VO.mv (Rn.assign rfl) rfl rfl rfl (VO.nil (VQ.block_normal ?_)))))))
     refine VQ.cut (_, _) ?_ ⟨rfl, rfl, trivial⟩
     exact ⟨(by rw [hd] at hc4; rw [show 4 * q / n = 3 by omega, tur_three, ← hcs]; show (cn _, cn _) = _; rw [cn_neg]; rfl), by omega, CH_4⟩
    ·
     refine VC.skip (VQ.block_normal (VQ.cut (_, _) ?_ ⟨rfl, rfl, trivial⟩))
     exact ⟨(by rw [show 4 * q / n = 0 by generalize 4 * q / n = m at hd hd4; rw [hd] at hc2 hc3 hc4; omega]; exact hcs), by omega, CH_4⟩
 rintro ⟨c1, s1⟩ w5 ⟨hc1s, hszhc1s, CH_5⟩
 show VC _ _ _ _ [(9, .float .f64 c1), (10, .float .f64 s1)] _
 refine VC.cut (σ := Nat × Nat) (fun (c2, s2) => [(9, .float .f64 c2), (10, .float .f64 s2)]) (fun (c2, s2) w' => (cn c2 = pzF (turF (pair0 n q) (4 * q / n)).1 ∧ cn s2 = (turF (pair0 n q) (4 * q / n)).2) ∧ w5.heap.size ≤ w'.heap.size ∧ Ch No w w') ?_ ?_
 ·
  refine VC.seq (VC.region (VO.mv (Rn.move rfl) rfl rfl rfl (VO.mv (Rn.feql rfl rfl) rfl rfl rfl (VO.nil (VQ.then_code (VC.cond rfl (fun hc5 => ?_) (fun hc5 => ?_)))))))
  ·
   try simp only [Bool.and_eq_true, Bool.or_eq_true, Bool.not_eq_true', Bool.not_eq_false', Bool.and_eq_false_iff, Bool.or_eq_false_iff, decide_eq_true_eq, decide_eq_false_iff_not] at hc5
   refine VC.region (VO.mv (Rn.assign rfl) rfl rfl rfl (VO.nil (VQ.cut (_, _) ?_ ⟨rfl, rfl, trivial⟩)))
   exact ⟨⟨by rw [← hc1s]; exact pz_yes hc5, by rw [← hc1s]; rfl⟩, by omega, CH_5⟩
  ·
   try simp only [Bool.and_eq_true, Bool.or_eq_true, Bool.not_eq_true', Bool.not_eq_false', Bool.and_eq_false_iff, Bool.or_eq_false_iff, decide_eq_true_eq, decide_eq_false_iff_not] at hc5
   refine VC.skip (VQ.cut (_, _) ?_ ⟨rfl, rfl, trivial⟩)
   exact ⟨⟨by rw [← hc1s]; exact pz_no (by simpa using hc5), by rw [← hc1s]; rfl⟩, by omega, CH_5⟩
 rintro ⟨c2, s2⟩ w6 ⟨hc2s, hszhc2s, CH_6⟩
 show VC _ _ _ _ [(9, .float .f64 c2), (10, .float .f64 s2)] _
 refine VC.cut (σ := Nat × Nat) (fun (c3, s3) => [(9, .float .f64 c3), (10, .float .f64 s3)]) (fun (c3, s3) w' => (cn c3 = pzF (turF (pair0 n q) (4 * q / n)).1 ∧ cn s3 = pzF (turF (pair0 n q) (4 * q / n)).2) ∧ w6.heap.size ≤ w'.heap.size ∧ Ch No w w') ?_ ?_
 ·
  refine VC.seq (VC.region (VO.mv (Rn.move rfl) rfl rfl rfl (VO.mv (Rn.feql rfl rfl) rfl rfl rfl (VO.nil (VQ.then_code (VC.cond rfl (fun hc6 => ?_) (fun hc6 => ?_)))))))
  ·
   try simp only [Bool.and_eq_true, Bool.or_eq_true, Bool.not_eq_true', Bool.not_eq_false', Bool.and_eq_false_iff, Bool.or_eq_false_iff, decide_eq_true_eq, decide_eq_false_iff_not] at hc6
   refine VC.region (VO.mv (Rn.assign rfl) rfl rfl rfl (VO.nil (VQ.cut (_, _) ?_ ⟨rfl, rfl, trivial⟩)))
   exact ⟨⟨hc2s.1, by rw [← hc2s.2]; exact pz_yes hc6⟩, by omega, CH_6⟩
  ·
   try simp only [Bool.and_eq_true, Bool.or_eq_true, Bool.not_eq_true', Bool.not_eq_false', Bool.and_eq_false_iff, Bool.or_eq_false_iff, decide_eq_true_eq, decide_eq_false_iff_not] at hc6
   refine VC.skip (VQ.cut (_, _) ?_ ⟨rfl, rfl, trivial⟩)
   exact ⟨⟨hc2s.1, by rw [← hc2s.2]; exact pz_no (by simpa using hc6)⟩, by omega, CH_6⟩
 rintro ⟨c3, s3⟩ w7 ⟨hc3s, hszhc3s, CH_7⟩
 show VC _ _ _ _ [(9, .float .f64 c3), (10, .float .f64 s3)] _
 refine VC.seq (VC.region (VO.mv (Rn.move rfl) rfl rfl rfl (VO.mv (Rn.move rfl) rfl rfl rfl (VO.mv (Rn.assign rfl) rfl rfl rfl (VO.mv (Rn.assign rfl) rfl rfl rfl (VO.nil (VQ.then_code ?_)))))))
 refine VC.ret (VQ.ret2 rfl rfl rfl (Ret.mk ?_))
 exact ⟨_, _, rfl, (by show (cn _, cn _) = _; rw [hc3s.1, hc3s.2]; rfl), CH_7⟩
set_option maxRecDepth 100000 in
theorem ref07_length (n : Nat) (hn : 1 ≤ n) (hn2 : n ≤ 4194304) (w : World) :
  Calls Tryz.prog 25 #[.int .i64 n] w (Ret (fun v w' => v = .bool true ∧ w = w')) := by
 refine calls_of_VC (args := [.int .i64 n]) Tryz.func25 rfl Tryz.ntmps25 rfl (VC.seq (VC.region (VO.mv (Rn.assign rfl) rfl rfl rfl (VO.nil (VQ.then_code (VC.seq (VC.region ?_)))))))
 refine VO.mv (Rn.move rfl) rfl rfl rfl (VO.mv (Rn.geq rfl rfl) rfl rfl rfl (VO.mv (Rn.move rfl) rfl rfl rfl ?_))
 refine VO.andJoin (b := _) 3 5 8 rfl (fun hc1 Jhc1 => by
   try simp only [Bool.and_eq_true, Bool.or_eq_true, Bool.not_eq_true', Bool.not_eq_false', Bool.and_eq_false_iff, Bool.or_eq_false_iff, decide_eq_true_eq, decide_eq_false_iff_not] at hc1
   refine VO.mv (Rn.move rfl) rfl rfl rfl (VO.mv (Rn.leq rfl rfl) rfl rfl rfl (VO.mv (Rn.pick_true rfl rfl) rfl rfl rfl ?_))
   exact (VO.fg rfl (VO.fg rfl Jhc1))) (fun hc1 Jhc1 => by
   refine VO.skip rfl rfl rfl (VO.skip rfl rfl rfl (VO.mv (Rn.pick_false rfl rfl) rfl rfl rfl ?_))
   exact (VO.fg rfl (VO.fg rfl Jhc1))) ?_
 refine VO.mv (Rn.assign rfl) rfl rfl rfl (VO.nil (VQ.then_code (VC.ret (VQ.ret1 rfl rfl (Ret.mk ?_)))))
 exact ⟨by simp; omega, rfl⟩
set_option maxRecDepth 100000 in
theorem ref07_Cos (n : Nat) (a : Int) (q : Nat) (hn : 1 ≤ n) (hn2 : n ≤ 4194304) (ha : -1000000000000 ≤ a ∧ a ≤ 1000000000000) (hq : a % (n : Int) = (q : Int)) (w : World) :
  Calls Tryz.prog 16 #[.int .i64 n, .int .i64 a] w (Ret (fun v w' => ∃ x, v = .tuple #[.float .f64 x, .int .i64 0] ∧ cn x = (pairF n q).1 ∧ Ch No w w')) := by
 refine calls_of_VC (args := [.int .i64 n, .int .i64 a]) Tryz.func16 rfl Tryz.ntmps16 rfl (VC.seq (VC.region (VO.mv (Rn.assign rfl) rfl rfl rfl (VO.mv (Rn.assign rfl) rfl rfl rfl (VO.nil (VQ.then_code (VC.seq ?_)))))))
 refine VC.region (VO.mv (Rn.move rfl) rfl rfl rfl (VO.wk (Wk.call Tryz.call25 rfl (ref07_length _ (by omega) (by omega) _)) rfl rfl rfl ?_))
 rintro _ _ ⟨rfl, rfl⟩
 refine VO.mv (Rn.assign rfl) rfl rfl rfl (VO.nil (VQ.then_code (VC.seq (VC.seq (VC.region (VO.mv (Rn.move rfl) rfl rfl rfl (VO.mv (Rn.not rfl) rfl rfl rfl ?_)))))))
 refine VO.nil (VQ.then_code (VC.cond_false rfl (VC.skip (VQ.then_code (VC.seq (VC.region (VO.mv (Rn.move rfl) rfl rfl rfl ?_)))))))
 refine VO.mv (Rn.move rfl) rfl rfl rfl (VO.wk (Wk.call Tryz.call26 rfl (ref07_pair _ _ q (by omega) (by omega) (by omega) hq _)) rfl rfl rfl ?_)
 rintro _ w1 ⟨x1, y1, rfl, F1, c1⟩
 have z1 := c1.size
 refine VO.mv (Rn.move rfl) rfl rfl rfl (VO.mv (Rn.extract rfl rfl) rfl rfl rfl (VO.mv (Rn.extract rfl rfl) rfl rfl rfl (VO.mv (Rn.assign rfl) rfl rfl rfl (VO.mv (Rn.assign rfl) rfl rfl rfl (VO.nil (VQ.then_code (VC.seq ?_)))))))
 refine VC.region (VO.mv (Rn.move rfl) rfl rfl rfl (VO.mv (Rn.assign rfl) rfl rfl rfl (VO.mv (Rn.assign rfl) rfl rfl rfl (VO.nil (VQ.then_code (VC.ret (VQ.ret2 rfl rfl rfl ?_)))))))
 refine Ret.mk ?_
 have CH_1 := (Ch.refl (No) w).and c1
 exact ⟨_, rfl, congrArg (·.1) F1, CH_1⟩
end Go.Tm
