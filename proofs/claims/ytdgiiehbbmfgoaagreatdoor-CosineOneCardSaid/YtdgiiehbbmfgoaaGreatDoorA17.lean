/- Lemmas of this claim, joined by program. Walks of functions: a plan of 1, 2 or 4 by New; cosine transforms: one element; the sum; the law of one element. The law CosineOne walks. What a row's laid variables give the walks, cosineOne. Conditions: each lemma names its own. -/
import Derived.Test.YtdgiiehbbmfgoaaGreatDoorA15
import Derived.Test.YtdgiiehbbmfgoaaGreatDoorA10
import Derived.Test.YtdgiiehbbmfgoaaGreatDoorA16
import Derived.Test.YtdgiiehbbmfgoaaGreatDoorRows
import Derived.ProofKit
import Derived.LaidMore
import Derived.LaidSub
import Derived.OpenShut
import Derived.Stop.Joined
import Derived.Lib.LaidTab
import Derived.Deep.Slices
import Derived.Deep.Fields
import Derived.Deep.OwnRows
import Derived.WideKeyArgs
import Derived.ChangeSlices
set_option linter.all false
namespace Go.Tm
open Go.RowKit Go.Proofs
/-- The plan of 1, 2 or 4 elements, by New. -/
theorem plan_NewL (n : Nat) (hn : n = 1 ∨ n = 2 ∨ n = 4) (w : World) (st : StT w) (tab : TabB w.heap.size w) (hG : 12 ≤ w.heap.size) :
    Calls Tryz.prog 69 #[.int .i64 n] w (Ret fun v w' => ∃ p P, v = .tuple #[.pointer (some ⟨p, 0, none⟩), .nilIface] ∧ PlnR w.heap.size w'.heap.size w' p P ∧ Leaf n P.b ∧ Ch No w w') := by
  refine (plan_New n (by omega) (by omega) (hasP24 n (by omega) (by omega)) w st tab hG).mono ?_
  rintro e w' ⟨v, rfl, p, rr, rfl, hr, h1, h2⟩
  exact ⟨_, rfl, p, _, rfl, h1, best_leaf hn hr, h2⟩
abbrev UV (i : Int) : Value := .int .u64 i
theorem SlR.getU {S : Nat → Prop} {w : World} {A : Option Addr} {l : Nat} {xs : List Int} (h : SlR S w A l 1 (xs.map UV)) {i : Int} (h0 : 0 ≤ i) (h1 : i < l) : w.cell? ((sAddr A).add (i.toNat * 1)) = some (.int .u64 (xs.getD i.toNat 0)) := SlR.get (f := UV) h 0 h0 h1
/-- The floats of bits. -/
def flO (bs : List Int) : List Nat := bs.map Int.toNat
theorem flO_take {bs : List Int} {j : Nat} (h : j < bs.length) : ((flO bs).take (j + 1)).map flV = ((flO bs).take j).map flV ++ [.float .f64 (bs.getD j 0).toNat] := by
  have h2 : j < (flO bs).length := by simpa [flO] using h
  rw [List.take_add_one, List.map_append, List.getElem?_eq_getElem h2]
  simp [flO, List.getD, h]
/-- The sum from the left. -/
def sumLF (X : Nat → Fl) : Nat → Fl
  | 0 => X 0
  | j + 1 => fadd (sumLF X j) (X (j + 1))
abbrev XF (xs : List Nat) : Nat → Fl := fun i => cn (xs.getD i 0)
/-- Element 0 of the sum's answer, under way. -/
structure SumI (X : Nat → Fl) (n k j : Nat) (zs : List Nat) : Prop where
  len : zs.length = n
  zero : k = 0 → 0 < j → cn (zs.getD 0 0) = sumLF X (j - 1)
  past : 0 < k → cn (zs.getD 0 0) = sumLF X (n - 1)
theorem SumI.init (X : Nat → Fl) (n : Nat) : SumI X n 0 0 (List.replicate n 0) := ⟨by simp, fun _ h => absurd h (by omega), fun h => absurd h (by omega)⟩
theorem SumI.round {X : Nat → Fl} {n k j : Nat} {zs : List Nat} (h : SumI X n k j zs) (hj : j = n) (hn : 0 < n) : SumI X n (k + 1) 0 zs := by
  subst hj
  refine ⟨h.len, fun h => absurd h (by omega), fun _ => ?_⟩
  by_cases e : k = 0
  · exact h.zero e hn
  · exact h.past (by omega)
theorem SumI.step {X : Nat → Fl} {n k j : Nat} {zs : List Nat} {a : Nat} (h : SumI X n k j zs) (hn : 0 < n) (ha : k = 0 → cn a = sumLF X j) : SumI X n k (j + 1) (zs.set k a) := by
  refine ⟨by rw [List.length_set]; exact h.len, fun e _ => ?_, fun e => ?_⟩
  · subst e
    rw [getD_set (by rw [h.len]; exact hn), if_pos rfl]; exact ha rfl
  · have : (zs.set k a).getD 0 0 = zs.getD 0 0 := by
      simp only [List.getD, List.getElem?_set]
      rw [if_neg (by omega)]
    rw [this]; exact h.past e
theorem SumI.val1 {X : Nat → Fl} {n k j : Nat} {zs : List Nat} {a p c : Nat} (h : SumI X n k j zs) (hj : 0 < j) (hX : FlOk (X j)) (fa : cn a = fop .add (cn (zs.getD k 0)) (cn p)) (fp : cn p = fop .mul (X j) (cn c)) (fc : k = 0 → cn c = one) : k = 0 → cn a = sumLF X j := fun e => by
  have h0 := h.zero e hj
  have hc := fc e
  subst e
  rw [fa, fp, hc, h0]
  obtain ⟨i, rfl⟩ : ∃ i, j = i + 1 := ⟨j - 1, by omega⟩
  show fop .add (sumLF X i) (fop .mul (X (i + 1)) one) = fop .add (sumLF X i) (X (i + 1))
  rw [show fop .mul (X (i + 1)) one = X (i + 1) from fmul_one hX]
theorem SumI.val0 {X : Nat → Fl} {k j a c : Nat} (hj : j = 0) (hX : FlOk (X j)) (fp : cn a = fop .mul (X j) (cn c)) (fc : k = 0 → cn c = one) : k = 0 → cn a = sumLF X j := fun e => by
  rw [fp, fc e]
  subst hj
  exact fmul_one hX
theorem pair_zero (n : Nat) (hn : 0 < n) : pairF n 0 = (one, fl0) := by
  have e : pair0 n 0 = (one, fl0) := by
    unfold pair0
    simp [eighF]
  unfold pairF
  rw [e, Nat.mul_zero, Nat.zero_div]
  show (pzF one, pzF fl0) = _
  kernel_rfl
theorem fwd_one {b : Bld} (h : Leaf 1 b) (z : Cx) : fwdC b [z] = [z] := by
  cases h
  rw [fwd_direct (n := 1) (zs := [z]) rfl]; rfl
theorem neg_neg (x : Fl) : fneg (fneg x) = x := by
  cases x with
  | none => rfl
  | some b => show some ((b ^^^ 2 ^ 63) ^^^ 2 ^ 63) = _; rw [Nat.xor_assoc, Nat.xor_self, Nat.xor_zero]
theorem inv_one {b : Bld} (h : Leaf 1 b) (z : Cx) (h1 : FlOk z.1) : (invC b [z]).map (·.1) = [z.1] := by
  unfold invC
  simp only [List.map_cons, List.map_nil, fwd_one h]
  rw [h.ln]
  show [fquo z.1 (fi ((1 : Nat) : Int))] = _
  rw [show ((1 : Nat) : Int) = 1 from rfl, fi_one, fquo_one h1]
theorem map_one {α β : Type} {f : α → β} {l : List α} {y : β} (h : l.map f = [y]) : ∃ x, l = [x] ∧ f x = y := by
  match l, h with
  | [x], h => exact ⟨x, rfl, by simpa using h⟩
/-- The reference's bits. -/
def bitF (b : Nat) : Nat := if 2 ^ 52 * (2 ^ 11 - 1) < b % 2 ^ 63 then 9221120237041090560 else b
theorem bitF_same {a b : Nat} (h : cn a = cn b) : bitF a = bitF b := by
  rw [cn_eq, cn_eq] at h
  unfold bitF
  by_cases p : 2 ^ 52 * (2 ^ 11 - 1) < a % 2 ^ 63
  · by_cases q : 2 ^ 52 * (2 ^ 11 - 1) < b % 2 ^ 63
    · rw [if_pos p, if_pos q]
    · rw [if_pos p, if_neg q] at h; cases h
  · by_cases q : 2 ^ 52 * (2 ^ 11 - 1) < b % 2 ^ 63
    · rw [if_neg p, if_pos q] at h; cases h
    · rw [if_neg p, if_neg q] at h; injection h with h; subst h; rfl
section
variable {P : Program} {n : Fr} {k : K} {w : World} {d : Option Tmp} {ty : TypeId} {pos : String} {aft : Array Edge} {g : Option (Nat × Bool)}
/-- The bits of a float. -/
theorem Rn.fromf {f : FuncId} {fn : Func} {x : Operand} {ts : Array TypeId} {m : Nat} (hf : P.funcs[f]? = some fn) (hname : (fn.name == "runtime.NumGoroutine") = false) (hb : fn.body.isNone = true) (hn : Extern.findNext fn = none)
    (he : Extern.find fn = some Extern.MathFloatBits.float64bits) (hx : ev k x = some (.float .f64 m)) :
    Rn P n k w { dst := d, op := .call { callee := .value (.func f), args := #[x], argTypes := ts }, type := ty, pos := pos, after := aft, guard := g } (.int .u64 m) :=
  fun ac ha => by
    have h1 : ¬ fn.name = "runtime.NumGoroutine" := by simpa using hname
    have h2 : fn.body = none := by simpa using hb
    have h3 : ac.eval (.func f) = .func (.func f) #[] #[] := rfl
    have h4 : (Extern.MathFloatBits.float64bits #[.float .f64 m]).run P w = .ok (.int .u64 m) w := rfl
    simp [execOp, resolve, h3, Deferred.ofValue, invoke, callFunc, hf, h1, h2, hn, he, ha.eval hx, h4]
end
def fst1 (x j : Nat) : List CB := if j = 0 then [(0, 0)] else [(x, 0)]
theorem feq_const {a b : Nat} (h : cn a = cn b) (hb : cn b = some b) (he : (Ieee.double.order b b == some .eq) = true) : (Ieee.double.order a b == some .eq) = true := by
  rw [hb] at h
  unfold cn at h
  split at h
  · cases h
  · injection h with h; rw [h]; exact he

set_option maxRecDepth 100000 in
theorem inf25w53 : Inf Tryz.prog 25 (.float .f64 0) 1 8 := ⟨Tryz.t25, Tryz.type25, rfl, rfl, rfl⟩
set_option maxRecDepth 100000 in
theorem inf53w53 : Inf Tryz.prog 53 (.complex .f64 0 0) 1 16 := ⟨Tryz.t53, Tryz.type53, rfl, rfl, rfl⟩
set_option maxRecDepth 100000 in
theorem ref_Bits (a : Nat) (w : World) :
    Calls Tryz.prog 45 #[.float .f64 a] w (Ret (fun v w' => v = .int .u64 (bitF a : Nat) ∧ w = w')) := by
  refine calls_of_VC (args := [.float .f64 a]) Tryz.func45 rfl Tryz.ntmps45 rfl (VC.seq (VC.region (VO.mv (Rn.assign rfl) rfl rfl rfl (VO.nil (VQ.then_code (VC.seq (VC.region ?_)))))))
  refine VO.mv (Rn.move rfl) rfl rfl rfl (VO.mv (Rn.fromf Tryz.func73 (by kernel_rfl) rfl (by kernel_rfl) (by kernel_rfl) rfl) rfl rfl rfl (VO.mv (Rn.assign rfl) rfl rfl rfl (VO.nil (VQ.then_code (VC.seq (VC.seq (VC.region ?_)))))))
  refine VO.mv (Rn.move rfl) rfl rfl rfl (VO.mv (Rn.rem0 rfl rfl (by omega) (by omega)) rfl rfl rfl (VO.mv (Rn.gtr rfl rfl) rfl rfl rfl (VO.nil (VQ.then_code (VC.cond_if rfl (fun hc1 => ?_) (fun hc1 => ?_))))))
  · skip
    refine VC.seq (VC.region (VO.mv (Rn.assign rfl) rfl rfl rfl (VO.nil (VQ.then_code (VC.ret (VQ.then_ret (VQ.ret1 rfl rfl ?_)))))))
    refine Ret.mk ?_
    exact ⟨by unfold bitF; rw [if_pos (by omega)]; rfl, rfl⟩
  · skip
    refine VC.skip (VQ.then_code (VC.seq (VC.region (VO.mv (Rn.move rfl) rfl rfl rfl (VO.mv (Rn.assign rfl) rfl rfl rfl (VO.nil (VQ.then_code ?_)))))))
    refine VC.ret (VQ.ret1 rfl rfl (Ret.mk ?_))
    exact ⟨by unfold bitF; rw [if_neg (by omega)], rfl⟩

set_option maxRecDepth 100000 in
theorem ref_SameT (a b : Nat) (h : cn a = cn b) (w : World) :
    Calls Tryz.prog 15 #[.float .f64 a, .float .f64 b] w (Ret (fun v w' => v = .bool true ∧ w = w')) := by
  have he := bitF_same h
  refine calls_of_VC (args := [.float .f64 a, .float .f64 b]) Tryz.func15 rfl Tryz.ntmps15 rfl (VC.seq (VC.region (VO.mv (Rn.assign rfl) rfl rfl rfl (VO.nil (VQ.then_code (VC.seq (VC.region ?_)))))))
  refine VO.mv (Rn.move rfl) rfl rfl rfl (VO.wk (Wk.call Tryz.call45 rfl (ref_Bits _ _)) rfl rfl rfl ?_)
  rintro _ _ ⟨rfl, rfl⟩
  refine VO.mv (Rn.move rfl) rfl rfl rfl (VO.wk (Wk.call Tryz.call45 rfl (ref_Bits _ _)) rfl rfl rfl ?_)
  rintro _ _ ⟨rfl, rfl⟩
  refine VO.mv (Rn.eqlT rfl rfl (by rw [he])) rfl rfl rfl (VO.mv (Rn.assign rfl) rfl rfl rfl (VO.nil (VQ.then_code (VC.ret (VQ.ret1 rfl rfl (Ret.mk ?_))))))
  exact ⟨rfl, rfl⟩

set_option maxRecDepth 100000 in
theorem ref_SameList1 (SA SB : Nat → Prop) (A B : Option Addr) (ca cb : Nat) (a b : Nat) (w : World) (sa : SlR SA w A 1 1 ([a].map flV)) (sb : SlR SB w B 1 1 ([b].map flV)) (hs : cn a = cn b) :
    Calls Tryz.prog 44 #[.slice A 1 ca, .slice B 1 cb] w (Ret (fun v w' => v = .bool true ∧ Ch No w w')) := by
  refine calls_of_VC (args := [.slice A 1 ca, .slice B 1 cb]) Tryz.func44 rfl Tryz.ntmps44 rfl (VC.seq (VC.region (VO.mv (Rn.assign rfl) rfl rfl rfl (VO.nil (VQ.then_code (VC.seq (VC.seq ?_)))))))
  refine VC.region (VO.mv (Rn.move rfl) rfl rfl rfl (VO.mv (Rn.len Tryz.underlying27 rfl) rfl rfl rfl (VO.mv (Rn.move rfl) rfl rfl rfl (VO.mv (Rn.len Tryz.underlying27 rfl) rfl rfl rfl (VO.mv (Rn.neq rfl rfl) rfl rfl rfl (VO.nil (VQ.then_code ?_)))))))
  refine VC.cond_if rfl (fun hc1 => ?_) (fun hc1 => ?_)
  · skip
    omega
  · skip
    refine VC.skip (VQ.then_code (VC.seq (VC.seq (VC.region (VO.mv (Rn.move rfl) rfl rfl rfl (VO.mv (Rn.len Tryz.underlying27 rfl) rfl rfl rfl (VO.mv (Rn.move rfl) rfl rfl rfl ?_)))))))
    refine VO.nil (VQ.then_code (VC.block (VC.loopS (σ := Nat) (fun j => [(0, .slice A 1 ca), (1, .slice B 1 cb), (13, .int .i64 1), (14, .int .i64 j)]) (fun j w' => j ≤ 1 ∧ w.heap.size ≤ w'.heap.size ∧ SlR SA w' A 1 1 ([a].map flV) ∧ SlR SB w' B 1 1 ([b].map flV) ∧ Ch (No) w w') (fun j => 1 - j) 0 ?_ ⟨rfl, rfl, rfl, rfl, trivial⟩ ?_)))
    · exact ⟨(by omega), (Nat.le_refl _), sa, sb, (Ch.refl (No) w)⟩
    rintro j w1 ⟨hj, hsz1, sa_1, sb_1, CH_1⟩
    show VC _ _ _ _ [(0, .slice A 1 ca), (1, .slice B 1 cb), (13, .int .i64 1), (14, .int .i64 j)] _
    refine VC.seq (VC.region (VO.mv (Rn.lss rfl rfl) rfl rfl rfl (VO.nil (VQ.then_code (VC.seq (VC.cond_if rfl (fun hc2 => ?_) (fun hc2 => ?_)))))))
    · skip
      obtain rfl : j = 0 := by omega
      refine VC.skip (VQ.then_code (VC.seq (VC.block (VC.seq (VC.region (VO.mv (Rn.move rfl) rfl rfl rfl (VO.mv (Rn.assign rfl) rfl rfl rfl ?_)))))))
      refine VO.nil (VQ.then_code (VC.seq (VC.draws 9 [(0, true), (1, true), (2, true), (3, true), (4, true), (5, true), (6, true), (7, true), (8, false)] (fun w1 w' => Ch (No) w1 w') mixed (by kernel_rfl) (fun _ _ => Ch.refl _ _) ?_)))
      intro w2 D2
      have c2 := Ch.of_drew D2; have z2 := c2.size
      have sa_2 := sa_1.keep c2
      have sb_2 := sb_1.keep c2
      refine VH.mv (fun w' hS => Rn.move rfl) rfl rfl rfl rfl (VH.mv (fun w' hS => Rn.move rfl) rfl rfl rfl rfl (VH.mv (fun w' hS => Rn.indexS Tryz.underlying27 Tryz.sizeOf25 rfl rfl ((sa_2.keep hS).ne (by omega)) (by omega) (by omega)) rfl rfl rfl rfl (VH.mv (fun w' hS => Rn.load Tryz.isAgg25 rfl ((sa_2.keep hS).getF (by omega) (by omega))) rfl rfl rfl rfl (VH.mv (fun w' hS => Rn.move rfl) rfl rfl rfl rfl (VH.mv (fun w' hS => Rn.move rfl) rfl rfl rfl rfl (VH.mv (fun w' hS => Rn.indexS Tryz.underlying27 Tryz.sizeOf25 rfl rfl ((sb_2.keep hS).ne (by omega)) (by omega) (by omega)) rfl rfl rfl rfl (VH.mv (fun w' hS => Rn.load Tryz.isAgg25 rfl ((sb_2.keep hS).getF (by omega) (by omega))) rfl rfl rfl rfl ?_)))))))
      refine VH.wk (Wk.call Tryz.call15 rfl (ref_SameT _ _ hs _)) rfl rfl rfl rfl ?_
      rintro _ _ ⟨rfl, rfl⟩
      refine ⟨(Ch.refl (No) w2), ?_⟩
      refine VH.done (VO.mv (Rn.assign rfl) rfl rfl rfl (VO.nil (VQ.noPanic (VQ.then_code (VC.seq (VC.region (VO.mv (Rn.move rfl) rfl rfl rfl ?_)))))))
      refine VO.mv (Rn.not rfl) rfl rfl rfl (VO.nil (VQ.then_code (VC.cond_false rfl (VC.skip (VQ.block_normal (VQ.then_code (VC.region ?_)))))))
      refine VO.mv (Rn.add rfl rfl (by rw [IntKind.wrap_i64]; omega)) rfl rfl rfl ?_
      refine VO.mv (Rn.move rfl) rfl rfl rfl (VO.nil ?_)
      refine VQ.round (0 + 1) (by first | omega | (dsimp only; omega)) ?_ ⟨rfl, rfl, rfl, rfl, trivial⟩
      have CH_2 := CH_1.and c2
      exact ⟨(by omega), (by omega), sa_2, sb_2, CH_2⟩
    · skip
      refine VC.exit (VQ.then_exit (VQ.then_exit (VQ.block_exit (VQ.then_code (VC.seq (VC.region (VO.mv (Rn.assign rfl) rfl rfl rfl ?_)))))))
      refine VO.nil (VQ.then_code (VC.ret (VQ.ret1 rfl rfl (Ret.mk ?_))))
      exact ⟨rfl, CH_1⟩

set_option maxRecDepth 100000 in
theorem law23_same (SA SB : Nat → Prop) (A B : Option Addr) (ca cb : Nat) (a b : Nat) (w : World) (sA : SlR SA w A 1 1 ([a].map flV)) (sB : SlR SB w B 1 1 ([b].map flV)) (hs : cn a = cn b) :
    Calls Tryz.prog 13 #[.slice A 1 ca, .slice B 1 cb] w (Ret (fun v w' => v = .bool true ∧ Ch No w w')) := by
  refine calls_of_VC (args := [.slice A 1 ca, .slice B 1 cb]) Tryz.func13 rfl Tryz.ntmps13 rfl (VC.seq (VC.region (VO.mv (Rn.assign rfl) rfl rfl rfl (VO.nil (VQ.then_code (VC.seq (VC.region ?_)))))))
  refine VO.mv (Rn.move rfl) rfl rfl rfl (VO.mv (Rn.move rfl) rfl rfl rfl (VO.wk (Wk.call Tryz.call44 rfl (ref_SameList1 _ _ _ _ _ _ _ _ _ sA sB hs)) rfl rfl rfl ?_))
  rintro _ w1 ⟨rfl, c1⟩
  have z1 := c1.size
  refine VO.mv (Rn.assign rfl) rfl rfl rfl (VO.nil (VQ.then_code (VC.ret (VQ.ret1 rfl rfl (Ret.mk ?_)))))
  have CH_1 := (Ch.refl (No) w).and c1
  exact ⟨rfl, CH_1⟩

set_option maxRecDepth 100000 in
theorem roots_Cos (n : Nat) (a : Int) (q : Nat) (hn : 1 ≤ n) (hn2 : n ≤ 4194304) (ha : -1000000000000 ≤ a ∧ a ≤ 1000000000000) (hq : a % (n : Int) = (q : Int)) (w : World) :
    Calls Tryz.prog 38 #[.int .i64 n, .int .i64 a] w (Ret (fun v w' => ∃ x, v = .tuple #[.float .f64 x, .nilIface] ∧ cn x = (pairF n q).1 ∧ Ch No w w')) := by
  refine calls_of_VC (args := [.int .i64 n, .int .i64 a]) Tryz.func38 rfl Tryz.ntmps38 rfl (VC.seq (VC.region (VO.mv (Rn.assign rfl) rfl rfl rfl (VO.mv (Rn.assign rfl) rfl rfl rfl (VO.nil (VQ.then_code (VC.seq ?_)))))))
  refine VC.region (VO.mv (Rn.move rfl) rfl rfl rfl (VO.mv (Rn.move rfl) rfl rfl rfl (VO.wk (Wk.call Tryz.call68 rfl (roots_pairG _ _ q (by omega) (by omega) (by omega) hq _)) rfl rfl rfl ?_)))
  rintro _ w1 ⟨x1, y1, rfl, F1, c1⟩
  have z1 := c1.size
  refine VO.mv (Rn.move rfl) rfl rfl rfl (VO.mv (Rn.extract rfl rfl) rfl rfl rfl (VO.mv (Rn.extract rfl rfl) rfl rfl rfl (VO.mv (Rn.extract rfl rfl) rfl rfl rfl (VO.mv (Rn.assign rfl) rfl rfl rfl (VO.mv (Rn.assign rfl) rfl rfl rfl (VO.mv (Rn.assign rfl) rfl rfl rfl (VO.nil ?_)))))))
  refine VQ.then_code (VC.seq (VC.region (VO.mv (Rn.move rfl) rfl rfl rfl (VO.mv (Rn.move rfl) rfl rfl rfl (VO.mv (Rn.assign rfl) rfl rfl rfl (VO.mv (Rn.assign rfl) rfl rfl rfl (VO.nil ?_)))))))
  refine VQ.then_code (VC.ret (VQ.ret2 rfl rfl rfl (Ret.mk ?_)))
  have CH_1 := (Ch.refl (No) w).and c1
  exact ⟨_, rfl, congrArg (·.1) F1, CH_1⟩

set_option maxHeartbeats 1000000 in
set_option maxRecDepth 100000 in
theorem cos_Sum (SX : Nat → Prop) (X : Option Addr) (n xc : Nat) (xs : List Nat) (w : World) (sx : SlR SX w X n 1 (xs.map flV)) (hX : ∀ q, SX q → q < w.heap.size) (hn : 1 ≤ n ∧ n ≤ 300) (hok : ∀ i, FlOk (XF xs i)) :
    Calls Tryz.prog 10 #[.slice X n xc] w (Ret (fun v w' => ∃ q zs, v = .tuple #[.slice (some ⟨q, 0, none⟩) n n, .nilIface] ∧ FR 25 w' (q + 1) (some ⟨q, 0, none⟩) n n zs ∧ cn (zs.getD 0 0) = sumLF (XF xs) (n - 1) ∧ w.heap.size ≤ q ∧ Ch No w w')) := by
  refine calls_of_VC (args := [.slice X n xc]) Tryz.func10 rfl Tryz.ntmps10 rfl (VC.seq (VC.region (VO.mv (Rn.assign rfl) rfl rfl rfl (VO.mv (Rn.assign rfl) rfl rfl rfl (VO.nil (VQ.then_code (VC.seq ?_)))))))
  refine VC.region (VO.mv (Rn.move rfl) rfl rfl rfl (VO.mv (Rn.len Tryz.underlying27 rfl) rfl rfl rfl (VO.mv (Rn.assign rfl) rfl rfl rfl (VO.nil (VQ.then_code (VC.seq (VC.seq ?_)))))))
  refine VC.region (VO.mv (Rn.move rfl) rfl rfl rfl (VO.mv (Rn.eql rfl rfl) rfl rfl rfl (VO.mv (Rn.move rfl) rfl rfl rfl ?_)))
  refine VO.orJoin (b := _) 3 16 19 rfl (fun hc1 Jhc1 => by
      refine VO.skip rfl rfl rfl (VO.skip rfl rfl rfl (VO.mv (Rn.pick_true rfl rfl) rfl rfl rfl ?_))
      exact (VO.fg rfl (VO.fg rfl Jhc1))) (fun hc1 Jhc1 => by
      try simp only [Bool.and_eq_true, Bool.or_eq_true, Bool.not_eq_true', Bool.not_eq_false', Bool.and_eq_false_iff, Bool.or_eq_false_iff, decide_eq_true_eq, decide_eq_false_iff_not] at hc1
      refine VO.mv (Rn.move rfl) rfl rfl rfl (VO.mv (Rn.gtr rfl rfl) rfl rfl rfl (VO.mv (Rn.pick_false rfl rfl) rfl rfl rfl ?_))
      exact (VO.fg rfl (VO.fg rfl Jhc1))) ?_
  refine VO.nil (VQ.then_code (VC.cond rfl (fun hc2 => ?_) (fun hc2 => ?_)))
  · skip
    try simp only [Bool.and_eq_true, Bool.or_eq_true, Bool.not_eq_true', Bool.not_eq_false', Bool.and_eq_false_iff, Bool.or_eq_false_iff, decide_eq_true_eq, decide_eq_false_iff_not] at hc2
    omega
  · skip
    try simp only [Bool.and_eq_true, Bool.or_eq_true, Bool.not_eq_true', Bool.not_eq_false', Bool.and_eq_false_iff, Bool.or_eq_false_iff, decide_eq_true_eq, decide_eq_false_iff_not] at hc2
    refine VC.skip (VQ.then_code (VC.seq (VC.region (VO.mv (Rn.move rfl) rfl rfl rfl (VO.wk (Wk.mkF Tryz.underlying27 inf25w53 rfl rfl (by omega) (by omega) (by omega)) rfl rfl rfl ?_)))))
    rintro _ w1 ⟨p1, rfl, o1, c1, e1, z1⟩
    refine VO.mv (Rn.assign rfl) rfl rfl rfl (VO.nil (VQ.then_code (VC.seq (VC.seq (VC.region (VO.mv (Rn.move rfl) rfl rfl rfl (VO.mv (Rn.len Tryz.underlying27 rfl) rfl rfl rfl ?_)))))))
    refine VO.mv (Rn.move rfl) rfl rfl rfl (VO.nil (VQ.then_code (VC.block ?_)))
    have sx_1 := sx.keep c1
    have CH_1 := (Ch.refl (No) w).and c1
    refine VC.loopS (σ := Nat × List Nat) (fun (k, zs) => [(0, .slice X n xc), (4, .int .i64 n), (5, .slice (some ⟨p1, 0, none⟩) n n), (24, .int .i64 n), (25, .int .i64 k)]) (fun (k, zs) w' => k ≤ n ∧ SumI (XF xs) n k 0 zs ∧ w1.heap.size ≤ w'.heap.size ∧ FR 25 w' (p1 + 1) (some ⟨p1, 0, none⟩) n n zs ∧ SlR SX w' X n 1 (xs.map flV) ∧ Ch (No) w w') (fun (k, zs) => n - k) (0, List.replicate n 0) ?_ ⟨rfl, rfl, rfl, rfl, rfl, trivial⟩ ?_
    · exact ⟨(by omega), (SumI.init _ _), (Nat.le_refl _), o1, sx_1, CH_1⟩
    rintro ⟨k, zs⟩ w2 ⟨hk, hi, hsz2, row_2, sx_2, CH_2⟩
    show VC _ _ _ _ [(0, .slice X n xc), (4, .int .i64 n), (5, .slice (some ⟨p1, 0, none⟩) n n), (24, .int .i64 n), (25, .int .i64 k)] _
    refine VC.seq (VC.region (VO.mv (Rn.lss rfl rfl) rfl rfl rfl (VO.nil (VQ.then_code (VC.seq (VC.cond_if rfl (fun hc3 => ?_) (fun hc3 => ?_)))))))
    · skip
      refine VC.skip (VQ.then_code (VC.seq (VC.block (VC.seq (VC.region (VO.mv (Rn.move rfl) rfl rfl rfl (VO.mv (Rn.assign rfl) rfl rfl rfl ?_)))))))
      refine VO.nil (VQ.then_code (VC.seq (VC.region (VO.mv (Rn.move rfl) rfl rfl rfl (VO.mv (Rn.len Tryz.underlying27 rfl) rfl rfl rfl (VO.mv (Rn.move rfl) rfl rfl rfl (VO.nil ?_)))))))
      refine VQ.then_code (VC.block (VC.loopS (σ := Nat × List Nat) (fun (j, zs2) => [(0, .slice X n xc), (4, .int .i64 n), (5, .slice (some ⟨p1, 0, none⟩) n n), (6, .int .i64 k), (24, .int .i64 n), (25, .int .i64 k), (28, .slice X n xc), (29, .int .i64 n), (30, .int .i64 j)]) (fun (j, zs2) w' => j ≤ n ∧ SumI (XF xs) n k j zs2 ∧ w2.heap.size ≤ w'.heap.size ∧ FR 25 w' (p1 + 1) (some ⟨p1, 0, none⟩) n n zs2 ∧ SlR SX w' X n 1 (xs.map flV) ∧ Ch (No) w w') (fun (j, zs2) => n - j) (0, zs) ?_ ⟨rfl, rfl, rfl, rfl, rfl, rfl, rfl, rfl, rfl, trivial⟩ ?_))
      · exact ⟨(by omega), hi, (Nat.le_refl _), row_2, sx_2, CH_2⟩
      rintro ⟨j, zs2⟩ w3 ⟨hj, hi2, hsz3, row_3, sx_3, CH_3⟩
      show VC _ _ _ _ [(0, .slice X n xc), (4, .int .i64 n), (5, .slice (some ⟨p1, 0, none⟩) n n), (6, .int .i64 k), (24, .int .i64 n), (25, .int .i64 k), (28, .slice X n xc), (29, .int .i64 n), (30, .int .i64 j)] _
      have hjk : 0 ≤ (2 * (j : Int) + 1) * (k : Int) ∧ (2 * (j : Int) + 1) * (k : Int) ≤ 601 * 300 := ⟨Int.mul_nonneg (by omega) (by omega), Int.mul_le_mul (by omega) (by omega) (by omega) (by omega)⟩
      obtain ⟨q, hq⟩ : ∃ q : Nat, ((2 * (j : Int) + 1) * (k : Int)) % ((4 * n : Nat) : Int) = (q : Int) := ⟨_, (Int.toNat_of_nonneg (Int.emod_nonneg _ (by omega))).symm⟩
      have hq0 : k = 0 → q = 0 := fun e => by subst e; rw [show ((2 * (j : Int) + 1) * ((0 : Nat) : Int)) = 0 from Int.mul_zero _, Int.zero_emod] at hq; omega
      refine VC.seq (VC.region (VO.mv (Rn.lss rfl rfl) rfl rfl rfl (VO.nil (VQ.then_code (VC.seq (VC.cond_if rfl (fun hc4 => ?_) (fun hc4 => ?_)))))))
      · skip
        refine VC.skip (VQ.then_code (VC.seq (VC.block (VC.seq (VC.region (VO.mv (Rn.move rfl) rfl rfl rfl (VO.mv (Rn.indexS Tryz.underlying27 Tryz.sizeOf25 rfl rfl (sx_3.ne (by omega)) (by omega) (by omega)) rfl rfl rfl ?_)))))))
        refine VO.mv (Rn.load Tryz.isAgg25 rfl (sx_3.getF (by omega) (by omega))) rfl rfl rfl (VO.mv (Rn.assign rfl) rfl rfl rfl (VO.mv (Rn.assign rfl) rfl rfl rfl (VO.nil (VQ.then_code (VC.seq (VC.region (VO.mv (Rn.move rfl) rfl rfl rfl ?_)))))))
        refine VO.mv (Rn.mul rfl rfl (by rw [IntKind.wrap_i64]; omega)) rfl rfl rfl ?_
        refine VO.mv (Rn.move rfl) rfl rfl rfl ?_
        refine VO.mv (Rn.mul rfl rfl (by rw [IntKind.wrap_i64]; omega)) rfl rfl rfl ?_
        refine VO.mv (Rn.add rfl rfl (by rw [IntKind.wrap_i64]; omega)) rfl rfl rfl ?_
        refine VO.mv (Rn.move rfl) rfl rfl rfl ?_
        refine VO.mv (Rn.mul rfl rfl (by rw [IntKind.wrap_i64]; omega)) rfl rfl rfl ?_
        refine VO.wk (Wk.call Tryz.call38 rfl (roots_Cos (4 * n) ((2 * (j : Int) + 1) * (k : Int)) q (by omega) (by omega) ⟨by omega, by omega⟩ hq _)) rfl rfl rfl ?_
        rintro _ w4 ⟨x4, rfl, F4, c4⟩
        have z4 := c4.size
        refine VO.mv (Rn.move rfl) rfl rfl rfl (VO.mv (Rn.extract rfl rfl) rfl rfl rfl (VO.mv (Rn.extract rfl rfl) rfl rfl rfl (VO.mv (Rn.assign rfl) rfl rfl rfl (VO.mv (Rn.assign rfl) rfl rfl rfl (VO.nil (VQ.then_code (VC.seq ?_)))))))
        refine VC.seq (VC.region (VO.mv (Rn.move rfl) rfl rfl rfl (VO.mv (Rn.nil_neq_nil Tryz.underlying29 rfl) rfl rfl rfl (VO.nil (VQ.then_code (VC.cond_false rfl (VC.skip ?_)))))))
        refine VQ.then_code (VC.seq (VC.region (VO.mv (Rn.move rfl) rfl rfl rfl (VO.mv (Rn.move rfl) rfl rfl rfl (VO.wk (Wk.fbin (.inr (.inr (.inl rfl))) rfl rfl) rfl rfl rfl ?_)))))
        rintro _ w5 ⟨r5, rfl, f5, c5⟩
        have z5 := c5.size
        refine VO.mv (Rn.assign rfl) rfl rfl rfl (VO.nil (VQ.then_code (VC.seq (VC.seq (VC.region (VO.mv (Rn.move rfl) rfl rfl rfl (VO.mv (Rn.gtr rfl rfl) rfl rfl rfl ?_)))))))
        refine VO.nil (VQ.then_code (VC.cond_if rfl (fun hc5 => ?_) (fun hc5 => ?_)))
        · skip
          refine VC.region (VO.mv (Rn.move rfl) rfl rfl rfl (VO.mv (Rn.move rfl) rfl rfl rfl ?_))
          have row_5 := row_3.keep (c4.trans c5)
          refine VO.mv (Rn.indexS Tryz.underlying27 Tryz.sizeOf25 rfl rfl (row_5.sl.ne (by omega)) (by omega) (by omega)) rfl rfl rfl (VO.mv (Rn.load Tryz.isAgg25 rfl (row_5.sl.getF (by omega) (by omega))) rfl rfl rfl (VO.mv (Rn.move rfl) rfl rfl rfl (VO.wk (Wk.fbin (.inl rfl) rfl rfl) rfl rfl rfl ?_)))
          rintro _ w6 ⟨r6, rfl, f6, c6⟩
          have z6 := c6.size
          refine VO.mv (Rn.assign rfl) rfl rfl rfl (VO.nil (VQ.then_code (VC.region (VO.mv (Rn.move rfl) rfl rfl rfl (VO.mv (Rn.move rfl) rfl rfl rfl (VO.mv (Rn.move rfl) rfl rfl rfl ?_))))))
          have row_6 := row_5.keep c6
          refine VO.mv (Rn.indexS Tryz.underlying27 Tryz.sizeOf25 rfl rfl (row_6.sl.ne (by omega)) (by omega) (by omega)) rfl rfl rfl (VO.wk0 (Wk.putF Tryz.sizeOf25 rfl rfl (by omega) row_6) rfl rfl ?_)
          rintro _ w7 ⟨o7, c7, z7⟩
          have y7 := o7.lt
          refine VO.nil (VQ.block_normal (VQ.then_code (VC.region ?_)))
          refine VO.mv (Rn.add rfl rfl (by rw [IntKind.wrap_i64]; omega)) rfl rfl rfl ?_
          refine VO.mv (Rn.move rfl) rfl rfl rfl (VO.nil ?_)
          refine VQ.round (j + 1, zs2.set k r6) (by first | omega | (dsimp only; omega)) ?_ ⟨rfl, rfl, rfl, rfl, rfl, rfl, rfl, rfl, rfl, trivial⟩
          have sx_6 := sx_3.keep (c4.trans (c5.trans c6))
          have sx_7 := sx_6.to c7 (by first | exact fun _ _ _ _ => id | (intro q h1 h2 hx h3; have := hX q h2; omega))
          have CH_6 := CH_3.and (c4.trans (c5.trans c6))
          have CH_7 : Ch (No) w w7 := CH_6.then c7 (by intro q h1 h2; rcases h2 with h2 | h2 <;> first | exact h2 | (exfalso; omega) | omega)
          exact ⟨by omega, hi2.step (by omega) (hi2.val1 (by omega) (hok j) f6 f5 (fun e => by rw [F4, hq0 e, pair_zero (4 * n) (by omega)])), by omega, o7, sx_7, CH_7⟩
        · skip
          refine VC.skip (VQ.then_code (VC.region (VO.mv (Rn.move rfl) rfl rfl rfl (VO.mv (Rn.move rfl) rfl rfl rfl (VO.mv (Rn.move rfl) rfl rfl rfl ?_)))))
          have row_5 := row_3.keep (c4.trans c5)
          refine VO.mv (Rn.indexS Tryz.underlying27 Tryz.sizeOf25 rfl rfl (row_5.sl.ne (by omega)) (by omega) (by omega)) rfl rfl rfl (VO.wk0 (Wk.putF Tryz.sizeOf25 rfl rfl (by omega) row_5) rfl rfl ?_)
          rintro _ w8 ⟨o8, c8, z8⟩
          have y8 := o8.lt
          refine VO.nil (VQ.block_normal (VQ.then_code (VC.region ?_)))
          refine VO.mv (Rn.add rfl rfl (by rw [IntKind.wrap_i64]; omega)) rfl rfl rfl ?_
          refine VO.mv (Rn.move rfl) rfl rfl rfl (VO.nil ?_)
          refine VQ.round (j + 1, zs2.set k r5) (by first | omega | (dsimp only; omega)) ?_ ⟨rfl, rfl, rfl, rfl, rfl, rfl, rfl, rfl, rfl, trivial⟩
          have sx_5 := sx_3.keep (c4.trans c5)
          have sx_8 := sx_5.to c8 (by first | exact fun _ _ _ _ => id | (intro q h1 h2 hx h3; have := hX q h2; omega))
          have CH_5 := CH_3.and (c4.trans c5)
          have CH_8 : Ch (No) w w8 := CH_5.then c8 (by intro q h1 h2; rcases h2 with h2 | h2 <;> first | exact h2 | (exfalso; omega) | omega)
          exact ⟨by omega, hi2.step (by omega) (SumI.val0 (by omega) (hok j) f5 (fun e => by rw [F4, hq0 e, pair_zero (4 * n) (by omega)])), by omega, o8, sx_8, CH_8⟩
      · skip
        refine VC.exit (VQ.then_exit (VQ.then_exit (VQ.block_exit (VQ.block_normal (VQ.then_code (VC.region ?_))))))
        refine VO.mv (Rn.add rfl rfl (by rw [IntKind.wrap_i64]; omega)) rfl rfl rfl ?_
        refine VO.mv (Rn.move rfl) rfl rfl rfl (VO.nil ?_)
        refine VQ.round (k + 1, zs2) (by first | omega | (dsimp only; omega)) ?_ ⟨rfl, rfl, rfl, rfl, rfl, trivial⟩
        exact ⟨(by omega), (hi2.round (by omega) (by omega)), (by omega), row_3, sx_3, CH_3⟩
    · skip
      refine VC.exit (VQ.then_exit (VQ.then_exit (VQ.block_exit (VQ.then_code (VC.seq (VC.region (VO.mv (Rn.move rfl) rfl rfl rfl ?_)))))))
      refine VO.mv (Rn.assign rfl) rfl rfl rfl (VO.mv (Rn.assign rfl) rfl rfl rfl (VO.nil (VQ.then_code (VC.ret (VQ.ret2 rfl rfl rfl (Ret.mk ?_))))))
      have ek : k = n := by omega
      exact ⟨_, _, rfl, row_2, hi.past (by omega), by omega, CH_2⟩

set_option maxRecDepth 100000 in
theorem cos_planned (X : Option Addr) (xc : Nat) (w : World) (st : StT w) (tab : TabB w.heap.size w) (hG : 12 ≤ w.heap.size) :
    Calls Tryz.prog 39 #[.slice X 1 xc] w (Ret (fun v w' => ∃ p P, v = .tuple #[.pointer (some ⟨p, 0, none⟩), .nilIface] ∧ PlnR w.heap.size w'.heap.size w' p P ∧ Leaf 1 P.b ∧ Ch No w w')) := by
  refine calls_of_VC (args := [.slice X 1 xc]) Tryz.func39 rfl Tryz.ntmps39 rfl (VC.seq (VC.region (VO.mv (Rn.assign rfl) rfl rfl rfl (VO.mv (Rn.assign rfl) rfl rfl rfl (VO.nil (VQ.then_code (VC.seq ?_)))))))
  refine VC.seq (VC.region (VO.mv (Rn.move rfl) rfl rfl rfl (VO.mv (Rn.len Tryz.underlying27 rfl) rfl rfl rfl (VO.mv (Rn.eql rfl rfl) rfl rfl rfl (VO.mv (Rn.move rfl) rfl rfl rfl ?_)))))
  refine VO.orJoin (b := _) 4 7 11 rfl (fun hc1 Jhc1 => by
      refine VO.skip rfl rfl rfl (VO.skip rfl rfl rfl (VO.skip rfl rfl rfl (VO.mv (Rn.pick_true rfl rfl) rfl rfl rfl ?_)))
      exact (VO.fg rfl (VO.fg rfl (VO.fg rfl Jhc1)))) (fun hc1 Jhc1 => by
      try simp only [Bool.and_eq_true, Bool.or_eq_true, Bool.not_eq_true', Bool.not_eq_false', Bool.and_eq_false_iff, Bool.or_eq_false_iff, decide_eq_true_eq, decide_eq_false_iff_not] at hc1
      refine VO.mv (Rn.move rfl) rfl rfl rfl (VO.mv (Rn.len Tryz.underlying27 rfl) rfl rfl rfl (VO.mv (Rn.gtr rfl rfl) rfl rfl rfl (VO.mv (Rn.pick_false rfl rfl) rfl rfl rfl ?_)))
      exact (VO.fg rfl (VO.fg rfl (VO.fg rfl Jhc1)))) ?_
  refine VO.nil (VQ.then_code (VC.cond rfl (fun hc2 => ?_) (fun hc2 => ?_)))
  · skip
    try simp only [Bool.and_eq_true, Bool.or_eq_true, Bool.not_eq_true', Bool.not_eq_false', Bool.and_eq_false_iff, Bool.or_eq_false_iff, decide_eq_true_eq, decide_eq_false_iff_not] at hc2
    omega
  · skip
    try simp only [Bool.and_eq_true, Bool.or_eq_true, Bool.not_eq_true', Bool.not_eq_false', Bool.and_eq_false_iff, Bool.or_eq_false_iff, decide_eq_true_eq, decide_eq_false_iff_not] at hc2
    refine VC.skip (VQ.then_code (VC.seq (VC.region (VO.mv (Rn.move rfl) rfl rfl rfl (VO.mv (Rn.len Tryz.underlying27 rfl) rfl rfl rfl (VO.wk (Wk.call Tryz.call69 rfl (plan_NewL 1 (.inl rfl) _ st ((tab).up (by omega)) (by omega))) rfl rfl rfl ?_))))))
    rintro _ w1 ⟨pp, PP, rfl, pl1, hL, c1⟩
    have z1 := c1.size
    refine VO.mv (Rn.extract rfl rfl) rfl rfl rfl (VO.mv (Rn.extract rfl rfl) rfl rfl rfl (VO.mv (Rn.assign rfl) rfl rfl rfl (VO.mv (Rn.assign rfl) rfl rfl rfl (VO.nil (VQ.then_code (VC.ret (VQ.ret2 rfl rfl rfl ?_)))))))
    refine Ret.mk ?_
    have CH_1 := (Ch.refl (No) w).and c1
    exact ⟨pp, PP, rfl, pl1, hL, CH_1⟩

set_option maxRecDepth 100000 in
theorem cos_place0 (w : World) :
    Calls Tryz.prog 40 #[.int .i64 0, .int .i64 1] w (Ret (fun v w' => v = .int .i64 0 ∧ w = w')) := by
  refine calls_of_VC (args := [.int .i64 0, .int .i64 1]) Tryz.func40 rfl Tryz.ntmps40 rfl (VC.seq (VC.region (VO.mv (Rn.assign rfl) rfl rfl rfl (VO.nil (VQ.then_code (VC.seq (VC.seq ?_)))))))
  refine VC.region (VO.mv (Rn.move rfl) rfl rfl rfl (VO.mv (Rn.rem0 rfl rfl (by omega) (by omega)) rfl rfl rfl (VO.mv (Rn.eql rfl rfl) rfl rfl rfl (VO.nil (VQ.then_code (VC.cond_if rfl (fun hc1 => ?_) (fun hc1 => ?_)))))))
  · skip
    refine VC.seq (VC.region (VO.mv (Rn.move rfl) rfl rfl rfl (VO.mv (Rn.quo0 rfl rfl (by omega) (by omega) (by omega)) rfl rfl rfl (VO.mv (Rn.assign rfl) rfl rfl rfl (VO.nil (VQ.then_code (VC.ret ?_)))))))
    refine VQ.then_ret (VQ.ret1 rfl rfl (Ret.mk ?_))
    exact ⟨rfl, rfl⟩
  · skip
    omega

set_option maxHeartbeats 1000000 in
set_option maxRecDepth 100000 in
theorem cos_Forward1 (SX : Nat → Prop) (X : Option Addr) (xc x : Nat) (w : World) (sx : SlR SX w X 1 1 ([x].map flV)) (hX : ∀ q, SX q → q < w.heap.size) (st : StT w) (tab : TabB w.heap.size w) (hG : 12 ≤ w.heap.size) :
    Calls Tryz.prog 11 #[.slice X 1 xc] w (Ret (fun v w' => ∃ q z, v = .tuple #[.slice (some ⟨q, 0, none⟩) 1 1, .nilIface] ∧ FR 25 w' (q + 1) (some ⟨q, 0, none⟩) 1 1 [z] ∧ cn z = cn x ∧ w.heap.size ≤ q ∧ Ch No w w')) := by
  refine calls_of_VC (args := [.slice X 1 xc]) Tryz.func11 rfl Tryz.ntmps11 rfl (VC.seq (VC.region (VO.mv (Rn.assign rfl) rfl rfl rfl (VO.mv (Rn.assign rfl) rfl rfl rfl (VO.nil (VQ.then_code (VC.seq ?_)))))))
  refine VC.region (VO.mv (Rn.move rfl) rfl rfl rfl (VO.wk (Wk.call Tryz.call39 rfl (cos_planned _ _ _ st ((tab).up (by omega)) (by omega))) rfl rfl rfl ?_))
  rintro _ w1 ⟨pp, PP, rfl, pl1, hL, c1⟩
  have z1 := c1.size
  refine VO.mv (Rn.move rfl) rfl rfl rfl (VO.mv (Rn.extract rfl rfl) rfl rfl rfl (VO.mv (Rn.extract rfl rfl) rfl rfl rfl (VO.mv (Rn.assign rfl) rfl rfl rfl (VO.mv (Rn.assign rfl) rfl rfl rfl (VO.nil (VQ.then_code (VC.seq ?_)))))))
  refine VC.seq (VC.region (VO.mv (Rn.move rfl) rfl rfl rfl (VO.mv (Rn.nil_neq_nil Tryz.underlying29 rfl) rfl rfl rfl (VO.nil (VQ.then_code (VC.cond_false rfl (VC.skip ?_)))))))
  refine VQ.then_code (VC.seq (VC.region (VO.mv (Rn.move rfl) rfl rfl rfl (VO.mv (Rn.len Tryz.underlying27 rfl) rfl rfl rfl (VO.mv (Rn.assign rfl) rfl rfl rfl (VO.nil (VQ.then_code ?_)))))))
  refine VC.seq (VC.region (VO.mv (Rn.move rfl) rfl rfl rfl (VO.wk (Wk.mkC Tryz.underlying39 inf53w53 rfl rfl (by omega) (by omega) (by omega)) rfl rfl rfl ?_)))
  rintro _ w2 ⟨p2, rfl, o2, c2, e2, z2⟩
  refine VO.mv (Rn.assign rfl) rfl rfl rfl (VO.nil (VQ.then_code (VC.seq (VC.seq (VC.region (VO.mv (Rn.move rfl) rfl rfl rfl (VO.mv (Rn.len Tryz.underlying27 rfl) rfl rfl rfl ?_)))))))
  refine VO.mv (Rn.move rfl) rfl rfl rfl (VO.nil (VQ.then_code (VC.block ?_)))
  have pl_2 := pl1.keep c2
  have st_2 := st.keep (c1.trans c2)
  have sx_2 := sx.keep (c1.trans c2)
  have CH_2 := (Ch.refl (No) w).and (c1.trans c2)
  refine VC.loopS (σ := Nat) (fun j => [(4, .pointer (some ⟨pp, 0, none⟩)), (6, .int .i64 1), (7, .slice (some ⟨p2, 0, none⟩) 1 1), (26, .slice X 1 xc), (27, .int .i64 1), (28, .int .i64 j)]) (fun j w' => j ≤ 1 ∧ w2.heap.size ≤ w'.heap.size ∧ CR 53 w' ((p2 + 1)) (some ⟨p2, 0, none⟩) 1 1 (fst1 x j) ∧ PlnR w.heap.size w1.heap.size w' pp PP ∧ StT w' ∧ SlR SX w' X 1 1 ([x].map flV) ∧ Ch (No) w w') (fun j => 1 - j) 0 ?_ ⟨rfl, rfl, rfl, rfl, rfl, rfl, trivial⟩ ?_
  · exact ⟨(by omega), (Nat.le_refl _), o2, pl_2, st_2, sx_2, CH_2⟩
  rintro j w3 ⟨hj, hsz3, row_3, pl_3, st_3, sx_3, CH_3⟩
  show VC _ _ _ _ [(4, .pointer (some ⟨pp, 0, none⟩)), (6, .int .i64 1), (7, .slice (some ⟨p2, 0, none⟩) 1 1), (26, .slice X 1 xc), (27, .int .i64 1), (28, .int .i64 j)] _
  refine VC.seq (VC.region (VO.mv (Rn.lss rfl rfl) rfl rfl rfl (VO.nil (VQ.then_code (VC.seq (VC.cond_if rfl (fun hc1 => ?_) (fun hc1 => ?_)))))))
  · skip
    obtain rfl : j = 0 := by omega
    refine VC.skip (VQ.then_code (VC.seq (VC.block (VC.seq (VC.region (VO.mv (Rn.move rfl) rfl rfl rfl (VO.mv (Rn.indexS Tryz.underlying27 Tryz.sizeOf25 rfl rfl (sx_3.ne (by omega)) (by omega) (by omega)) rfl rfl rfl ?_)))))))
    refine VO.mv (Rn.load Tryz.isAgg25 rfl (sx_3.getF (by omega) (by omega))) rfl rfl rfl (VO.mv (Rn.assign rfl) rfl rfl rfl (VO.mv (Rn.assign rfl) rfl rfl rfl (VO.nil (VQ.then_code (VC.region (VO.mv (Rn.move rfl) rfl rfl rfl (VO.mv (Rn.move rfl) rfl rfl rfl ?_)))))))
    refine VO.mv (Rn.move rfl) rfl rfl rfl (VO.wk (Wk.call Tryz.call40 rfl (cos_place0 _)) rfl rfl rfl ?_)
    rintro _ _ ⟨rfl, rfl⟩
    refine VO.mv (Rn.move rfl) rfl rfl rfl (VO.mv (Rn.complex rfl rfl) rfl rfl rfl (VO.mv (Rn.indexS Tryz.underlying39 Tryz.sizeOf53 rfl rfl (row_3.sl.ne (by omega)) (by omega) (by omega)) rfl rfl rfl (VO.wk0 (Wk.putC Tryz.sizeOf53 rfl rfl (by omega) row_3) rfl rfl ?_)))
    rintro _ w4 ⟨o4, c4, z4⟩
    have y4 := o4.lt
    refine VO.nil (VQ.block_normal (VQ.then_code (VC.region ?_)))
    refine VO.mv (Rn.add rfl rfl (by rw [IntKind.wrap_i64]; omega)) rfl rfl rfl ?_
    refine VO.mv (Rn.move rfl) rfl rfl rfl (VO.nil ?_)
    refine VQ.round (0 + 1) (by first | omega | (dsimp only; omega)) ?_ ⟨rfl, rfl, rfl, rfl, rfl, rfl, trivial⟩
    have pl_4 := pl_3.to c4 (by first | exact fun _ _ _ _ => id | (intro q h1 h2 hx h3; omega))
    have st_4 := st_3.to c4 (by first | exact fun _ _ _ _ => id | (intro q h1 h2 hx h3; omega))
    have sx_4 := sx_3.to c4 (by first | exact fun _ _ _ _ => id | (intro q h1 h2 hx h3; have := hX q h2; omega))
    have CH_4 : Ch (No) w w4 := CH_3.then c4 (by intro q h1 h2; rcases h2 with h2 | h2 <;> first | exact h2 | (exfalso; omega) | omega)
    exact ⟨(by omega), (by omega), o4, pl_4, st_4, sx_4, CH_4⟩
  · skip
    obtain rfl : j = 1 := by omega
    refine VC.exit (VQ.then_exit (VQ.then_exit (VQ.block_exit (VQ.then_code (VC.seq (VC.region (VO.mv (Rn.move rfl) rfl rfl rfl ?_)))))))
    refine VO.mv (Rn.move rfl) rfl rfl rfl (VO.wk (Wk.call Tryz.call41 rfl (p_Forward _ _ _ _ _ _ 1 _ (fst1 x 1) _ (row_3).sl (fun q hq => by omega) pl_3 (by omega) _ hL.ok.ok hL.ok.okb hL.ok.ne (by rw [hL.ln]) st_3 (by omega) hL.ok.ac)) rfl rfl rfl ?_)
    rintro _ w5 ⟨rO, AO, kO, ws, rfl, out5, hz, yo5, c5⟩
    rw [show (fst1 x 1).map cx = [(cn x, fl0)] from rfl, fwd_one hL] at hz
    have e1 : PP.b.ln.toNat = 1 := by rw [hL.ln]; rfl
    obtain ⟨y0, rfl, hy0⟩ := map_one hz
    have hlo := Ow.lt out5
    have z5 := c5.size
    refine VO.mv (Rn.move rfl) rfl rfl rfl (VO.mv (Rn.extract rfl rfl) rfl rfl rfl (VO.mv (Rn.extract rfl rfl) rfl rfl rfl (VO.mv (Rn.assign rfl) rfl rfl rfl (VO.mv (Rn.assign rfl) rfl rfl rfl (VO.nil (VQ.then_code (VC.seq ?_)))))))
    refine VC.seq (VC.region (VO.mv (Rn.move rfl) rfl rfl rfl (VO.mv (Rn.nil_neq_nil Tryz.underlying29 rfl) rfl rfl rfl (VO.nil (VQ.then_code (VC.cond_false rfl (VC.skip ?_)))))))
    refine VQ.then_code (VC.seq (VC.region (VO.mv (Rn.move rfl) rfl rfl rfl (VO.wk (Wk.mkF Tryz.underlying27 inf25w53 rfl rfl (by omega) (by omega) (by omega)) rfl rfl rfl ?_))))
    rintro _ w6 ⟨p6, rfl, o6, c6, e6, z6⟩
    refine VO.mv (Rn.assign rfl) rfl rfl rfl (VO.nil (VQ.then_code (VC.seq (VC.seq (VC.region (VO.mv (Rn.move rfl) rfl rfl rfl (VO.mv (Rn.len Tryz.underlying39 rfl) rfl rfl rfl ?_)))))))
    refine VO.mv (Rn.move rfl) rfl rfl rfl (VO.nil (VQ.then_code (VC.block ?_)))
    have out_6 := out5.keep c6
    have CH_6 := CH_3.and (c5.trans c6)
    refine VC.loopS (σ := Nat × Nat) (fun (j, z) => [(6, .int .i64 1), (11, .slice (some ⟨p6, 0, none⟩) 1 1), (52, .slice AO PP.b.ln.toNat kO), (53, .int .i64 (PP.b.ln.toNat : Nat)), (54, .int .i64 j)]) (fun (j, z) w' => j ≤ 1 ∧ (0 < j → cn z = cn x) ∧ w6.heap.size ≤ w'.heap.size ∧ FR 25 w' ((p6 + 1)) (some ⟨p6, 0, none⟩) 1 1 [z] ∧ CR 53 w' rO AO PP.b.ln.toNat kO [y0] ∧ Ch (No) w w') (fun (j, z) => 1 - j) (0, 0) ?_ ⟨rfl, rfl, rfl, rfl, rfl, trivial⟩ ?_
    · exact ⟨(by omega), (fun h => absurd h (by omega)), (Nat.le_refl _), o6, out_6, CH_6⟩
    rintro ⟨j, z⟩ w7 ⟨hj, hzz, hsz7, rof_7, out_7, CH_7⟩
    show VC _ _ _ _ [(6, .int .i64 1), (11, .slice (some ⟨p6, 0, none⟩) 1 1), (52, .slice AO PP.b.ln.toNat kO), (53, .int .i64 (PP.b.ln.toNat : Nat)), (54, .int .i64 j)] _
    refine VC.seq (VC.region (VO.mv (Rn.lss rfl rfl) rfl rfl rfl (VO.nil (VQ.then_code (VC.seq (VC.cond_if rfl (fun hc2 => ?_) (fun hc2 => ?_)))))))
    · skip
      obtain rfl : j = 0 := by omega
      refine VC.skip (VQ.then_code (VC.seq (VC.block (VC.seq (VC.region (VO.mv (Rn.move rfl) rfl rfl rfl (VO.mv (Rn.indexS Tryz.underlying39 Tryz.sizeOf53 rfl rfl (out_7.sl.ne (by omega)) (by omega) (by omega)) rfl rfl rfl ?_)))))))
      refine VO.mv (Rn.load Tryz.isAgg53 rfl (out_7.sl.getC (by omega) (by omega))) rfl rfl rfl (VO.mv (Rn.assign rfl) rfl rfl rfl (VO.mv (Rn.assign rfl) rfl rfl rfl (VO.nil (VQ.then_code (VC.seq (VC.region (VO.mv (Rn.move rfl) rfl rfl rfl ?_)))))))
      refine VO.mv (Rn.move rfl) rfl rfl rfl ?_
      refine VO.mv (Rn.mul rfl rfl (by rw [IntKind.wrap_i64]; omega)) rfl rfl rfl ?_
      refine VO.mv (Rn.move rfl) rfl rfl rfl (VO.wk (Wk.call Tryz.call42 rfl (roots_Twist _ _ 4 0 0 (by omega) (by omega) ⟨by omega, by omega⟩ (by rfl) _)) rfl rfl rfl ?_)
      rintro _ w8 ⟨x8, y8, rfl, F8, c8⟩
      have z8 := c8.size
      refine VO.mv (Rn.move rfl) rfl rfl rfl (VO.mv (Rn.extract rfl rfl) rfl rfl rfl (VO.mv (Rn.extract rfl rfl) rfl rfl rfl (VO.mv (Rn.assign rfl) rfl rfl rfl (VO.mv (Rn.assign rfl) rfl rfl rfl (VO.nil (VQ.then_code (VC.seq ?_)))))))
      refine VC.seq (VC.region (VO.mv (Rn.move rfl) rfl rfl rfl (VO.mv (Rn.nil_neq_nil Tryz.underlying29 rfl) rfl rfl rfl (VO.nil (VQ.then_code (VC.cond_false rfl (VC.skip ?_)))))))
      refine VQ.then_code (VC.region (VO.mv (Rn.move rfl) rfl rfl rfl (VO.mv (Rn.move rfl) rfl rfl rfl (VO.mv (Rn.move rfl) rfl rfl rfl (VO.mv (Rn.real rfl) rfl rfl rfl ?_)))))
      have rof_8 := rof_7.keep c8
      refine VO.mv (Rn.indexS Tryz.underlying27 Tryz.sizeOf25 rfl rfl (rof_8.sl.ne (by omega)) (by omega) (by omega)) rfl rfl rfl (VO.wk0 (Wk.putF Tryz.sizeOf25 rfl rfl (by omega) rof_8) rfl rfl ?_)
      rintro _ w9 ⟨o9, c9, z9⟩
      have y9 := o9.lt
      refine VO.nil (VQ.block_normal (VQ.then_code (VC.region ?_)))
      refine VO.mv (Rn.add rfl rfl (by rw [IntKind.wrap_i64]; omega)) rfl rfl rfl ?_
      refine VO.mv (Rn.move rfl) rfl rfl rfl (VO.nil ?_)
      refine VQ.round (0 + 1, x8) (by first | omega | (dsimp only; omega)) ?_ ⟨rfl, rfl, rfl, rfl, rfl, trivial⟩
      have out_8 := out_7.keep c8
      have out_9 := out_8.to c9 (by first | exact fun _ _ _ _ => id | (intro q h1 h2 hx h3; omega))
      have CH_8 := CH_7.and c8
      have CH_9 : Ch (No) w w9 := CH_8.then c9 (by intro q h1 h2; rcases h2 with h2 | h2 <;> first | exact h2 | (exfalso; omega) | omega)
      exact ⟨(by omega), (fun _ => (congrArg (·.1) F8).trans (congrArg (·.1) hy0)), (by omega), o9, out_9, CH_9⟩
    · skip
      refine VC.exit (VQ.then_exit (VQ.then_exit (VQ.block_exit (VQ.then_code (VC.seq (VC.region (VO.mv (Rn.move rfl) rfl rfl rfl ?_)))))))
      refine VO.mv (Rn.assign rfl) rfl rfl rfl (VO.mv (Rn.assign rfl) rfl rfl rfl (VO.nil (VQ.then_code (VC.ret (VQ.ret2 rfl rfl rfl (Ret.mk ?_))))))
      exact ⟨_, _, rfl, rof_7, hzz (by omega), by omega, CH_7⟩

set_option maxHeartbeats 1000000 in
set_option maxRecDepth 100000 in
theorem cos_Inverse1 (SX : Nat → Prop) (X : Option Addr) (xc x : Nat) (w : World) (sx : SlR SX w X 1 1 ([x].map flV)) (hX : ∀ q, SX q → q < w.heap.size) (st : StT w) (tab : TabB w.heap.size w) (hG : 12 ≤ w.heap.size) (hok : FlOk (cn x)) :
    Calls Tryz.prog 12 #[.slice X 1 xc] w (Ret (fun v w' => ∃ q z, v = .tuple #[.slice (some ⟨q, 0, none⟩) 1 1, .nilIface] ∧ FR 25 w' (q + 1) (some ⟨q, 0, none⟩) 1 1 [z] ∧ cn z = cn x ∧ w.heap.size ≤ q ∧ Ch No w w')) := by
  refine calls_of_VC (args := [.slice X 1 xc]) Tryz.func12 rfl Tryz.ntmps12 rfl (VC.seq (VC.region (VO.mv (Rn.assign rfl) rfl rfl rfl (VO.mv (Rn.assign rfl) rfl rfl rfl (VO.nil (VQ.then_code (VC.seq ?_)))))))
  refine VC.region (VO.mv (Rn.move rfl) rfl rfl rfl (VO.wk (Wk.call Tryz.call39 rfl (cos_planned _ _ _ st ((tab).up (by omega)) (by omega))) rfl rfl rfl ?_))
  rintro _ w1 ⟨pp, PP, rfl, pl1, hL, c1⟩
  have z1 := c1.size
  refine VO.mv (Rn.move rfl) rfl rfl rfl (VO.mv (Rn.extract rfl rfl) rfl rfl rfl (VO.mv (Rn.extract rfl rfl) rfl rfl rfl (VO.mv (Rn.assign rfl) rfl rfl rfl (VO.mv (Rn.assign rfl) rfl rfl rfl (VO.nil (VQ.then_code (VC.seq ?_)))))))
  refine VC.seq (VC.region (VO.mv (Rn.move rfl) rfl rfl rfl (VO.mv (Rn.nil_neq_nil Tryz.underlying29 rfl) rfl rfl rfl (VO.nil (VQ.then_code (VC.cond_false rfl (VC.skip ?_)))))))
  refine VQ.then_code (VC.seq (VC.region (VO.mv (Rn.move rfl) rfl rfl rfl (VO.mv (Rn.len Tryz.underlying27 rfl) rfl rfl rfl (VO.mv (Rn.assign rfl) rfl rfl rfl (VO.nil (VQ.then_code ?_)))))))
  refine VC.seq (VC.region (VO.mv (Rn.move rfl) rfl rfl rfl (VO.wk (Wk.mkC Tryz.underlying39 inf53w53 rfl rfl (by omega) (by omega) (by omega)) rfl rfl rfl ?_)))
  rintro _ w2 ⟨p2, rfl, o2, c2, e2, z2⟩
  refine VO.mv (Rn.assign rfl) rfl rfl rfl (VO.nil (VQ.then_code (VC.seq (VC.region (VO.mv (Rn.move rfl) rfl rfl rfl (VO.mv (Rn.move rfl) rfl rfl rfl ?_))))))
  have sx_2 := sx.keep (c1.trans c2)
  refine VO.mv (Rn.indexS Tryz.underlying27 Tryz.sizeOf25 rfl rfl (sx_2.ne (by omega)) (by omega) (by omega)) rfl rfl rfl (VO.mv (Rn.load Tryz.isAgg25 rfl (sx_2.getF (by omega) (by omega))) rfl rfl rfl (VO.mv (Rn.complex rfl rfl) rfl rfl rfl (VO.mv (Rn.indexS Tryz.underlying39 Tryz.sizeOf53 rfl rfl (o2.sl.ne (by omega)) (by omega) (by omega)) rfl rfl rfl (VO.wk0 (Wk.putC Tryz.sizeOf53 rfl rfl (by omega) o2) rfl rfl ?_))))
  rintro _ w3 ⟨o3, c3, z3⟩
  have y3 := o3.lt
  refine VO.nil (VQ.then_code (VC.seq (VC.seq (VC.region (VO.mv (Rn.assign rfl) rfl rfl rfl (VO.nil (VQ.then_code ?_)))))))
  refine VC.block ?_
  have pl_2 := pl1.keep c2
  have pl_3 := pl_2.to c3 (by first | exact fun _ _ _ _ => id | (intro q h1 h2 hx h3; omega))
  have st_2 := st.keep (c1.trans c2)
  have st_3 := st_2.to c3 (by first | exact fun _ _ _ _ => id | (intro q h1 h2 hx h3; omega))
  have CH_2 := (Ch.refl (No) w).and (c1.trans c2)
  have CH_3 : Ch (No) w w3 := CH_2.then c3 (by intro q h1 h2; rcases h2 with h2 | h2 <;> first | exact h2 | (exfalso; omega) | omega)
  refine VC.loopS (σ := Nat) (fun k => [(0, .slice X 1 xc), (4, .pointer (some ⟨pp, 0, none⟩)), (6, .int .i64 1), (7, .slice (some ⟨p2, 0, none⟩) 1 1), (8, .int .i64 k)]) (fun k w' => k = 1 ∧ w3.heap.size ≤ w'.heap.size ∧ CR 53 w' ((p2 + 1)) (some ⟨p2, 0, none⟩) 1 1 ([(x, 0)]) ∧ PlnR w.heap.size w1.heap.size w' pp PP ∧ StT w' ∧ Ch (No) w w') (fun k => 1 - k) 1 ?_ ⟨rfl, rfl, rfl, rfl, rfl, trivial⟩ ?_
  · exact ⟨(by omega), (Nat.le_refl _), o3, pl_3, st_3, CH_3⟩
  rintro k w4 ⟨hk, hsz4, row_4, pl_4, st_4, CH_4⟩
  show VC _ _ _ _ [(0, .slice X 1 xc), (4, .pointer (some ⟨pp, 0, none⟩)), (6, .int .i64 1), (7, .slice (some ⟨p2, 0, none⟩) 1 1), (8, .int .i64 k)] _
  refine VC.seq (VC.seq (VC.region (VO.mv (Rn.move rfl) rfl rfl rfl (VO.mv (Rn.move rfl) rfl rfl rfl (VO.mv (Rn.lss rfl rfl) rfl rfl rfl (VO.nil (VQ.then_code ?_)))))))
  refine VC.cond_if rfl (fun hc1 => ?_) (fun hc1 => ?_)
  · skip
    omega
  · skip
    refine VC.exit (VQ.then_exit (VQ.then_exit (VQ.block_exit (VQ.then_code (VC.seq (VC.region (VO.mv (Rn.move rfl) rfl rfl rfl ?_)))))))
    refine VO.mv (Rn.move rfl) rfl rfl rfl (VO.wk (Wk.call Tryz.call43 rfl (p_Inverse _ _ _ _ _ _ 1 _ [(x, 0)] _ (row_4).sl (fun q hq => by omega) pl_4 (by omega) _ hL.ok.ok hL.ok.okb hL.ok.ne (by rw [hL.ln]) st_4 (by omega) hL.ok.ac)) rfl rfl rfl ?_)
    rintro _ w5 ⟨rO, AO, kO, ws, rfl, out5, hz, yo5, c5⟩
    have hz2 : (ws.map cx).map (·.1) = [cn x] := by rw [hz]; exact inv_one hL _ hok
    rw [List.map_map] at hz2
    have e1 : PP.b.ln.toNat = 1 := by rw [hL.ln]; rfl
    obtain ⟨y0, rfl, hy0⟩ := map_one hz2
    have hlo := Ow.lt out5
    have z5 := c5.size
    refine VO.mv (Rn.move rfl) rfl rfl rfl (VO.mv (Rn.extract rfl rfl) rfl rfl rfl (VO.mv (Rn.extract rfl rfl) rfl rfl rfl (VO.mv (Rn.assign rfl) rfl rfl rfl (VO.mv (Rn.assign rfl) rfl rfl rfl (VO.nil (VQ.then_code (VC.seq ?_)))))))
    refine VC.seq (VC.region (VO.mv (Rn.move rfl) rfl rfl rfl (VO.mv (Rn.nil_neq_nil Tryz.underlying29 rfl) rfl rfl rfl (VO.nil (VQ.then_code (VC.cond_false rfl (VC.skip ?_)))))))
    refine VQ.then_code (VC.seq (VC.region (VO.mv (Rn.move rfl) rfl rfl rfl (VO.wk (Wk.mkF Tryz.underlying27 inf25w53 rfl rfl (by omega) (by omega) (by omega)) rfl rfl rfl ?_))))
    rintro _ w6 ⟨p6, rfl, o6, c6, e6, z6⟩
    refine VO.mv (Rn.assign rfl) rfl rfl rfl (VO.nil (VQ.then_code (VC.seq (VC.seq (VC.region (VO.mv (Rn.move rfl) rfl rfl rfl (VO.mv (Rn.len Tryz.underlying27 rfl) rfl rfl rfl ?_)))))))
    refine VO.mv (Rn.move rfl) rfl rfl rfl (VO.nil (VQ.then_code (VC.block ?_)))
    have out_6 := out5.keep c6
    have CH_6 := CH_4.and (c5.trans c6)
    refine VC.loopS (σ := Nat × Nat) (fun (j, z) => [(6, .int .i64 1), (9, .slice AO PP.b.ln.toNat kO), (10, .slice (some ⟨p6, 0, none⟩) 1 1), (73, .int .i64 1), (74, .int .i64 j)]) (fun (j, z) w' => j ≤ 1 ∧ (0 < j → cn z = cn x) ∧ w6.heap.size ≤ w'.heap.size ∧ FR 25 w' ((p6 + 1)) (some ⟨p6, 0, none⟩) 1 1 [z] ∧ CR 53 w' rO AO PP.b.ln.toNat kO [y0] ∧ Ch (No) w w') (fun (j, z) => 1 - j) (0, 0) ?_ ⟨rfl, rfl, rfl, rfl, rfl, trivial⟩ ?_
    · exact ⟨(by omega), (fun h => absurd h (by omega)), (Nat.le_refl _), o6, out_6, CH_6⟩
    rintro ⟨j, z⟩ w7 ⟨hj, hzz, hsz7, rof_7, out_7, CH_7⟩
    show VC _ _ _ _ [(6, .int .i64 1), (9, .slice AO PP.b.ln.toNat kO), (10, .slice (some ⟨p6, 0, none⟩) 1 1), (73, .int .i64 1), (74, .int .i64 j)] _
    refine VC.seq (VC.region (VO.mv (Rn.lss rfl rfl) rfl rfl rfl (VO.nil (VQ.then_code (VC.seq (VC.cond_if rfl (fun hc2 => ?_) (fun hc2 => ?_)))))))
    · skip
      obtain rfl : j = 0 := by omega
      refine VC.skip (VQ.then_code (VC.seq (VC.block (VC.seq (VC.region (VO.mv (Rn.move rfl) rfl rfl rfl (VO.mv (Rn.assign rfl) rfl rfl rfl ?_)))))))
      refine VO.nil (VQ.then_code (VC.region (VO.mv (Rn.move rfl) rfl rfl rfl (VO.mv (Rn.move rfl) rfl rfl rfl (VO.mv (Rn.move rfl) rfl rfl rfl (VO.mv (Rn.move rfl) rfl rfl rfl (VO.mv (Rn.move rfl) rfl rfl rfl ?_)))))))
      refine VO.wk (Wk.call Tryz.call40 rfl (cos_place0 _)) rfl rfl rfl ?_
      rintro _ _ ⟨rfl, rfl⟩
      refine VO.mv (Rn.indexS Tryz.underlying39 Tryz.sizeOf53 rfl rfl (out_7.sl.ne (by omega)) (by omega) (by omega)) rfl rfl rfl (VO.mv (Rn.load Tryz.isAgg53 rfl (out_7.sl.getC (by omega) (by omega))) rfl rfl rfl (VO.mv (Rn.real rfl) rfl rfl rfl (VO.mv (Rn.indexS Tryz.underlying27 Tryz.sizeOf25 rfl rfl (rof_7.sl.ne (by omega)) (by omega) (by omega)) rfl rfl rfl (VO.wk0 (Wk.putF Tryz.sizeOf25 rfl rfl (by omega) rof_7) rfl rfl ?_))))
      rintro _ w8 ⟨o8, c8, z8⟩
      have y8 := o8.lt
      refine VO.nil (VQ.block_normal (VQ.then_code (VC.region ?_)))
      refine VO.mv (Rn.add rfl rfl (by rw [IntKind.wrap_i64]; omega)) rfl rfl rfl ?_
      refine VO.mv (Rn.move rfl) rfl rfl rfl (VO.nil ?_)
      refine VQ.round (0 + 1, y0.1) (by first | omega | (dsimp only; omega)) ?_ ⟨rfl, rfl, rfl, rfl, rfl, trivial⟩
      have out_8 := out_7.to c8 (by first | exact fun _ _ _ _ => id | (intro q h1 h2 hx h3; omega))
      have CH_8 : Ch (No) w w8 := CH_7.then c8 (by intro q h1 h2; rcases h2 with h2 | h2 <;> first | exact h2 | (exfalso; omega) | omega)
      exact ⟨(by omega), (fun _ => hy0), (by omega), o8, out_8, CH_8⟩
    · skip
      refine VC.exit (VQ.then_exit (VQ.then_exit (VQ.block_exit (VQ.then_code (VC.seq (VC.region (VO.mv (Rn.move rfl) rfl rfl rfl ?_)))))))
      refine VO.mv (Rn.assign rfl) rfl rfl rfl (VO.mv (Rn.assign rfl) rfl rfl rfl (VO.nil (VQ.then_code (VC.ret (VQ.ret2 rfl rfl rfl (Ret.mk ?_))))))
      exact ⟨_, _, rfl, rof_7, hzz (by omega), by omega, CH_7⟩

end Go.Tm
namespace Go.Tm
open Go.RowKit Go.Proofs
theorem xf_ok {xs : List Nat} (h : ∀ x ∈ xs, x < 2 ^ 64) (i : Nat) : FlOk (XF xs i) := by
  refine FlOk.cn ?_
  simp only [List.getD]
  cases hi : xs[i]? with
  | none => simp
  | some x => simpa using h x (List.mem_of_getElem? hi)
theorem fl_ok {bs : List Int} (h : ∀ z ∈ bs, 0 ≤ z ∧ z < 18446744073709551616) (i : Nat) : FlOk (XF (flO bs) i) := by
  refine xf_ok (fun x hx => ?_) i
  obtain ⟨z, hz, rfl⟩ := List.mem_map.1 hx
  have := h z hz
  omega
theorem flO_len (bs : List Int) : (flO bs).length = bs.length := by simp [flO]
theorem flO_all {bs : List Int} {j : Nat} (h : bs.length = j) : ((flO bs).take j).map flV = (flO bs).map flV := by
  rw [List.take_of_length_le (by rw [flO_len]; omega)]

set_option maxRecDepth 100000 in
theorem inf25w54 : Inf Tryz.prog 25 (.float .f64 0) 1 8 := ⟨Tryz.t25, Tryz.type25, rfl, rfl, rfl⟩
set_option maxRecDepth 100000 in
theorem law23_floats (SX : Nat → Prop) (X : Option Addr) (n xc : Nat) (bs : List Int) (w : World) (sx : SlR SX w X n 1 (bs.map UV)) (hX : ∀ q, SX q → q < w.heap.size) (hn : n ≤ 17592186044416)  :
    Calls Tryz.prog 14 #[.slice X n xc] w (Ret (fun v w' => ∃ r A c, v = .slice A n c ∧ FR 25 w' r A n c (flO bs) ∧ w.heap.size < r ∧ Ch No w w')) := by
  have hbl : bs.length = n := by have := sx.len; simpa using this
  refine calls_of_VC (args := [.slice X n xc]) Tryz.func14 rfl Tryz.ntmps14 rfl (VC.seq (VC.region (VO.mv (Rn.assign rfl) rfl rfl rfl (VO.nil (VQ.then_code (VC.seq (VC.region ?_)))))))
  refine VO.wk (Wk.lit0 Tryz.underlying27 inf25w54) rfl rfl rfl ?_
  rintro _ w1 ⟨p1, rfl, N1⟩
  have c1 := N1.ch
  have e1 := N1.p; have z1 := N1.size
  have l6o := Ow.of_new (cs := []) (sz := 1) (l := 0) N1 rfl (by decide)
  refine VO.mv (Rn.assign rfl) rfl rfl rfl (VO.nil (VQ.then_code (VC.seq (VC.seq (VC.region (VO.mv (Rn.move rfl) rfl rfl rfl (VO.mv (Rn.len Tryz.underlying22 rfl) rfl rfl rfl ?_)))))))
  refine VO.mv (Rn.move rfl) rfl rfl rfl (VO.nil (VQ.then_code (VC.block ?_)))
  have sx_1 := sx.keep c1
  have CH_1 := (Ch.refl (No) w).and c1
  refine VC.loopS (σ := Nat × Nat × Option Addr × Nat) (fun (j, r2, A2, c2) => [(3, .slice A2 j c2), (7, .slice X n xc), (8, .int .i64 n), (9, .int .i64 j)]) (fun (j, r2, A2, c2) w' => j ≤ n ∧ w.heap.size < r2 ∧ w1.heap.size ≤ w'.heap.size ∧ Ow w' r2 25 1 A2 j c2 (((flO bs).take j).map flV) ∧ SlR SX w' X n 1 (bs.map UV) ∧ Ch (No) w w') (fun (j, r2, A2, c2) => n - j) (0, (p1 + 1), (some ⟨p1, 0, none⟩), 0) ?_ ⟨rfl, rfl, rfl, rfl, trivial⟩ ?_
  · exact ⟨(by omega), (by omega), (Nat.le_refl _), l6o, sx_1, CH_1⟩
  rintro ⟨j, r2, A2, c2⟩ w2 ⟨hj, hr2, hsz2, row_2, sx_2, CH_2⟩
  show VC _ _ _ _ [(3, .slice A2 j c2), (7, .slice X n xc), (8, .int .i64 n), (9, .int .i64 j)] _
  refine VC.seq (VC.region (VO.mv (Rn.lss rfl rfl) rfl rfl rfl (VO.nil (VQ.then_code (VC.seq (VC.cond_if rfl (fun hc1 => ?_) (fun hc1 => ?_)))))))
  · skip
    refine VC.skip (VQ.then_code (VC.seq (VC.block (VC.seq (VC.region (VO.mv (Rn.indexS Tryz.underlying22 Tryz.sizeOf23 rfl rfl (sx_2.ne (by omega)) (by omega) (by omega)) rfl rfl rfl (VO.mv (Rn.load Tryz.isAgg23 rfl ((sx_2).getU (by omega) (by omega))) rfl rfl rfl ?_)))))))
    refine VO.mv (Rn.assign rfl) rfl rfl rfl (VO.nil (VQ.then_code (VC.region (VO.mv (Rn.move rfl) rfl rfl rfl (VO.mv (Rn.move rfl) rfl rfl rfl (VO.mv (Rn.fbits Tryz.func9 (by kernel_rfl) rfl (by kernel_rfl) (by kernel_rfl) rfl) rfl rfl rfl (VO.wk (Wk.lit Tryz.underlying27 inf25w54 (by decide) rfl rfl (by rfl) (by decide) (by decide) (by rfl)) rfl rfl rfl ?_)))))))
    rintro _ w3 ⟨p3, rfl, N3⟩
    have c3 := N3.ch
    have e3 := N3.p; have z3 := N3.size
    have l16 := SlR.of_new (sz := 1) (l := 1) N3 rfl
    have l16o := Ow.of_new (sz := 1) (l := 1) N3 rfl (by decide)
    have row_3 := row_2.keep c3
    refine VO.wk (Wk.append (S := _) Tryz.underlying27 inf25w54 rfl (by decide) rfl rfl row_3 l16 (by rfl) (fun h => by simp at h) (by omega) (by simp only [maxLen]; omega)) rfl rfl rfl ?_
    rintro _ w4 ⟨r4, A4, k4, rfl, o4, c4, q4⟩
    have z4 := c4.size
    have y4 := o4.lt
    refine VO.mv (Rn.assign rfl) rfl rfl rfl (VO.nil (VQ.block_normal (VQ.then_code (VC.region ?_))))
    refine VO.mv (Rn.add rfl rfl (by rw [IntKind.wrap_i64]; omega)) rfl rfl rfl ?_
    refine VO.mv (Rn.move rfl) rfl rfl rfl (VO.nil ?_)
    refine VQ.round (j + 1, r4, A4, k4) (by first | omega | (dsimp only; omega)) ?_ ⟨rfl, rfl, rfl, rfl, trivial⟩
    have sx_3 := sx_2.keep c3
    have sx_4 := sx_3.to c4 (by first | exact fun _ _ _ _ => id | (intro q h1 h2 hx h3; have := hX q h2; omega))
    have CH_3 := CH_2.and c3
    have CH_4 : Ch (No) w w4 := CH_3.then c4 (by intro q h1 h2; rcases h2 with h2 | h2 <;> first | exact h2 | (exfalso; omega) | omega)
    exact ⟨(by omega), (by omega), (by omega), (by rw [flO_take (by omega)]; exact o4), sx_4, CH_4⟩
  · skip
    refine VC.exit (VQ.then_exit (VQ.then_exit (VQ.block_exit (VQ.then_code (VC.seq (VC.region (VO.mv (Rn.move rfl) rfl rfl rfl ?_)))))))
    refine VO.mv (Rn.assign rfl) rfl rfl rfl (VO.nil (VQ.then_code (VC.ret (VQ.ret1 rfl rfl (Ret.mk ?_)))))
    obtain rfl : j = n := by omega
    have o9 := row_2; rw [flO_all hbl] at o9
    exact ⟨_, _, _, rfl, o9, hr2, CH_2⟩

set_option maxRecDepth 100000 in
theorem law23_lives (w : World) (st : StT w) (tab : TabB w.heap.size w) (hG : 12 ≤ w.heap.size) :
    Calls Tryz.prog 8 #[] w (Ret (fun v w' => v = .bool true ∧ Ch No w w')) := by
  refine calls_of_VC (args := []) Tryz.func8 rfl Tryz.ntmps8 rfl (VC.seq (VC.region (VO.mv (Rn.assign rfl) rfl rfl rfl (VO.nil (VQ.then_code (VC.seq (VC.region ?_)))))))
  refine VO.wk (Wk.lit Tryz.underlying27 inf25w54 (by decide) rfl rfl (by rfl) (by decide) (by decide) (by rfl)) rfl rfl rfl ?_
  rintro _ w1 ⟨p1, rfl, N1⟩
  have c1 := N1.ch
  have e1 := N1.p; have z1 := N1.size
  have l8 := SlR.of_new (sz := 1) (l := 2) N1 rfl
  have l8o := Ow.of_new (sz := 1) (l := 2) N1 rfl (by decide)
  refine VO.wk (Wk.call Tryz.call10 rfl (cos_Sum _ _ 2 _ [4607182418800017408, 4611686018427387904] _ l8 (fun q hq => by omega) (by omega) (xf_ok (by decide)))) rfl rfl rfl ?_
  rintro _ w2 ⟨q2, zs2, rfl, su2, hs2, e2, c2⟩
  have z2 := c2.size
  refine VO.mv (Rn.move rfl) rfl rfl rfl (VO.mv (Rn.extract rfl rfl) rfl rfl rfl (VO.mv (Rn.extract rfl rfl) rfl rfl rfl (VO.mv (Rn.assign rfl) rfl rfl rfl (VO.mv (Rn.assign rfl) rfl rfl rfl (VO.nil (VQ.then_code (VC.seq ?_)))))))
  refine VC.region (VO.wk (Wk.lit Tryz.underlying27 inf25w54 (by decide) rfl rfl (by rfl) (by decide) (by decide) (by rfl)) rfl rfl rfl ?_)
  rintro _ w3 ⟨p3, rfl, N3⟩
  have c3 := N3.ch
  have e3 := N3.p; have z3 := N3.size
  have l13 := SlR.of_new (sz := 1) (l := 1) N3 rfl
  have l13o := Ow.of_new (sz := 1) (l := 1) N3 rfl (by decide)
  have st_3 := st.keep (c1.trans (c2.trans c3))
  have tab_3 := tab.keep (c1.trans (c2.trans c3))
  refine VO.wk (Wk.call Tryz.call11 rfl (cos_Forward1 _ _ _ 4617315517961601024 _ l13 (fun q hq => by omega) st_3 ((tab_3).up (by omega)) (by omega))) rfl rfl rfl ?_
  rintro _ w4 ⟨q4, z4, rfl, fo4, hz4, e4, c4⟩
  have z4 := c4.size
  refine VO.mv (Rn.move rfl) rfl rfl rfl (VO.mv (Rn.extract rfl rfl) rfl rfl rfl (VO.mv (Rn.extract rfl rfl) rfl rfl rfl (VO.mv (Rn.assign rfl) rfl rfl rfl (VO.mv (Rn.assign rfl) rfl rfl rfl (VO.nil (VQ.then_code (VC.seq ?_)))))))
  refine VC.region (VO.wk (Wk.lit Tryz.underlying27 inf25w54 (by decide) rfl rfl (by rfl) (by decide) (by decide) (by rfl)) rfl rfl rfl ?_)
  rintro _ w5 ⟨p5, rfl, N5⟩
  have c5 := N5.ch
  have e5 := N5.p; have z5 := N5.size
  have l18 := SlR.of_new (sz := 1) (l := 1) N5 rfl
  have l18o := Ow.of_new (sz := 1) (l := 1) N5 rfl (by decide)
  have st_5 := st_3.keep (c4.trans c5)
  have tab_5 := tab_3.keep (c4.trans c5)
  refine VO.wk (Wk.call Tryz.call12 rfl (cos_Inverse1 _ _ _ 4619567317775286272 _ l18 (fun q hq => by omega) st_5 ((tab_5).up (by omega)) (by omega) (FlOk.cn (by decide)))) rfl rfl rfl ?_
  rintro _ w6 ⟨q6, z6, rfl, io6, hy6, e6, c6⟩
  have z6 := c6.size
  refine VO.mv (Rn.move rfl) rfl rfl rfl (VO.mv (Rn.extract rfl rfl) rfl rfl rfl (VO.mv (Rn.extract rfl rfl) rfl rfl rfl (VO.mv (Rn.assign rfl) rfl rfl rfl (VO.mv (Rn.assign rfl) rfl rfl rfl (VO.nil (VQ.then_code (VC.seq ?_)))))))
  refine VC.region (VO.mv (Rn.move rfl) rfl rfl rfl (VO.mv (Rn.nil_eql_nil Tryz.underlying29 rfl) rfl rfl rfl (VO.mv (Rn.move rfl) rfl rfl rfl (VO.mv (Rn.move rfl) rfl rfl rfl (VO.mv (Rn.len Tryz.underlying27 rfl) rfl rfl rfl (VO.mv (Rn.eql rfl rfl) rfl rfl rfl (VO.mv (Rn.pick_true rfl rfl) rfl rfl rfl ?_)))))))
  refine VO.mv (Rn.move rfl) rfl rfl rfl ?_
  refine VO.andJoin (b := _) 5 29 34 rfl (fun hc1 Jhc1 => by
      try simp only [Bool.and_eq_true, Bool.or_eq_true, Bool.not_eq_true', Bool.not_eq_false', Bool.and_eq_false_iff, Bool.or_eq_false_iff, decide_eq_true_eq, decide_eq_false_iff_not] at hc1
      refine VO.mv (Rn.move rfl) rfl rfl rfl ?_
      have su_6 := su2.keep (c3.trans (c4.trans (c5.trans c6)))
      refine VO.mv (Rn.indexS Tryz.underlying27 Tryz.sizeOf25 rfl rfl (su_6.sl.ne (by omega)) (by omega) (by omega)) rfl rfl rfl (VO.mv (Rn.load Tryz.isAgg25 rfl (su_6.sl.getF (by omega) (by omega))) rfl rfl rfl (VO.mv (Rn.feqlT rfl rfl (feq_const (hs2.trans (by kernel_rfl)) (by kernel_rfl) (by kernel_rfl))) rfl rfl rfl (VO.mv (Rn.pick_true rfl rfl) rfl rfl rfl ?_)))
      exact (VO.fg rfl (VO.fg rfl (VO.fg rfl (VO.fg rfl Jhc1))))) (fun hc1 Jhc1 => by
      refine VO.skip rfl rfl rfl (VO.skip rfl rfl rfl (VO.skip rfl rfl rfl (VO.skip rfl rfl rfl (VO.mv (Rn.pick_false rfl rfl) rfl rfl rfl ?_))))
      exact (VO.fg rfl (VO.fg rfl (VO.fg rfl (VO.fg rfl Jhc1))))) ?_
  refine VO.mv (Rn.move rfl) rfl rfl rfl ?_
  refine VO.andJoin (b := _) 3 35 38 rfl (fun hc2 Jhc2 => by
      try simp only [Bool.and_eq_true, Bool.or_eq_true, Bool.not_eq_true', Bool.not_eq_false', Bool.and_eq_false_iff, Bool.or_eq_false_iff, decide_eq_true_eq, decide_eq_false_iff_not] at hc2
      refine VO.mv (Rn.move rfl) rfl rfl rfl (VO.mv (Rn.nil_eql_nil Tryz.underlying29 rfl) rfl rfl rfl (VO.mv (Rn.pick_true rfl rfl) rfl rfl rfl ?_))
      exact (VO.fg rfl (VO.fg rfl Jhc2))) (fun hc2 Jhc2 => by
      refine VO.skip rfl rfl rfl (VO.skip rfl rfl rfl (VO.mv (Rn.pick_false rfl rfl) rfl rfl rfl ?_))
      exact (VO.fg rfl (VO.fg rfl Jhc2))) ?_
  refine VO.mv (Rn.move rfl) rfl rfl rfl ?_
  refine VO.andJoin (b := _) 4 39 43 rfl (fun hc3 Jhc3 => by
      try simp only [Bool.and_eq_true, Bool.or_eq_true, Bool.not_eq_true', Bool.not_eq_false', Bool.and_eq_false_iff, Bool.or_eq_false_iff, decide_eq_true_eq, decide_eq_false_iff_not] at hc3
      refine VO.mv (Rn.move rfl) rfl rfl rfl (VO.mv (Rn.len Tryz.underlying27 rfl) rfl rfl rfl (VO.mv (Rn.eql rfl rfl) rfl rfl rfl (VO.mv (Rn.pick_true rfl rfl) rfl rfl rfl ?_)))
      exact (VO.fg rfl (VO.fg rfl (VO.fg rfl Jhc3)))) (fun hc3 Jhc3 => by
      refine VO.skip rfl rfl rfl (VO.skip rfl rfl rfl (VO.skip rfl rfl rfl (VO.mv (Rn.pick_false rfl rfl) rfl rfl rfl ?_)))
      exact (VO.fg rfl (VO.fg rfl (VO.fg rfl Jhc3)))) ?_
  refine VO.mv (Rn.move rfl) rfl rfl rfl ?_
  refine VO.andJoin (b := _) 5 44 49 rfl (fun hc4 Jhc4 => by
      try simp only [Bool.and_eq_true, Bool.or_eq_true, Bool.not_eq_true', Bool.not_eq_false', Bool.and_eq_false_iff, Bool.or_eq_false_iff, decide_eq_true_eq, decide_eq_false_iff_not] at hc4
      refine VO.mv (Rn.move rfl) rfl rfl rfl ?_
      have fo_6 := fo4.keep (c5.trans c6)
      refine VO.mv (Rn.indexS Tryz.underlying27 Tryz.sizeOf25 rfl rfl (fo_6.sl.ne (by omega)) (by omega) (by omega)) rfl rfl rfl (VO.mv (Rn.load Tryz.isAgg25 rfl (fo_6.sl.getF (by omega) (by omega))) rfl rfl rfl (VO.mv (Rn.feqlT rfl rfl (feq_const (hz4) (by kernel_rfl) (by kernel_rfl))) rfl rfl rfl (VO.mv (Rn.pick_true rfl rfl) rfl rfl rfl ?_)))
      exact (VO.fg rfl (VO.fg rfl (VO.fg rfl (VO.fg rfl Jhc4))))) (fun hc4 Jhc4 => by
      refine VO.skip rfl rfl rfl (VO.skip rfl rfl rfl (VO.skip rfl rfl rfl (VO.skip rfl rfl rfl (VO.mv (Rn.pick_false rfl rfl) rfl rfl rfl ?_))))
      exact (VO.fg rfl (VO.fg rfl (VO.fg rfl (VO.fg rfl Jhc4))))) ?_
  refine VO.mv (Rn.move rfl) rfl rfl rfl ?_
  refine VO.andJoin (b := _) 3 50 53 rfl (fun hc5 Jhc5 => by
      try simp only [Bool.and_eq_true, Bool.or_eq_true, Bool.not_eq_true', Bool.not_eq_false', Bool.and_eq_false_iff, Bool.or_eq_false_iff, decide_eq_true_eq, decide_eq_false_iff_not] at hc5
      refine VO.mv (Rn.move rfl) rfl rfl rfl (VO.mv (Rn.nil_eql_nil Tryz.underlying29 rfl) rfl rfl rfl (VO.mv (Rn.pick_true rfl rfl) rfl rfl rfl ?_))
      exact (VO.fg rfl (VO.fg rfl Jhc5))) (fun hc5 Jhc5 => by
      refine VO.skip rfl rfl rfl (VO.skip rfl rfl rfl (VO.mv (Rn.pick_false rfl rfl) rfl rfl rfl ?_))
      exact (VO.fg rfl (VO.fg rfl Jhc5))) ?_
  refine VO.mv (Rn.move rfl) rfl rfl rfl ?_
  refine VO.andJoin (b := _) 4 54 58 rfl (fun hc6 Jhc6 => by
      try simp only [Bool.and_eq_true, Bool.or_eq_true, Bool.not_eq_true', Bool.not_eq_false', Bool.and_eq_false_iff, Bool.or_eq_false_iff, decide_eq_true_eq, decide_eq_false_iff_not] at hc6
      refine VO.mv (Rn.move rfl) rfl rfl rfl (VO.mv (Rn.len Tryz.underlying27 rfl) rfl rfl rfl (VO.mv (Rn.eql rfl rfl) rfl rfl rfl (VO.mv (Rn.pick_true rfl rfl) rfl rfl rfl ?_)))
      exact (VO.fg rfl (VO.fg rfl (VO.fg rfl Jhc6)))) (fun hc6 Jhc6 => by
      refine VO.skip rfl rfl rfl (VO.skip rfl rfl rfl (VO.skip rfl rfl rfl (VO.mv (Rn.pick_false rfl rfl) rfl rfl rfl ?_)))
      exact (VO.fg rfl (VO.fg rfl (VO.fg rfl Jhc6)))) ?_
  refine VO.mv (Rn.move rfl) rfl rfl rfl ?_
  refine VO.andJoin (b := _) 5 59 64 rfl (fun hc7 Jhc7 => by
      try simp only [Bool.and_eq_true, Bool.or_eq_true, Bool.not_eq_true', Bool.not_eq_false', Bool.and_eq_false_iff, Bool.or_eq_false_iff, decide_eq_true_eq, decide_eq_false_iff_not] at hc7
      refine VO.mv (Rn.move rfl) rfl rfl rfl (VO.mv (Rn.indexS Tryz.underlying27 Tryz.sizeOf25 rfl rfl (io6.sl.ne (by omega)) (by omega) (by omega)) rfl rfl rfl (VO.mv (Rn.load Tryz.isAgg25 rfl (io6.sl.getF (by omega) (by omega))) rfl rfl rfl (VO.mv (Rn.feqlT rfl rfl (feq_const (hy6) (by kernel_rfl) (by kernel_rfl))) rfl rfl rfl (VO.mv (Rn.pick_true rfl rfl) rfl rfl rfl ?_))))
      exact (VO.fg rfl (VO.fg rfl (VO.fg rfl (VO.fg rfl Jhc7))))) (fun hc7 Jhc7 => by
      refine VO.skip rfl rfl rfl (VO.skip rfl rfl rfl (VO.skip rfl rfl rfl (VO.skip rfl rfl rfl (VO.mv (Rn.pick_false rfl rfl) rfl rfl rfl ?_))))
      exact (VO.fg rfl (VO.fg rfl (VO.fg rfl (VO.fg rfl Jhc7))))) ?_
  refine VO.mv (Rn.assign rfl) rfl rfl rfl (VO.nil (VQ.then_code (VC.ret (VQ.ret1 rfl rfl (Ret.mk ?_)))))
  have CH_6 := (Ch.refl (No) w).and (c1.trans (c2.trans (c3.trans (c4.trans (c5.trans c6)))))
  exact ⟨rfl, CH_6⟩

set_option maxHeartbeats 1000000 in
set_option maxRecDepth 100000 in
theorem law_CosineOne (SX : Nat → Prop) (X : Option Addr) (n xc : Nat) (bs : List Int) (w : World) (sx : SlR SX w X n 1 (bs.map UV)) (hX : ∀ q, SX q → q < w.heap.size) (hn : n ≤ 17592186044416) (o : Int) (ho : 0 ≤ o ∧ o < 18446744073709551616) (hbs : ∀ z ∈ bs, 0 ≤ z ∧ z < 18446744073709551616) (st : StT w) (tab : TabB w.heap.size w) (hG : 12 ≤ w.heap.size) :
    Calls Tryz.prog 3 #[.slice X n xc, .int .u64 o] w (Ret (fun v w' => v = .bool true ∧ Ch No w w')) := by
  have hok : FlOk (cn o.toNat) := FlOk.cn (by omega)
  have hok1 : ∀ i, FlOk (XF [o.toNat] i) := xf_ok (by intro x hx; obtain rfl := List.mem_singleton.1 hx; omega)
  have hokb := fl_ok hbs
  refine calls_of_VC (args := [.slice X n xc, .int .u64 o]) Tryz.func3 rfl Tryz.ntmps3 rfl (VC.seq (VC.region (VO.mv (Rn.assign rfl) rfl rfl rfl (VO.nil (VQ.then_code (VC.seq (VC.seq ?_)))))))
  refine VC.region (VO.wk (Wk.call Tryz.call8 rfl (law23_lives _ st ((tab).up (by omega)) (by omega))) rfl rfl rfl ?_)
  rintro _ w1 ⟨rfl, c1⟩
  have z1 := c1.size
  refine VO.mv (Rn.not rfl) rfl rfl rfl (VO.nil (VQ.then_code (VC.cond_false rfl (VC.skip (VQ.then_code (VC.seq (VC.region ?_)))))))
  refine VO.mv (Rn.move rfl) rfl rfl rfl (VO.mv (Rn.fbits Tryz.func9 (by kernel_rfl) rfl (by kernel_rfl) (by kernel_rfl) rfl) rfl rfl rfl (VO.wk (Wk.lit Tryz.underlying27 inf25w54 (by decide) rfl rfl (by rfl) (by decide) (by decide) (by rfl)) rfl rfl rfl ?_))
  rintro _ w2 ⟨p2, rfl, N2⟩
  have c2 := N2.ch
  have e2 := N2.p; have z2 := N2.size
  have l22 := SlR.of_new (sz := 1) (l := 1) N2 rfl
  have l22o := Ow.of_new (sz := 1) (l := 1) N2 rfl (by decide)
  refine VO.mv (Rn.assign rfl) rfl rfl rfl (VO.nil (VQ.then_code (VC.seq (VC.region (VO.mv (Rn.move rfl) rfl rfl rfl (VO.wk (Wk.call Tryz.call10 rfl (cos_Sum _ _ 1 _ [o.toNat] _ l22 (fun q hq => by omega) (by omega) hok1)) rfl rfl rfl ?_))))))
  rintro _ w3 ⟨q3, zs3, rfl, su3, hs3, e3, c3⟩
  have z3 := c3.size
  obtain ⟨z0, rfl⟩ : ∃ z0, zs3 = [z0] := List.length_eq_one_iff.1 (FR.len su3)
  have hv0 : cn z0 = cn o.toNat := hs3
  refine VO.mv (Rn.move rfl) rfl rfl rfl (VO.mv (Rn.extract rfl rfl) rfl rfl rfl (VO.mv (Rn.extract rfl rfl) rfl rfl rfl (VO.mv (Rn.assign rfl) rfl rfl rfl (VO.mv (Rn.assign rfl) rfl rfl rfl (VO.nil (VQ.then_code (VC.seq ?_)))))))
  refine VC.region (VO.mv (Rn.move rfl) rfl rfl rfl ?_)
  have l22_3 := l22.keep c3
  have st_3 := st.keep (c1.trans (c2.trans c3))
  have tab_3 := tab.keep (c1.trans (c2.trans c3))
  refine VO.wk (Wk.call Tryz.call11 rfl (cos_Forward1 _ _ _ o.toNat _ l22_3 (fun q hq => by omega) st_3 ((tab_3).up (by omega)) (by omega))) rfl rfl rfl ?_
  rintro _ w4 ⟨q4, z4, rfl, fo4, hz4, e4, c4⟩
  have z4 := c4.size
  refine VO.mv (Rn.move rfl) rfl rfl rfl (VO.mv (Rn.extract rfl rfl) rfl rfl rfl (VO.mv (Rn.extract rfl rfl) rfl rfl rfl (VO.mv (Rn.assign rfl) rfl rfl rfl (VO.mv (Rn.assign rfl) rfl rfl rfl (VO.nil (VQ.then_code (VC.seq ?_)))))))
  refine VC.region (VO.mv (Rn.move rfl) rfl rfl rfl ?_)
  have l22_4 := l22_3.keep c4
  have st_4 := st_3.keep c4
  have tab_4 := tab_3.keep c4
  refine VO.wk (Wk.call Tryz.call12 rfl (cos_Inverse1 _ _ _ o.toNat _ l22_4 (fun q hq => by omega) st_4 ((tab_4).up (by omega)) (by omega) hok)) rfl rfl rfl ?_
  rintro _ w5 ⟨q5, z5, rfl, io5, hy5, e5, c5⟩
  have z5 := c5.size
  refine VO.mv (Rn.move rfl) rfl rfl rfl (VO.mv (Rn.extract rfl rfl) rfl rfl rfl (VO.mv (Rn.extract rfl rfl) rfl rfl rfl (VO.mv (Rn.assign rfl) rfl rfl rfl (VO.mv (Rn.assign rfl) rfl rfl rfl (VO.nil (VQ.then_code (VC.seq ?_)))))))
  refine VC.seq (VC.region (VO.mv (Rn.move rfl) rfl rfl rfl (VO.mv (Rn.nil_neq_nil Tryz.underlying29 rfl) rfl rfl rfl (VO.mv (Rn.move rfl) rfl rfl rfl (VO.mv (Rn.move rfl) rfl rfl rfl (VO.mv (Rn.nil_neq_nil Tryz.underlying29 rfl) rfl rfl rfl (VO.mv (Rn.pick_false rfl rfl) rfl rfl rfl ?_)))))))
  refine VO.mv (Rn.move rfl) rfl rfl rfl (VO.mv (Rn.move rfl) rfl rfl rfl (VO.mv (Rn.nil_neq_nil Tryz.underlying29 rfl) rfl rfl rfl (VO.mv (Rn.pick_false rfl rfl) rfl rfl rfl (VO.mv (Rn.move rfl) rfl rfl rfl (VO.mv (Rn.move rfl) rfl rfl rfl (VO.mv (Rn.move rfl) rfl rfl rfl ?_))))))
  have su_5 := su3.keep (c4.trans c5)
  have l22_5 := l22_4.keep c5
  refine VO.wk (Wk.call Tryz.call13 rfl (law23_same _ _ _ _ _ _ _ _ _ (su_5).sl l22_5 (hv0))) rfl rfl rfl ?_
  rintro _ w6 ⟨rfl, c6⟩
  have z6 := c6.size
  refine VO.mv (Rn.not rfl) rfl rfl rfl (VO.mv (Rn.pick_false rfl rfl) rfl rfl rfl (VO.mv (Rn.move rfl) rfl rfl rfl (VO.mv (Rn.move rfl) rfl rfl rfl (VO.mv (Rn.move rfl) rfl rfl rfl ?_))))
  have fo_6 := fo4.keep (c5.trans c6)
  have l22_6 := l22_5.keep c6
  refine VO.wk (Wk.call Tryz.call13 rfl (law23_same _ _ _ _ _ _ _ _ _ (fo_6).sl l22_6 (hz4))) rfl rfl rfl ?_
  rintro _ w7 ⟨rfl, c7⟩
  have z7 := c7.size
  refine VO.mv (Rn.not rfl) rfl rfl rfl (VO.mv (Rn.pick_false rfl rfl) rfl rfl rfl (VO.mv (Rn.move rfl) rfl rfl rfl (VO.mv (Rn.move rfl) rfl rfl rfl (VO.mv (Rn.move rfl) rfl rfl rfl ?_))))
  have io_7 := io5.keep (c6.trans c7)
  have l22_7 := l22_6.keep c7
  refine VO.wk (Wk.call Tryz.call13 rfl (law23_same _ _ _ _ _ _ _ _ _ (io_7).sl l22_7 (hy5))) rfl rfl rfl ?_
  rintro _ w8 ⟨rfl, c8⟩
  have z8 := c8.size
  refine VO.mv (Rn.not rfl) rfl rfl rfl (VO.mv (Rn.pick_false rfl rfl) rfl rfl rfl (VO.nil (VQ.then_code (VC.cond_false rfl (VC.skip (VQ.then_code (VC.seq ?_)))))))
  refine VC.region (VO.mv (Rn.move rfl) rfl rfl rfl ?_)
  have sx_8 := sx.keep (c1.trans (c2.trans (c3.trans (c4.trans (c5.trans (c6.trans (c7.trans c8)))))))
  refine VO.wk (Wk.call Tryz.call14 rfl (law23_floats _ _ _ _ bs _ sx_8 (fun q hq => by have := hX q hq; omega) hn)) rfl rfl rfl ?_
  rintro _ w9 ⟨r9, A9, k9, rfl, fl9, yr9, c9⟩
  have yl9 := Ow.lt fl9
  have z9 := c9.size
  refine VO.mv (Rn.assign rfl) rfl rfl rfl (VO.nil (VQ.then_code (VC.seq (VC.seq (VC.region (VO.mv (Rn.move rfl) rfl rfl rfl (VO.mv (Rn.len Tryz.underlying27 rfl) rfl rfl rfl ?_)))))))
  refine VO.mv (Rn.eql rfl rfl) rfl rfl rfl (VO.mv (Rn.move rfl) rfl rfl rfl ?_)
  refine VO.orJoin (b := _) 4 71 75 rfl (fun hc1 Jhc1 => by
      refine VO.skip rfl rfl rfl (VO.skip rfl rfl rfl (VO.skip rfl rfl rfl (VO.mv (Rn.pick_true rfl rfl) rfl rfl rfl ?_)))
      exact (VO.fg rfl (VO.fg rfl (VO.fg rfl Jhc1)))) (fun hc1 Jhc1 => by
      try simp only [Bool.and_eq_true, Bool.or_eq_true, Bool.not_eq_true', Bool.not_eq_false', Bool.and_eq_false_iff, Bool.or_eq_false_iff, decide_eq_true_eq, decide_eq_false_iff_not] at hc1
      refine VO.mv (Rn.move rfl) rfl rfl rfl (VO.mv (Rn.len Tryz.underlying27 rfl) rfl rfl rfl (VO.mv (Rn.gtr rfl rfl) rfl rfl rfl (VO.mv (Rn.pick_false rfl rfl) rfl rfl rfl ?_)))
      exact (VO.fg rfl (VO.fg rfl (VO.fg rfl Jhc1)))) ?_
  refine VO.nil (VQ.then_code (VC.cond rfl (fun hc2 => ?_) (fun hc2 => ?_)))
  · skip
    try simp only [Bool.and_eq_true, Bool.or_eq_true, Bool.not_eq_true', Bool.not_eq_false', Bool.and_eq_false_iff, Bool.or_eq_false_iff, decide_eq_true_eq, decide_eq_false_iff_not] at hc2
    refine VC.seq (VC.region (VO.mv (Rn.assign rfl) rfl rfl rfl (VO.nil (VQ.then_code (VC.ret (VQ.then_ret (VQ.ret1 rfl rfl ?_)))))))
    refine Ret.mk ?_
    have CH_9 := (Ch.refl (No) w).and (c1.trans (c2.trans (c3.trans (c4.trans (c5.trans (c6.trans (c7.trans (c8.trans c9))))))))
    exact ⟨rfl, CH_9⟩
  · skip
    try simp only [Bool.and_eq_true, Bool.or_eq_true, Bool.not_eq_true', Bool.not_eq_false', Bool.and_eq_false_iff, Bool.or_eq_false_iff, decide_eq_true_eq, decide_eq_false_iff_not] at hc2
    have hn9 : 1 ≤ n ∧ n ≤ 300 := by omega
    refine VC.skip (VQ.then_code (VC.seq (VC.region (VO.mv (Rn.move rfl) rfl rfl rfl (VO.mv (Rn.indexS Tryz.underlying27 Tryz.sizeOf25 rfl rfl (fl9.sl.ne (by omega)) (by omega) (by omega)) rfl rfl rfl (VO.mv (Rn.load Tryz.isAgg25 rfl (fl9.sl.getF (by omega) (by omega))) rfl rfl rfl (VO.mv (Rn.assign rfl) rfl rfl rfl ?_)))))))
    refine VO.nil (VQ.then_code (VC.seq (VC.seq ?_)))
    have hcap := Ow.cap fl9 (by omega)
    have sb := SlR.subF (fl9).sl (i := 1) (j := n) (by omega) (Nat.le_refl _) hcap
    refine VC.region (VO.mv (Rn.move rfl) rfl rfl rfl (VO.mv (Rn.sliceLo Tryz.underlying27 Tryz.sizeOf25 rfl rfl (by omega) (by omega) hcap) rfl rfl rfl (VO.mv (Rn.len Tryz.underlying27 rfl) rfl rfl rfl (VO.mv (Rn.move rfl) rfl rfl rfl (VO.nil (VQ.then_code (VC.block ?_)))))))
    have CH_9 := (Ch.refl (No) w).and (c1.trans (c2.trans (c3.trans (c4.trans (c5.trans (c6.trans (c7.trans (c8.trans c9))))))))
    refine VC.loopS (σ := Nat × Nat) (fun (j, s) => [(12, .slice A9 n k9), (13, .float .f64 s), (80, .slice (if k9 = (1 : Int).toNat then A9 else A9.map (·.add ((1 : Int).toNat * 1))) (n - (1 : Int).toNat) (k9 - (1 : Int).toNat)), (81, .int .i64 (n - (1 : Int).toNat : Nat)), (82, .int .i64 j)]) (fun (j, s) w' => j ≤ n - 1 ∧ cn s = sumLF (XF (flO bs)) j ∧ w9.heap.size ≤ w'.heap.size ∧ FR 25 w' r9 A9 n k9 (flO bs) ∧ SlR (At r9) w' (if k9 = 1 then A9 else A9.map (·.add (1 * 1))) (n - 1) 1 ((((flO bs).drop 1).take (n - 1)).map flV) ∧ Ch (No) w w') (fun (j, s) => n - 1 - j) (0, _) ?_ ⟨rfl, rfl, rfl, rfl, rfl, trivial⟩ ?_
    · exact ⟨(by omega), (by rfl), (Nat.le_refl _), fl9, sb, CH_9⟩
    rintro ⟨j, s⟩ w10 ⟨hj, hs, hsz10, fl_10, sb_10, CH_10⟩
    show VC _ _ _ _ [(12, .slice A9 n k9), (13, .float .f64 s), (80, .slice (if k9 = (1 : Int).toNat then A9 else A9.map (·.add ((1 : Int).toNat * 1))) (n - (1 : Int).toNat) (k9 - (1 : Int).toNat)), (81, .int .i64 (n - (1 : Int).toNat : Nat)), (82, .int .i64 j)] _
    refine VC.seq (VC.region (VO.mv (Rn.lss rfl rfl) rfl rfl rfl (VO.nil (VQ.then_code (VC.seq (VC.cond_if rfl (fun hc3 => ?_) (fun hc3 => ?_)))))))
    · skip
      refine VC.skip (VQ.then_code (VC.seq (VC.block (VC.seq (VC.region (VO.mv (Rn.indexS Tryz.underlying27 Tryz.sizeOf25 rfl rfl (sb_10.ne (by omega)) (by omega) (by omega)) rfl rfl rfl (VO.mv (Rn.load Tryz.isAgg25 rfl (sb_10.getF (by omega) (by omega))) rfl rfl rfl ?_)))))))
      refine VO.mv (Rn.assign rfl) rfl rfl rfl (VO.nil (VQ.then_code (VC.region (VO.mv (Rn.move rfl) rfl rfl rfl (VO.mv (Rn.move rfl) rfl rfl rfl (VO.wk (Wk.fbin (.inl rfl) rfl rfl) rfl rfl rfl ?_))))))
      rintro _ w11 ⟨r11, rfl, f11, c11⟩
      have z11 := c11.size
      refine VO.mv (Rn.assign rfl) rfl rfl rfl (VO.nil (VQ.block_normal (VQ.then_code (VC.region ?_))))
      refine VO.mv (Rn.add rfl rfl (by rw [IntKind.wrap_i64]; omega)) rfl rfl rfl ?_
      refine VO.mv (Rn.move rfl) rfl rfl rfl (VO.nil ?_)
      refine VQ.round (j + 1, r11) (by first | omega | (dsimp only; omega)) ?_ ⟨rfl, rfl, rfl, rfl, rfl, trivial⟩
      have fl_11 := fl_10.keep c11
      have sb_11 := sb_10.keep c11
      have CH_11 := CH_10.and c11
      exact ⟨(by omega), (by rw [sumLF, ← hs, f11]; exact congrArg (fop .add (cn s)) (by rw [Int.toNat_natCast, sub_getD (by omega), Nat.add_comm])), (by omega), fl_11, sb_11, CH_11⟩
    · skip
      obtain rfl : j = n - 1 := by omega
      refine VC.exit (VQ.then_exit (VQ.then_exit (VQ.block_exit (VQ.then_code (VC.seq (VC.region (VO.mv (Rn.move rfl) rfl rfl rfl ?_)))))))
      refine VO.wk (Wk.call Tryz.call10 rfl (cos_Sum _ _ n _ (flO bs) _ (fl_10).sl (fun q hq => by omega) (by omega) hokb)) rfl rfl rfl ?_
      rintro _ w12 ⟨q12, zs12, rfl, su12, hs12, e12, c12⟩
      have z12 := c12.size
      have hs9 := hs12
      refine VO.mv (Rn.move rfl) rfl rfl rfl (VO.mv (Rn.extract rfl rfl) rfl rfl rfl (VO.mv (Rn.extract rfl rfl) rfl rfl rfl (VO.mv (Rn.assign rfl) rfl rfl rfl (VO.mv (Rn.assign rfl) rfl rfl rfl (VO.nil (VQ.then_code (VC.seq ?_)))))))
      refine VC.region (VO.mv (Rn.move rfl) rfl rfl rfl (VO.mv (Rn.nil_eql_nil Tryz.underlying29 rfl) rfl rfl rfl (VO.mv (Rn.move rfl) rfl rfl rfl (VO.mv (Rn.move rfl) rfl rfl rfl (VO.mv (Rn.len Tryz.underlying27 rfl) rfl rfl rfl (VO.mv (Rn.move rfl) rfl rfl rfl (VO.mv (Rn.len Tryz.underlying27 rfl) rfl rfl rfl ?_)))))))
      refine VO.mv (Rn.eqlT rfl rfl rfl) rfl rfl rfl (VO.mv (Rn.pick_true rfl rfl) rfl rfl rfl (VO.mv (Rn.move rfl) rfl rfl rfl (VO.mv (Rn.move rfl) rfl rfl rfl (VO.mv (Rn.indexS Tryz.underlying27 Tryz.sizeOf25 rfl rfl (su12.sl.ne (by omega)) (by omega) (by omega)) rfl rfl rfl (VO.mv (Rn.load Tryz.isAgg25 rfl (su12.sl.getF (by omega) (by omega))) rfl rfl rfl (VO.mv (Rn.move rfl) rfl rfl rfl (VO.wk (Wk.call Tryz.call15 rfl (ref_SameT _ _ (hs9.trans hs.symm) _)) rfl rfl rfl ?_)))))))
      rintro _ _ ⟨rfl, rfl⟩
      refine VO.mv (Rn.pick_true rfl rfl) rfl rfl rfl (VO.mv (Rn.assign rfl) rfl rfl rfl (VO.nil (VQ.then_code (VC.ret (VQ.ret1 rfl rfl (Ret.mk ?_))))))
      have CH_12 := CH_10.and c12
      exact ⟨rfl, CH_12⟩

end Go.Tm
namespace Go.Tm
open Go.RowKit Go.Proofs Go.ChangeShapes Go.WideShapes Go.Deep
open Go.Proofs.YtdgiiehbbmfgoaaGreatDoor
theorem laidVars_at {P : Program} {w : World} : ∀ {l : List (String × DataW Unit)} {ps : List MemPlace} (i : Nat) {x : String × DataW Unit}, DataW.LaidVars P w l ps → l[i]? = some x → ∃ ps', DataW.LaidVars P w [x] ps' ∧ ps'.Sublist ps
  | [], _, _, _, _, h => by simp at h
  | (n, d) :: r, ps, 0, x, h, hi => by
    obtain ⟨g, t, cs, fuel, p, q, e1, e2, e3, e4, hr, rfl⟩ := h
    simp only [List.getElem?_cons_zero, Option.some.injEq] at hi
    subst hi
    exact ⟨_, ⟨g, t, cs, fuel, p, [], e1, e2, e3, e4, rfl, rfl⟩, by rw [List.append_nil]; exact List.sublist_append_left _ _⟩
  | (n, d) :: r, ps, i + 1, x, h, hi => by
    obtain ⟨g, t, cs, fuel, p, q, e1, e2, e3, e4, hr, rfl⟩ := h
    obtain ⟨ps', h1, h2⟩ := laidVars_at i hr (by simpa using hi)
    exact ⟨ps', h1, h2.trans (List.sublist_append_right _ _)⟩
theorem _root_.Go.laidMet.at {P : Program} {w : World} {l : List (String × DataW Unit)} {x : String × DataW Unit} (h : laidMet P l w) (i : Nat) (hi : l[i]? = some x) : laidMet P [x] w := by
  obtain ⟨ps, hl, hnd, hrows⟩ := h
  obtain ⟨ps', h1, h2⟩ := laidVars_at i hl hi
  exact ⟨ps', h1, h2.nodup hnd, fun b off hp => hrows b off (h2.subset hp)⟩
noncomputable abbrev laidL : List (String × DataW Unit) := Rows.cosineOneRow.laid
theorem gn_of {W : World} (h : laidMet Tryz.prog laidL W) : 12 ≤ W.heap.size := by
  obtain ⟨ps, ⟨g0, t0, cs0, f0, p0, q0, hg0, ht0, hv0, hd0, _, e0⟩, _, hrows⟩ := h.at 1 rfl
  have hg : Tryz.prog.globalNamed "math/bits.deBruijn64tab" = some 11 := by kernel_rfl
  obtain rfl := Option.some.inj (hg.symm.trans hg0)
  unfold World.var? at hv0
  rw [hg] at hv0
  simp only [Option.bind_some] at hv0
  split at hv0
  · rename_i hx
    have := blk_lt hx
    omega
  · cases hv0
theorem tab_of {W : World} (h : laidMet Tryz.prog laidL W) (hgn : 12 ≤ W.heap.size) : TabB W.heap.size W := by
  have hg : Tryz.prog.globalNamed "internal/strconv.uint64pow10" = some 9 := by kernel_rfl
  refine ⟨Lib.tabIs_of_head hg (by kernel_rfl) Tryz.underlying281 Tryz.underlying23 (by kernel_rfl) (by kernel_rfl) (h.at 2 (by kernel_rfl)), fun g e => ?_⟩
  obtain rfl := Option.some.inj (hg.symm.trans e)
  omega
section
variable {H : Type} {enc : TypeId × Value → H} {P : Program} {w : World} {base : Nat} {spare : Nat → Bool} {held : Bool}
theorem struct_cells {e : TypeId} {fs : Array Field} {fuel : Nat} {cs : List Value} {x : DataW H × List MemPlace} (he : P.underlying e = some (.struct fs))
    (hone : oneCellFields P fs = true) (hC : P.cellsOf e = fs.size) (h : DataW.trod enc P w base spare held fuel e cs = some x) :
    ∃ (ys : List (DataW H × List MemPlace)) (n : Nat), x.1 = .agg (ys.map (·.1)) ∧ cs.length = fs.size ∧ ∀ (j : Nat) (f : Field), fs[j]? = some f → ∃ (v : Value) (y : DataW H × List MemPlace), cs[j]? = some v ∧ ys[j]? = some y ∧ DataW.trod enc P w base spare held n f.type [v] = some y := by
  obtain ⟨ys, n', hn', hy, hlen, hyl, hf⟩ := DataW.trod_struct he h
  rw [hC] at hlen
  refine ⟨ys, n', by rw [hy], hlen, fun j f hj => ?_⟩
  obtain ⟨ho, hk⟩ := hone_of hone j f hj
  have hjl : j < fs.size := (Array.getElem?_eq_some_iff.1 hj).1
  have hv : cs[j]? = some (cs[j]'(by omega)) := List.getElem?_eq_getElem (by omega)
  have h1 := hf j f hj
  rw [ho, hk] at h1
  have hone' : (cs.drop j).take 1 = [cs[j]'(by omega)] := by
    rw [List.drop_eq_getElem_cons (by omega)]
    rfl
  rw [hone'] at h1
  have hys : ys[j]? = some (ys[j]'(by omega)) := List.getElem?_eq_getElem (by omega)
  exact ⟨_, _, hv, hys, h1.trans hys⟩
end
def stL : List (List UInt8 × Bool × Bool × Int × Bool) := [([], false, false, 0, false), ([103, 97, 116, 104, 101, 114], true, true, 0, false), ([115, 99, 97, 116, 116, 101, 114], true, true, 0, false), ([122, 101, 114, 111], false, false, 0, false), ([116, 119, 105, 115, 116], false, false, 16384, true), ([102, 108, 121], false, true, 5, false), ([100, 105, 114, 101, 99, 116], true, true, 64, false), ([99, 104, 105, 114, 112], false, false, 16384, false), ([102, 105, 108, 108], false, false, 16384, false), ([116, 105, 109, 101, 115], true, false, 0, false), ([99, 111, 110, 106], false, false, 0, false), ([111, 118, 101, 114], false, false, 16384, false)]
def stD : List (DataW Unit) := stL.map fun e => .agg [.lit (.string e.1), .lit (.bool e.2.1), .lit (.bool e.2.2.1), .lit (.int .i64 e.2.2.2.1), .lit (.bool e.2.2.2.2)]
def stK (i : Fin 12) : Bool := match stL[i.1]? with
  | some e => e.2.1 == kSrc i.1 && e.2.2.1 == kJmp i.1 && e.2.2.2.1 == kN i.1 && e.2.2.2.2 == kK i.1
  | none => false
theorem stK_spec {i : Nat} (hi : i < 12) (h : stK ⟨i, hi⟩ = true) : ∃ t, stD[i]? = some (.agg [.lit (.string t), .lit (.bool (kSrc i)), .lit (.bool (kJmp i)), .lit (.int .i64 (kN i)), .lit (.bool (kK i))]) := by
  unfold stK at h
  split at h
  · rename_i e he
    simp only [Bool.and_eq_true, beq_iff_eq] at h
    obtain ⟨⟨⟨h1, h2⟩, h3⟩, h4⟩ := h
    exact ⟨e.1, by rw [stD, List.getElem?_map, he, ← h1, ← h2, ← h3, ← h4]; rfl⟩
  · cases h
theorem add_glob (g k : Nat) : (⟨g, 0, none⟩ : Addr).add k = ⟨g, k, none⟩ := by
  by_cases hk : k = 0
  · subst hk; rfl
  · simp [Addr.add, hk]
theorem st_of {W : World} (h : laidMet Tryz.prog laidL W) : StT W := by
  obtain ⟨ps, ⟨g0, t0, cs0, f0, p0, q0, hg0, ht0, hv0, hd0, _, e0⟩, _, _⟩ := h.at 10 rfl
  obtain rfl := Option.some.inj ((show Tryz.prog.globalNamed "timbre/steps.table" = some 8 by kernel_rfl).symm.trans hg0)
  obtain rfl := Option.some.inj ((show (Tryz.prog.globals[8]?).map (·.type) = some 222 by kernel_rfl).symm.trans ht0)
  obtain ⟨xs, m1, rfl, hx1, hlen, hn12, hel⟩ := DataW.trod_array Tryz.underlying222 hd0
  have hxs := congrArg Prod.fst hx1
  have ck : Tryz.prog.cellsOf 221 = 5 := by kernel_rfl
  have c9 : Tryz.prog.cellsOf 9 = 1 := by kernel_rfl
  have c4 : Tryz.prog.cellsOf 4 = 1 := by kernel_rfl
  have c3 : Tryz.prog.cellsOf 3 = 1 := by kernel_rfl
  have key : ∀ (i : Nat) (t : List UInt8) (a b : Bool) (n : Int) (k : Bool), (xs.map (·.1))[i]? = some (.agg [.lit (.string t), .lit (.bool a), .lit (.bool b), .lit (.int .i64 n), .lit (.bool k)]) →
      ∃ s : ByteArray, CaR (· < 12) W ((⟨8, 0, none⟩ : Addr).add (i * 5)) [.string s, .bool a, .bool b, .int .i64 n, .bool k] := by
    intro i t a b n k hi
    rw [List.getElem?_map, Option.map_eq_some_iff] at hi
    obtain ⟨x, hx, hxd⟩ := hi
    have hi12 : i < 12 := by have := (List.getElem?_eq_some_iff.1 hx).1; omega
    have h1 := hel i hi12
    rw [hx, ck] at h1
    obtain ⟨ys, n', hy, hcl, hf⟩ := struct_cells Tryz.underlying221 (by kernel_rfl) (by kernel_rfl) h1
    obtain ⟨v0, y0, g0, k0, f0⟩ := hf 0 _ rfl
    obtain ⟨v1, y1, g1, k1, f1⟩ := hf 1 _ rfl
    obtain ⟨v2, y2, g2, k2, f2⟩ := hf 2 _ rfl
    obtain ⟨v3, y3, g3, k3, f3⟩ := hf 3 _ rfl
    obtain ⟨v4, y4, g4, k4, f4⟩ := hf 4 _ rfl
    obtain ⟨s, e0', e0'', _⟩ := DataW.trod_string Tryz.underlying9 f0
    obtain ⟨b1, e1', e1''⟩ := DataW.trod_bool Tryz.underlying4 f1
    obtain ⟨b2, e2', e2''⟩ := DataW.trod_bool Tryz.underlying4 f2
    obtain ⟨z3, e3', e3'', _⟩ := DataW.trod_int Tryz.underlying3 f3
    obtain ⟨b4, e4', e4''⟩ := DataW.trod_bool Tryz.underlying4 f4
    rw [hy] at hxd
    simp only [DataW.agg.injEq] at hxd
    subst e0'' e1'' e2'' e3'' e4''
    have q1 := congrArg (fun l => l[1]?) hxd; have q2 := congrArg (fun l => l[2]?) hxd; have q3 := congrArg (fun l => l[3]?) hxd; have q4 := congrArg (fun l => l[4]?) hxd
    simp only [List.getElem?_map, k1, k2, k3, k4, Option.map_some, List.getElem?_cons_succ, List.getElem?_cons_zero, Option.some.injEq, DataW.lit.injEq, Lit.bool.injEq, Lit.int.injEq, true_and] at q1 q2 q3 q4
    subst q1 q2 q3 q4
    simp only [List.cons.injEq, and_true] at e0' e1' e2' e3' e4'
    subst e0' e1' e2' e3' e4'
    have cell : ∀ j v, j < 5 → ((cs0.toList.drop (i * 5)).take 5)[j]? = some v → W.cell? (((⟨8, 0, none⟩ : Addr).add (i * 5)).add j) = some v := by
      intro j v hj5 hj
      rw [List.getElem?_take, if_pos hj5, List.getElem?_drop, Array.getElem?_toList] at hj
      have := World.var?_cell hg0 hv0 (i * 5 + j)
      rw [hj] at this
      rw [← this, Go.Deep.add_add, add_glob]
    refine ⟨s, fun j v hj => ?_, by rw [add_block]; decide⟩
    match j, hj with
    | 0, hj => obtain rfl := Option.some.inj hj; exact cell 0 _ (by decide) g0
    | 1, hj => obtain rfl := Option.some.inj hj; exact cell 1 _ (by decide) g1
    | 2, hj => obtain rfl := Option.some.inj hj; exact cell 2 _ (by decide) g2
    | 3, hj => obtain rfl := Option.some.inj hj; exact cell 3 _ (by decide) g3
    | 4, hj => obtain rfl := Option.some.inj hj; exact cell 4 _ (by decide) g4
    | j + 5, hj => simp at hj
  have hD : xs.map (·.1) = stD := by
    simp only [DataW.agg.injEq, Rows.laid_timbre_steps_table] at hxs
    exact hxs.symm
  rw [hD] at key
  have all : ∀ i, ∃ s : ByteArray, i < 12 → CaR (· < 12) W ((⟨8, 0, none⟩ : Addr).add (i * 5)) [.string s, .bool (kSrc i), .bool (kJmp i), .int .i64 (kN i), .bool (kK i)] := by
    intro i
    by_cases hi : i < 12
    · have h2 := (by decide : ∀ i : Fin 12, stK i = true) ⟨i, hi⟩
      obtain ⟨t, ht⟩ := stK_spec hi h2
      obtain ⟨s, hs⟩ := key i _ _ _ _ _ ht
      exact ⟨s, fun _ => hs⟩
    · exact ⟨⟨#[]⟩, fun h => absurd h hi⟩
  obtain ⟨nm, hnm⟩ := Classical.axiomOfChoice all
  exact ⟨nm, hnm⟩



end Go.Tm
