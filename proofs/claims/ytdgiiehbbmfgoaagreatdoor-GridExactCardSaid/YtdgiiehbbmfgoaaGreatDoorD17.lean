/- Lemmas of this claim, joined by program. Walks of functions: the fixed fact of the law GridExact: Turn, Shift, Same, Check. Conditions: each lemma names its own. -/
import Derived.Test.YtdgiiehbbmfgoaaGreatDoorD16
set_option linter.all false
namespace Go.Tm
open Go.RowKit Go.Proofs
section
variable {P : Program} {n : Fr} {k : K} {w : World} {d : Option Tmp} {ty : TypeId} {pos : String} {aft : Array Edge} {g : Option (Nat × Bool)}
theorem Rn.fromf {f : FuncId} {fn : Func} {x : Operand} {ts : Array TypeId} {m : Nat} (hf : P.funcs[f]? = some fn) (hname : (fn.name == "runtime.NumGoroutine") = false) (hb : fn.body.isNone = true) (hn : Extern.findNext fn = none)
    (he : Extern.find fn = some Extern.MathFloatBits.float64bits) (hx : ev k x = some (.float .f64 m)) :
    Rn P n k w { dst := d, op := .call { callee := .value (.func f), args := #[x], argTypes := ts }, type := ty, pos := pos, after := aft, guard := g } (.int .u64 m) :=
  fun ac ha => by
    have h1 : ¬ fn.name = "runtime.NumGoroutine" := by simpa using hname
    have h2 : fn.body = none := by simpa using hb
    have h3 : ac.eval (.func f) = .func (.func f) #[] #[] := rfl
    have h4 : (Extern.MathFloatBits.float64bits #[.float .f64 m]).run P w = .ok (.int .u64 m) w := rfl
    simp [execOp, resolve, h3, Deferred.ofValue, invoke, callFunc, hf, h1, h2, hn, he, ha.eval hx, h4]
end
def bitG (a : Nat) : Nat := if (Ieee.double.order a a != some .eq) = true then 9221120237041090560 else a
def ga (i j : Nat) : Int := if i = 0 then (if j = 0 then 1 else if j = 1 then 2 else 0) else if i = 1 then (if j = 0 then 3 else if j = 1 then 4 else 0) else 0
def gb (_ _ : Nat) : Int := 0
abbrev L4g : List CB := [(4607182418800017408, 0), (4611686018427387904, 0), (4613937818241073152, 0), (4616189618054758400, 0)]
theorem gab : B36 ga gb := fun i j => by
  constructor
  · unfold ga; split
    · split; omega; split <;> omega
    · split
      · split; omega; split <;> omega
      · omega
  · unfold gb; omega
theorem g4 : GrU 2 2 ga gb L4g := ⟨rfl, fun i j hi hj => by
  match i, j, hi, hj with
  | 0, 0, _, _ => exact ⟨⟨false, by kernel_rfl, by decide⟩, ⟨false, by kernel_rfl, by decide⟩⟩
  | 0, 1, _, _ => exact ⟨⟨false, by kernel_rfl, by decide⟩, ⟨false, by kernel_rfl, by decide⟩⟩
  | 1, 0, _, _ => exact ⟨⟨false, by kernel_rfl, by decide⟩, ⟨false, by kernel_rfl, by decide⟩⟩
  | 1, 1, _, _ => exact ⟨⟨false, by kernel_rfl, by decide⟩, ⟨false, by kernel_rfl, by decide⟩⟩⟩
theorem fx0 : WhC (cx (4621819117588971520, 0)) (X2 2 2 ga gb 0 0) (Y2 2 2 ga gb 0 0) := ⟨⟨false, by kernel_rfl, by decide⟩, ⟨false, by kernel_rfl, by decide⟩⟩
theorem fx1 : WhC (cx (13835058055282163712, 0)) (X2 2 2 ga gb 0 1) (Y2 2 2 ga gb 0 1) := ⟨⟨true, by kernel_rfl, by decide⟩, ⟨false, by kernel_rfl, by decide⟩⟩
theorem fx2 : WhC (cx (13839561654909534208, 0)) (X2 2 2 ga gb 1 0) (Y2 2 2 ga gb 1 0) := ⟨⟨true, by kernel_rfl, by decide⟩, ⟨false, by kernel_rfl, by decide⟩⟩
theorem fx3 : WhC (cx (0, 0)) (X2 2 2 ga gb 1 1) (Y2 2 2 ga gb 1 1) := ⟨⟨false, by kernel_rfl, by decide⟩, ⟨false, by kernel_rfl, by decide⟩⟩
theorem fxs (i j : Nat) (hi : i < 2) (hj : j < 2) : Sm (X2 2 2 ga gb i j) ∧ Sm (Y2 2 2 ga gb i j) := by
  match i, j, hi, hj with
  | 0, 0, _, _ => unfold Sm; decide
  | 0, 1, _, _ => unfold Sm; decide
  | 1, 0, _, _ => unfold Sm; decide
  | 1, 1, _, _ => unfold Sm; decide
theorem ft1 : WhC (cx (4613937818241073152, 0)) (ga 1 0) (gb 1 0) := ⟨⟨false, by kernel_rfl, by decide⟩, ⟨false, by kernel_rfl, by decide⟩⟩
theorem fs1 : WhC (cx (4611686018427387904, 0)) (ga 0 1) (gb 0 1) := ⟨⟨false, by kernel_rfl, by decide⟩, ⟨false, by kernel_rfl, by decide⟩⟩
structure ShU (zs : List CB) (i j : Nat) (os : List CB) : Prop where
  len : os.length = 4
  get : ∀ i' j', i' < 2 → j' < 2 → (i' < i ∨ (i' = i ∧ j' < j)) → os.getD (i' * 2 + (j' + 1) % 2) (0, 0) = zs.getD (i' * 2 + j') (0, 0)
theorem ShU.zero (zs : List CB) : ShU zs 0 0 (List.replicate 4 (0, 0)) := ⟨rfl, fun i' j' _ _ h => by omega⟩
theorem ShU.step {zs os : List CB} {i j : Nat} (h : ShU zs i j os) (hi : i < 2) (hj : j < 2) : ShU zs i (j + 1) (os.set (i * 2 + (j + 1) % 2) (zs.getD (i * 2 + j) (0, 0))) := by
  have hl := h.len
  refine ⟨by rw [List.length_set]; exact hl, fun i' j' hi' hj' hh => ?_⟩
  by_cases c : i * 2 + (j + 1) % 2 = i' * 2 + (j' + 1) % 2
  · have e1 : i' = i := by omega
    have e2 : j' = j := by omega
    subst e1 e2
    simp only [List.getD, List.getElem?_set]
    simp [show i' * 2 + (j' + 1) % 2 < os.length by omega]
  · have := h.get i' j' hi' hj' (by omega)
    simp only [List.getD, List.getElem?_set] at this ⊢
    simpa [c] using this
theorem ShU.next {zs os : List CB} {i : Nat} (h : ShU zs i 2 os) : ShU zs (i + 1) 0 os := ⟨h.len, fun i' j' hi' hj' hh => h.get i' j' hi' hj' (by omega)⟩
set_option maxRecDepth 100000 in
theorem inf53w69 : Inf Tryz.prog 53 (.complex .f64 0 0) 1 16 := ⟨Tryz.t53, Tryz.type53, rfl, rfl, rfl⟩
theorem build52w69 {ps : List (Nat × Value)} {cs : Array Value} (h : Instr.fill (fun i => ([(0, 1), (1, 1), (2, 1)] : List (Nat × Nat))[i]?) #[.int .i64 0, .int .i64 0, .slice none 0 0] ps = some cs) (w : World) : (Instr.build 52 ps.toArray).run Tryz.prog w = .ok (.agg cs) w := by
  simp [Instr.build, Tryz.runUnderlying52, Tryz.zeroValue52, Tryz.sizeOf3, Tryz.sizeOf39, Value.cells, h]
theorem bld52_0_1_2w69 {v0 v1 v2 : Value} (h : [v0, v1, v2].all Value.oneCell' = true) (w : World) : (Instr.build 52 ([(0, v0), (1, v1), (2, v2)] : List (Nat × Value)).toArray).run Tryz.prog w = .ok (.agg #[v0, v1, v2]) w := by
  simp only [List.all_cons, Bool.and_eq_true, List.all_nil, and_true] at h
  have hv0 := oneCell_cells (v := v0) (by simp_all)
  have hv1 := oneCell_cells (v := v1) (by simp_all)
  have hv2 := oneCell_cells (v := v2) (by simp_all)
  have h1 := fill_set (fun i => ([(0, 1), (1, 1), (2, 1)] : List (Nat × Nat))[i]?) [(0, v0), (1, v1), (2, v2)] [.int .i64 0, .int .i64 0, .slice none 0 0] (by simp [okF, agg_cells, hv0, hv1, hv2, Nat.beq, Nat.ble])
  simp [setF, agg_cells, hv0, hv1, hv2] at h1
  simp [Instr.build, Tryz.runUnderlying52, Tryz.zeroValue52, Tryz.sizeOf3, Tryz.sizeOf39, agg_cells, h1]
set_option maxRecDepth 100000 in
theorem grid_CheckE (E : Addr) (w : World) (er : ErrL E w) :
  Calls Tryz.prog 55 #[.agg #[.int .i64 0, .int .i64 0, .slice none 0 0]] w (Ret (fun v w' => v = .iface 288 (.pointer (some E)) ∧ Ch No w w')) := by
 have hG := er.lt
 refine calls_of_VC (args := [.agg #[.int .i64 0, .int .i64 0, .slice none 0 0]]) Tryz.func55 rfl Tryz.ntmps55 rfl (VC.seq (VC.region (VO.wk (Wk.box rfl) rfl rfl rfl ?_)))
 rintro _ w1 ⟨p1, rfl, N1⟩
 have c1 := N1.ch
 have e1 := N1.p; have z1 := N1.size
 have b1 := Bk.new N1
 refine VO.mv (Rn.assign rfl) rfl rfl rfl (VO.nil (VQ.then_code (VC.seq (VC.seq (VC.region (VO.mv (Rn.field Tryz.underlying52 rfl Tryz.sizeOf3 rfl rfl rfl) rfl rfl rfl (VO.mv (Rn.load Tryz.isAgg3 rfl (b1.cell rfl)) rfl rfl rfl ?_)))))))
 refine VO.mv (Rn.lssT rfl rfl (by decide)) rfl rfl rfl (VO.mv (Rn.move rfl) rfl rfl rfl (VO.skip rfl rfl rfl (VO.skip rfl rfl rfl (VO.skip rfl rfl rfl (VO.mv (Rn.pick_true rfl rfl) rfl rfl rfl (VO.mv (Rn.move rfl) rfl rfl rfl (VO.skip rfl rfl rfl ?_)))))))
 refine VO.skip rfl rfl rfl (VO.skip rfl rfl rfl (VO.mv (Rn.pick_true rfl rfl) rfl rfl rfl (VO.mv (Rn.move rfl) rfl rfl rfl (VO.skip rfl rfl rfl (VO.skip rfl rfl rfl (VO.skip rfl rfl rfl (VO.mv (Rn.pick_true rfl rfl) rfl rfl rfl ?_)))))))
 refine VO.mv (Rn.move rfl) rfl rfl rfl (VO.skip rfl rfl rfl (VO.skip rfl rfl rfl (VO.skip rfl rfl rfl (VO.skip rfl rfl rfl (VO.skip rfl rfl rfl (VO.skip rfl rfl rfl (VO.skip rfl rfl rfl ?_)))))))
 refine VO.skip rfl rfl rfl (VO.skip rfl rfl rfl (VO.mv (Rn.pick_true rfl rfl) rfl rfl rfl (VO.nil (VQ.then_code (VC.cond_true rfl (VC.seq (VC.region ?_)))))))
 have er_1 := er.keep c1
 refine VO.mv (Rn.load Tryz.isAgg29 rfl er_1.get) rfl rfl rfl (VO.mv (Rn.assign rfl) rfl rfl rfl (VO.nil (VQ.then_code (VC.ret (VQ.then_ret (VQ.ret1 rfl rfl (Ret.mk ?_)))))))
 have CH_1 := (Ch.refl (No) w).and c1
 exact ⟨rfl, CH_1⟩
set_option maxRecDepth 100000 in
theorem grid_Turn (SX : Nat → Prop) (R C NN : Nat) (A : Option Addr) (cap : Nat) (zs : List CB) (f g : Nat → Nat → Int) (w : World) (sx : SlR SX w A NN 1 (zs.map cxV)) (hX : ∀ q, SX q → q < w.heap.size) (hR : 1 ≤ R ∧ R ≤ 4) (hC : 1 ≤ C ∧ C ≤ 4) (hN : NN = R * C) (hz : GrU R C f g zs)  :
  Calls Tryz.prog 53 #[.agg #[.int .i64 R, .int .i64 C, .slice A NN cap]] w (Ret (fun v w' => ∃ q os, v = .tuple #[.agg #[.int .i64 C, .int .i64 R, .slice (some ⟨q, 0, none⟩) NN NN], .nilIface] ∧ CR 53 w' (q + 1) (some ⟨q, 0, none⟩) NN NN os ∧ GrU C R (fun j i => f i j) (fun j i => g i j) os ∧ w.heap.size ≤ q ∧ Ch No w w')) := by
 refine calls_of_VC (args := [.agg #[.int .i64 R, .int .i64 C, .slice A NN cap]]) Tryz.func53 rfl Tryz.ntmps53 rfl (VC.seq (VC.region (VO.wk (Wk.box rfl) rfl rfl rfl ?_)))
 rintro _ w1 ⟨p1, rfl, N1⟩
 have c1 := N1.ch
 have e1 := N1.p; have z1 := N1.size
 have b1 := Bk.new N1
 refine VO.wk (Wk.alloc Tryz.zeroValue52) rfl rfl rfl ?_
 rintro _ w2 ⟨p2, rfl, N2⟩
 have c2 := N2.ch
 have e2 := N2.p; have z2 := N2.size
 have b2 := Bk.new N2
 refine VO.mv (Rn.assign rfl) rfl rfl rfl (VO.nil (VQ.then_code (VC.seq (VC.seq (VC.region ?_)))))
 have b1_2 := b1.keep c2
 refine VO.mv (Rn.loads Tryz.isAgg52 Tryz.sizeOf52 rfl rfl (b1_2.all' rfl)) rfl rfl rfl (VO.wk (Wk.call Tryz.call55 rfl (grid_Check _ _ _ _ _ _ hR hC hN)) rfl rfl rfl ?_)
 rintro _ w3 ⟨rfl, c3⟩
 have z3 := c3.size
 refine VO.mv (Rn.assign rfl) rfl rfl rfl (VO.nil (VQ.then_code (VC.seq (VC.region (VO.mv (Rn.move rfl) rfl rfl rfl (VO.mv (Rn.nil_neq_nil Tryz.underlying29 rfl) rfl rfl rfl (VO.nil ?_)))))))
 refine VQ.then_code (VC.cond_false rfl (VC.skip (VQ.then_code (VC.seq (VC.region ?_)))))
 have b1_3 := b1_2.keep c3
 refine VO.mv (Rn.loads Tryz.isAgg52 Tryz.sizeOf52 rfl rfl (b1_3.all' rfl)) rfl rfl rfl ?_
 have sx_3 := sx.keep (c1.trans (c2.trans c3))
 refine VO.wk (Wk.call Tryz.call74 rfl (grid_turned _ R C NN _ _ _ f g _ sx_3 (fun q hq => by have := hX q hq; omega) hR hC hN hz)) rfl rfl rfl ?_
 rintro _ w4 ⟨q4, osT, rfl, tu4, huT, e4, c4⟩
 have yt4 := Ow.lt tu4
 have z4 := c4.size
 have b2_4 := b2.keep (c3.trans c4)
 refine VO.wk0 (Wk.puts Tryz.sizeOf52 rfl rfl rfl rfl b2_4 (Nat.le_of_ble_eq_true rfl)) rfl rfl ?_
 intro _ w5 Z5
 have c5 := Z5.ch; have z5 := Z5.size
 have b2_5 := Bk.put Z5
 refine VO.mv (Rn.assign rfl) rfl rfl rfl (VO.nil (VQ.then_code (VC.ret (VQ.retct rfl rfl Tryz.isAgg52 Tryz.sizeOf52 rfl (b2_5.all' rfl) rfl (Ret.mk ?_)))))
 have tu_5 := tu4.to c5 (by first | exact fun _ _ _ _ => id | (intro q h1 h2 hx h3; omega))
 have cc_0_5 : Ch No w w5 := (Ch.then (E := No) (((c1.and c2).and c3).and c4) c5 (by intro q h1 h2; rcases h2 with h2 | h2 <;> first | exact h2 | (exfalso; omega)))
 have CH_5 := (Ch.refl (No) w).and cc_0_5
 exact ⟨_, _, rfl, tu_5, huT, by omega, CH_5⟩
set_option maxRecDepth 100000 in
theorem grid_modulo (x : Int) (n : Nat) (w : World) (hn : 1 ≤ n ∧ n ≤ 4) :
  Calls Tryz.prog 75 #[.int .i64 x, .int .i64 n] w (Ret (fun v w' => v = .int .i64 (x % n) ∧ w = w')) := by
 have h1 := Int.tmod_lt_of_pos x (show (0 : Int) < n by omega)
 have h2 : -(n : Int) < x.tmod n := by have := Int.tmod_lt_of_pos (-x) (show (0 : Int) < n by omega); rw [Int.neg_tmod] at this; omega
 refine calls_of_VC (args := [.int .i64 x, .int .i64 n]) Tryz.func75 rfl Tryz.ntmps75 rfl (VC.seq (VC.region (VO.mv (Rn.assign rfl) rfl rfl rfl (VO.nil (VQ.then_code (VC.seq (VC.region ?_)))))))
 refine VO.mv (Rn.move rfl) rfl rfl rfl (VO.mv (Rn.move rfl) rfl rfl rfl (VO.mv (Rn.rem rfl rfl (by omega)) rfl rfl rfl (VO.mv (Rn.move rfl) rfl rfl rfl ?_)))
 refine VO.mv (Rn.add rfl rfl (by rw [IntKind.wrap_i64]; omega)) rfl rfl rfl ?_
 refine VO.mv (Rn.move rfl) rfl rfl rfl (VO.mv (Rn.rem rfl rfl (by omega)) rfl rfl rfl (VO.mv (Rn.assign rfl) rfl rfl rfl (VO.nil (VQ.then_code (VC.ret (VQ.ret1 rfl rfl (Ret.mk ?_)))))))
 exact ⟨by rw [tmod_mod (by omega)], rfl⟩
set_option maxHeartbeats 2000000 in
set_option maxRecDepth 100000 in
theorem grid_Shift2 (SX : Nat → Prop) (A : Option Addr) (cap : Nat) (zs : List CB) (w : World) (sx : SlR SX w A 4 1 (zs.map cxV)) (hX : ∀ q, SX q → q < w.heap.size) :
  Calls Tryz.prog 54 #[.agg #[.int .i64 2, .int .i64 2, .slice A 4 cap], .int .i64 0, .int .i64 (-1)] w (Ret (fun v w' => ∃ q os, v = .tuple #[.agg #[.int .i64 2, .int .i64 2, .slice (some ⟨q, 0, none⟩) 4 4], .nilIface] ∧ CR 53 w' (q + 1) (some ⟨q, 0, none⟩) 4 4 os ∧ os.getD 0 (0, 0) = zs.getD 1 (0, 0) ∧ w.heap.size ≤ q ∧ Ch No w w')) := by
 refine calls_of_VC (args := [.agg #[.int .i64 2, .int .i64 2, .slice A 4 cap], .int .i64 0, .int .i64 (-1)]) Tryz.func54 rfl Tryz.ntmps54 rfl (VC.seq (VC.region (VO.wk (Wk.box rfl) rfl rfl rfl ?_)))
 rintro _ w1 ⟨p1, rfl, N1⟩
 have c1 := N1.ch
 have e1 := N1.p; have z1 := N1.size
 have b3 := Bk.new N1
 refine VO.wk (Wk.alloc Tryz.zeroValue52) rfl rfl rfl ?_
 rintro _ w2 ⟨p2, rfl, N2⟩
 have c2 := N2.ch
 have e2 := N2.p; have z2 := N2.size
 have b6 := Bk.new N2
 refine VO.mv (Rn.assign rfl) rfl rfl rfl (VO.nil (VQ.then_code (VC.seq (VC.seq (VC.region ?_)))))
 have b3_2 := b3.keep c2
 refine VO.mv (Rn.loads Tryz.isAgg52 Tryz.sizeOf52 rfl rfl (b3_2.all' rfl)) rfl rfl rfl (VO.wk (Wk.call Tryz.call55 rfl (grid_Check 2 2 4 _ _ _ (by decide) (by decide) rfl)) rfl rfl rfl ?_)
 rintro _ w3 ⟨rfl, c3⟩
 have z3 := c3.size
 refine VO.mv (Rn.assign rfl) rfl rfl rfl (VO.nil (VQ.then_code (VC.seq (VC.region (VO.mv (Rn.move rfl) rfl rfl rfl (VO.mv (Rn.nil_neq_nil Tryz.underlying29 rfl) rfl rfl rfl (VO.nil ?_)))))))
 refine VQ.then_code (VC.cond_false rfl (VC.skip (VQ.then_code (VC.seq (VC.drawsT 10 (.mv 0 (.mv 1 (.mv 2 (.mv 3 (.mv 4 (.mv 5 (.mv 6 (.two 7 (.mv 8 (.wk 9 .nil)) 9 (.wk 7 (.mv 8 .nil)))))))))) (fun w1 w' => Ch (No) w1 w') mixed (by kernel_rfl) (fun _ _ => Ch.refl _ _) ?_)))))
 intro w4 D4
 have c4 := Ch.of_drew D4; have z4 := c4.size
 have sx_4 := sx.keep (c1.trans (c2.trans (c3.trans c4)))
 have b3_4 := b3_2.keep (c3.trans c4)
 have b6_4 := b6.keep (c3.trans c4)
 refine VT.mv (fun w' hS => Rn.field Tryz.underlying52 rfl Tryz.sizeOf3 rfl rfl rfl) rfl rfl rfl rfl (VT.mv (fun w' hS => Rn.load Tryz.isAgg3 rfl ((b3_4.keep hS).cell rfl)) rfl rfl rfl rfl (VT.mv (fun w' hS => Rn.field Tryz.underlying52 rfl Tryz.sizeOf3 rfl rfl rfl) rfl rfl rfl rfl (VT.mv (fun w' hS => Rn.load Tryz.isAgg3 rfl ((b3_4.keep hS).cell rfl)) rfl rfl rfl rfl (VT.mv (fun w' hS => Rn.field Tryz.underlying52 rfl Tryz.sizeOf39 rfl rfl rfl) rfl rfl rfl rfl (VT.mv (fun w' hS => Rn.load Tryz.isAgg39 rfl ((b3_4.keep hS).cell rfl)) rfl rfl rfl rfl (VT.mv (fun w' hS => Rn.len Tryz.underlying39 rfl) rfl rfl rfl rfl (VT.two ?_ ?_)))))))
 ·
  refine VT.wk (Wk.mkC Tryz.underlying39 inf53w69 rfl rfl (by omega) (by omega) (by omega)) rfl rfl rfl rfl ?_
  rintro _ w5 ⟨p5, rfl, o5, c5, e5, z5⟩
  have RD_5 := (Ch.refl (No) w4).and c5
  refine ⟨RD_5, ?_⟩
  refine VT.mv (fun w' hS => Rn.build rfl (bld52_0_1_2w69 rfl)) rfl rfl rfl rfl (VT.wk (Wk.alloc Tryz.zeroValue52) rfl rfl rfl rfl ?_)
  rintro _ w6 ⟨p6, rfl, N6⟩
  have c6 := N6.ch
  have e6 := N6.p; have z6 := N6.size
  have b9 := Bk.new N6
  have RD_6 := RD_5.and c6
  refine ⟨RD_6, ?_⟩
  refine VT.done (VO.wk0 (Wk.puts Tryz.sizeOf52 rfl rfl rfl rfl b9 (Nat.le_of_ble_eq_true rfl)) rfl rfl ?_)
  intro _ w7 Z7
  have c7 := Z7.ch; have z7 := Z7.size
  have b9_7 := Bk.put Z7
  refine VO.nil (VQ.noPanic (VQ.then_code (VC.seq (VC.draws 9 [(0, true), (1, true), (2, true), (4, true), (5, true), (6, true), (3, false), (7, false), (8, true)] (fun w1 w' => Ch (No) w1 w') mixed (by kernel_rfl) (fun _ _ => Ch.refl _ _) ?_))))
  intro w8 D8
  have c8 := Ch.of_drew D8; have z8 := c8.size
  have cc_4_8 : Ch No w4 w8 := ((Ch.then (E := No) (c5.and c6) c7 (by intro q h1 h2; rcases h2 with h2 | h2 <;> first | exact h2 | (exfalso; omega))).and c8)
  have sx_8 := sx_4.keep cc_4_8
  have b3_8 := b3_4.keep cc_4_8
  have b6_8 := b6_4.keep cc_4_8
  have cc_5_8 : Ch No w5 w8 := ((Ch.then (E := No) c6 c7 (by intro q h1 h2; rcases h2 with h2 | h2 <;> first | exact h2 | (exfalso; omega))).and c8)
  have ou_8 := o5.keep cc_5_8
  have b9_8 := b9_7.keep c8
  refine VH.mv (fun w' hS => Rn.move rfl) rfl rfl rfl rfl (VH.mv (fun w' hS => Rn.field Tryz.underlying52 rfl Tryz.sizeOf3 rfl rfl rfl) rfl rfl rfl rfl (VH.mv (fun w' hS => Rn.load Tryz.isAgg3 rfl ((b3_8.keep hS).cell rfl)) rfl rfl rfl rfl (VH.mv (fun w' hS => Rn.move rfl) rfl rfl rfl rfl (VH.mv (fun w' hS => Rn.field Tryz.underlying52 rfl Tryz.sizeOf3 rfl rfl rfl) rfl rfl rfl rfl (VH.mv (fun w' hS => Rn.load Tryz.isAgg3 rfl ((b3_8.keep hS).cell rfl)) rfl rfl rfl rfl (VH.wk (Wk.call Tryz.call75 rfl (grid_modulo 0 2 _ (by decide))) rfl rfl rfl rfl ?_))))))
  rintro _ _ ⟨rfl, rfl⟩
  refine ⟨(Ch.refl (No) w8), ?_⟩
  refine VH.wk (Wk.call Tryz.call75 rfl (grid_modulo (-1) 2 _ (by decide))) rfl rfl rfl rfl ?_
  rintro _ _ ⟨rfl, rfl⟩
  refine ⟨(Ch.refl (No) w8), ?_⟩
  refine VH.mv (fun w' hS => Rn.assign rfl) rfl rfl rfl rfl (VH.done (VO.mv (Rn.assign rfl) rfl rfl rfl (VO.nil (VQ.noPanic (VQ.then_code (VC.seq (VC.seq ?_)))))))
  refine VC.region (VO.mv (Rn.field Tryz.underlying52 rfl Tryz.sizeOf3 rfl rfl rfl) rfl rfl rfl (VO.mv (Rn.load Tryz.isAgg3 rfl (b3_8.cell rfl)) rfl rfl rfl (VO.mv (Rn.move rfl) rfl rfl rfl (VO.nil (VQ.then_code (VC.block ?_))))))
  have cc_0_8 : Ch No w w8 := ((Ch.then (E := No) (((((c1.and c2).and c3).and c4).and c5).and c6) c7 (by intro q h1 h2; rcases h2 with h2 | h2 <;> first | exact h2 | (exfalso; omega))).and c8)
  have CH_8 := (Ch.refl (No) w).and cc_0_8
  refine VC.loopS (σ := Nat × List CB) (fun (i, os) => [(3, .pointer (some ⟨p1, 0, none⟩)), (6, .pointer (some ⟨p2, 0, none⟩)), (9, .pointer (some ⟨p6, 0, none⟩)), (10, .int .i64 0), (11, .int .i64 1), (38, .int .i64 2), (39, .int .i64 i)]) (fun (i, os) w' => i ≤ 2 ∧ ShU zs i 0 os ∧ w8.heap.size ≤ w'.heap.size ∧ SlR SX w' A 4 1 (zs.map cxV) ∧ Bk w' p1 #[.int .i64 2, .int .i64 2, .slice A 4 cap] 52 ∧ Bk w' p2 #[.int .i64 0, .int .i64 0, .slice none 0 0] 52 ∧ Bk w' p6 #[.int .i64 2, .int .i64 2, .slice (some ⟨p5, 0, none⟩) 4 4] 52 ∧ CR 53 w' (p5 + 1) (some ⟨p5, 0, none⟩) 4 4 os ∧ Ch (No) w w') (fun (i, os) => 2 - i) (0, List.replicate 4 (0, 0)) ?_ ⟨rfl, rfl, rfl, rfl, rfl, rfl, rfl, trivial⟩ ?_
  · exact ⟨(by omega), (ShU.zero _), (Nat.le_refl _), sx_8, b3_8, b6_8, b9_8, ou_8, CH_8⟩
  rintro ⟨i, os⟩ w9 ⟨hile, hs, hsz9, sx_9, b3_9, b6_9, b9_9, ou_9, CH_9⟩
  show VC _ _ _ _ [(3, .pointer (some ⟨p1, 0, none⟩)), (6, .pointer (some ⟨p2, 0, none⟩)), (9, .pointer (some ⟨p6, 0, none⟩)), (10, .int .i64 0), (11, .int .i64 1), (38, .int .i64 2), (39, .int .i64 i)] _
  refine VC.seq (VC.region (VO.mv (Rn.lss rfl rfl) rfl rfl rfl (VO.nil (VQ.then_code (VC.seq (VC.cond_if rfl (fun hc1 => ?_) (fun hc1 => ?_)))))))
  ·
   refine VC.skip (VQ.then_code (VC.seq (VC.block (VC.seq (VC.region (VO.mv (Rn.move rfl) rfl rfl rfl (VO.mv (Rn.assign rfl) rfl rfl rfl ?_)))))))
   refine VO.nil (VQ.then_code (VC.seq (VC.region (VO.mv (Rn.field Tryz.underlying52 rfl Tryz.sizeOf3 rfl rfl rfl) rfl rfl rfl (VO.mv (Rn.load Tryz.isAgg3 rfl (b3_9.cell rfl)) rfl rfl rfl (VO.mv (Rn.move rfl) rfl rfl rfl (VO.nil ?_)))))))
   refine VQ.then_code (VC.block (VC.loopS (σ := Nat × List CB) (fun (j, os2) => [(3, .pointer (some ⟨p1, 0, none⟩)), (6, .pointer (some ⟨p2, 0, none⟩)), (9, .pointer (some ⟨p6, 0, none⟩)), (10, .int .i64 0), (11, .int .i64 1), (12, .int .i64 i), (38, .int .i64 2), (39, .int .i64 i), (43, .int .i64 2), (44, .int .i64 j)]) (fun (j, os2) w' => j ≤ 2 ∧ ShU zs i j os2 ∧ w9.heap.size ≤ w'.heap.size ∧ SlR SX w' A 4 1 (zs.map cxV) ∧ Bk w' p1 #[.int .i64 2, .int .i64 2, .slice A 4 cap] 52 ∧ Bk w' p2 #[.int .i64 0, .int .i64 0, .slice none 0 0] 52 ∧ Bk w' p6 #[.int .i64 2, .int .i64 2, .slice (some ⟨p5, 0, none⟩) 4 4] 52 ∧ CR 53 w' (p5 + 1) (some ⟨p5, 0, none⟩) 4 4 os2 ∧ Ch (No) w w') (fun (j, os2) => 2 - j) (0, os) ?_ ⟨rfl, rfl, rfl, rfl, rfl, rfl, rfl, rfl, rfl, rfl, trivial⟩ ?_))
   · exact ⟨(by omega), hs, (Nat.le_refl _), sx_9, b3_9, b6_9, b9_9, ou_9, CH_9⟩
   rintro ⟨j, os2⟩ w10 ⟨hjle, hs2, hsz10, sx_10, b3_10, b6_10, b9_10, ou_10, CH_10⟩
   show VC _ _ _ _ [(3, .pointer (some ⟨p1, 0, none⟩)), (6, .pointer (some ⟨p2, 0, none⟩)), (9, .pointer (some ⟨p6, 0, none⟩)), (10, .int .i64 0), (11, .int .i64 1), (12, .int .i64 i), (38, .int .i64 2), (39, .int .i64 i), (43, .int .i64 2), (44, .int .i64 j)] _
   refine VC.seq (VC.region (VO.mv (Rn.lss rfl rfl) rfl rfl rfl (VO.nil (VQ.then_code (VC.seq (VC.cond_if rfl (fun hc2 => ?_) (fun hc2 => ?_)))))))
   ·
    refine VC.skip (VQ.then_code (VC.seq (VC.block (VC.seq (VC.region (VO.mv (Rn.move rfl) rfl rfl rfl (VO.mv (Rn.assign rfl) rfl rfl rfl ?_)))))))
    refine VO.nil (VQ.then_code ?_)
    have t1 : (((i : Int) + 0) % 2 * 2 + ((j : Int) + 1) % 2).toNat = i * 2 + (j + 1) % 2 := by omega
    have t2 : ((i : Int) * 2 + (j : Int)).toNat = i * 2 + j := by omega
    refine VC.draws 29 [(0, true), (1, true), (2, true), (3, true), (4, true), (5, true), (6, true), (7, true), (8, true), (9, true), (10, true), (11, true), (12, true), (13, true), (14, true), (15, true), (16, true), (17, true), (18, true), (19, true), (20, true), (21, true), (22, true), (23, true), (24, true), (25, true), (26, true), (27, true), (28, true)] (fun w1 w' => Ch (No) w1 w') mixed (by kernel_rfl) (fun _ _ => Ch.refl _ _) ?_
    intro w11 D11
    have c11 := Ch.of_drew D11; have z11 := c11.size
    have sx_11 := sx_10.keep c11
    have b3_11 := b3_10.keep c11
    have b6_11 := b6_10.keep c11
    have ou_11 := ou_10.keep c11
    have b9_11 := b9_10.keep c11
    refine VH.mv (fun w' hS => Rn.field Tryz.underlying52 rfl Tryz.sizeOf39 rfl rfl rfl) rfl rfl rfl rfl (VH.mv (fun w' hS => Rn.load Tryz.isAgg39 rfl ((b9_11.keep hS).cell rfl)) rfl rfl rfl rfl (VH.mv (fun w' hS => Rn.move rfl) rfl rfl rfl rfl (VH.mv (fun w' hS => Rn.move rfl) rfl rfl rfl rfl ?_)))
    refine VH.mv (fun w' hS => Rn.add rfl rfl (by rw [IntKind.wrap_i64]; omega)) rfl rfl rfl rfl ?_
    refine VH.mv (fun w' hS => Rn.field Tryz.underlying52 rfl Tryz.sizeOf3 rfl rfl rfl) rfl rfl rfl rfl (VH.mv (fun w' hS => Rn.load Tryz.isAgg3 rfl ((b3_11.keep hS).cell rfl)) rfl rfl rfl rfl (VH.mv (fun w' hS => Rn.rem0 rfl rfl (by omega) (by omega)) rfl rfl rfl rfl (VH.mv (fun w' hS => Rn.field Tryz.underlying52 rfl Tryz.sizeOf3 rfl rfl rfl) rfl rfl rfl rfl (VH.mv (fun w' hS => Rn.load Tryz.isAgg3 rfl ((b3_11.keep hS).cell rfl)) rfl rfl rfl rfl ?_))))
    refine VH.mv (fun w' hS => Rn.mul rfl rfl (by rw [IntKind.wrap_i64]; omega)) rfl rfl rfl rfl ?_
    refine VH.mv (fun w' hS => Rn.move rfl) rfl rfl rfl rfl (VH.mv (fun w' hS => Rn.move rfl) rfl rfl rfl rfl ?_)
    refine VH.mv (fun w' hS => Rn.add rfl rfl (by rw [IntKind.wrap_i64]; omega)) rfl rfl rfl rfl ?_
    refine VH.mv (fun w' hS => Rn.field Tryz.underlying52 rfl Tryz.sizeOf3 rfl rfl rfl) rfl rfl rfl rfl (VH.mv (fun w' hS => Rn.load Tryz.isAgg3 rfl ((b3_11.keep hS).cell rfl)) rfl rfl rfl rfl (VH.mv (fun w' hS => Rn.rem0 rfl rfl (by omega) (by omega)) rfl rfl rfl rfl ?_))
    refine VH.mv (fun w' hS => Rn.add rfl rfl (by rw [IntKind.wrap_i64]; omega)) rfl rfl rfl rfl ?_
    refine VH.mv (fun w' hS => Rn.field Tryz.underlying52 rfl Tryz.sizeOf39 rfl rfl rfl) rfl rfl rfl rfl (VH.mv (fun w' hS => Rn.load Tryz.isAgg39 rfl ((b3_11.keep hS).cell rfl)) rfl rfl rfl rfl (VH.mv (fun w' hS => Rn.move rfl) rfl rfl rfl rfl (VH.mv (fun w' hS => Rn.field Tryz.underlying52 rfl Tryz.sizeOf3 rfl rfl rfl) rfl rfl rfl rfl (VH.mv (fun w' hS => Rn.load Tryz.isAgg3 rfl ((b3_11.keep hS).cell rfl)) rfl rfl rfl rfl ?_))))
    refine VH.mv (fun w' hS => Rn.mul rfl rfl (by rw [IntKind.wrap_i64]; omega)) rfl rfl rfl rfl ?_
    refine VH.mv (fun w' hS => Rn.move rfl) rfl rfl rfl rfl ?_
    refine VH.mv (fun w' hS => Rn.add rfl rfl (by rw [IntKind.wrap_i64]; omega)) rfl rfl rfl rfl ?_
    refine VH.mv (fun w' hS => Rn.indexS Tryz.underlying39 Tryz.sizeOf53 rfl rfl ((sx_11.keep hS).ne (by omega)) (by omega) (by omega)) rfl rfl rfl rfl (VH.mv (fun w' hS => Rn.load Tryz.isAgg53 rfl ((sx_11.keep hS).getC (by omega) (by omega))) rfl rfl rfl rfl (VH.mv (fun w' hS => Rn.indexS Tryz.underlying39 Tryz.sizeOf53 rfl rfl (ou_11.sl.ne (by omega)) (by omega) (by omega)) rfl rfl rfl rfl (VH.done (VO.wk0 (Wk.putC Tryz.sizeOf53 rfl rfl (by omega) ou_11) rfl rfl ?_))))
    rintro _ w12 ⟨o12, c12, z12⟩
    have y12 := o12.lt
    refine VO.nil (VQ.noPanic (VQ.block_normal (VQ.then_code (VC.region ?_))))
    refine VO.mv (Rn.add rfl rfl (by rw [IntKind.wrap_i64]; omega)) rfl rfl rfl ?_
    refine VO.mv (Rn.move rfl) rfl rfl rfl (VO.nil ?_)
    refine VQ.round (j + 1, os2.set (i * 2 + (j + 1) % 2) (zs.getD (i * 2 + j) (0, 0))) (by first | omega | (dsimp only; omega)) ?_ ⟨rfl, rfl, rfl, rfl, rfl, rfl, rfl, rfl, rfl, rfl, trivial⟩
    have sx_12 := sx_11.to c12 (by first | exact fun _ _ _ _ => id | (intro q h1 h2 hx h3; have := hX q h2; omega))
    have b3_12 := b3_11.to c12 (by first | exact id | omega)
    have b6_12 := b6_11.to c12 (by first | exact id | omega)
    have b9_12 := b9_11.to c12 (by first | exact id | omega)
    have CH_11 := CH_10.and c11
    have CH_12 : Ch (No) w w12 := CH_11.then c12 (by intro q h1 h2; rcases h2 with h2 | h2 <;> first | exact h2 | (exfalso; omega) | omega)
    exact ⟨(by omega), (hs2.step (by omega) (by omega)), (by omega), sx_12, b3_12, b6_12, b9_12, (by have h9 := o12; rw [t1, t2] at h9; exact h9), CH_12⟩
   ·
    refine VC.exit (VQ.then_exit (VQ.then_exit (VQ.block_exit (VQ.block_normal (VQ.then_code (VC.region ?_))))))
    refine VO.mv (Rn.add rfl rfl (by rw [IntKind.wrap_i64]; omega)) rfl rfl rfl ?_
    refine VO.mv (Rn.move rfl) rfl rfl rfl (VO.nil ?_)
    refine VQ.round (i + 1, os2) (by first | omega | (dsimp only; omega)) ?_ ⟨rfl, rfl, rfl, rfl, rfl, rfl, rfl, trivial⟩
    exact ⟨(by omega), (by have h9 := hs2; rw [show j = 2 by omega] at h9; exact h9.next), (by omega), sx_10, b3_10, b6_10, b9_10, ou_10, CH_10⟩
  ·
   refine VC.exit (VQ.then_exit (VQ.then_exit (VQ.block_exit (VQ.then_code (VC.seq (VC.region (VO.mv (Rn.loads Tryz.isAgg52 Tryz.sizeOf52 rfl rfl (b9_9.all' rfl)) rfl rfl rfl ?_)))))))
   refine VO.wk0 (Wk.puts Tryz.sizeOf52 rfl rfl rfl rfl b6_9 (Nat.le_of_ble_eq_true rfl)) rfl rfl ?_
   intro _ w13 Z13
   have c13 := Z13.ch; have z13 := Z13.size
   have b6_13 := Bk.put Z13
   refine VO.mv (Rn.assign rfl) rfl rfl rfl (VO.nil (VQ.then_code (VC.ret (VQ.retct rfl rfl Tryz.isAgg52 Tryz.sizeOf52 rfl (b6_13.all' rfl) rfl (Ret.mk ?_)))))
   have ei : i = 2 := by omega
   rw [ei] at hs
   have ou_13 := ou_9.to c13 (by first | exact fun _ _ _ _ => id | (intro q h1 h2 hx h3; omega))
   have CH_13 : Ch (No) w w13 := CH_9.then c13 (by intro q h1 h2; rcases h2 with h2 | h2 <;> first | exact h2 | (exfalso; omega) | omega)
   exact ⟨_, os, rfl, ou_13, hs.get 0 1 (by decide) (by decide) (.inl (by decide)), by omega, CH_13⟩
 ·
  refine VT.wk (Wk.alloc Tryz.zeroValue52) rfl rfl rfl rfl ?_
  rintro _ w14 ⟨p14, rfl, N14⟩
  have c14 := N14.ch
  have e14 := N14.p; have z14 := N14.size
  have b9 := Bk.new N14
  have RD_14 := (Ch.refl (No) w4).and c14
  refine ⟨RD_14, ?_⟩
  refine VT.wk (Wk.mkC Tryz.underlying39 inf53w69 rfl rfl (by omega) (by omega) (by omega)) rfl rfl rfl rfl ?_
  rintro _ w15 ⟨p15, rfl, o15, c15, e15, z15⟩
  have RD_15 := RD_14.and c15
  refine ⟨RD_15, ?_⟩
  refine VT.mv (fun w' hS => Rn.build rfl (bld52_0_1_2w69 rfl)) rfl rfl rfl rfl (VT.done ?_)
  have b9_15 := b9.keep c15
  refine VO.wk0 (Wk.puts Tryz.sizeOf52 rfl rfl rfl rfl b9_15 (Nat.le_of_ble_eq_true rfl)) rfl rfl ?_
  intro _ w16 Z16
  have c16 := Z16.ch; have z16 := Z16.size
  have b9_16 := Bk.put Z16
  refine VO.nil (VQ.noPanic (VQ.then_code (VC.seq (VC.draws 9 [(0, true), (1, true), (2, true), (4, true), (5, true), (6, true), (3, false), (7, false), (8, true)] (fun w1 w' => Ch (No) w1 w') mixed (by kernel_rfl) (fun _ _ => Ch.refl _ _) ?_))))
  intro w17 D17
  have c17 := Ch.of_drew D17; have z17 := c17.size
  have cc_4_17 : Ch No w4 w17 := ((Ch.then (E := No) (c14.and c15) c16 (by intro q h1 h2; rcases h2 with h2 | h2 <;> first | exact h2 | (exfalso; omega))).and c17)
  have sx_17 := sx_4.keep cc_4_17
  have b3_17 := b3_4.keep cc_4_17
  have b6_17 := b6_4.keep cc_4_17
  have b9_17 := b9_16.keep c17
  have ou_16 := o15.to c16 (by first | exact fun _ _ _ _ => id | (intro q h1 h2 hx h3; omega))
  have ou_17 := ou_16.keep c17
  refine VH.mv (fun w' hS => Rn.move rfl) rfl rfl rfl rfl (VH.mv (fun w' hS => Rn.field Tryz.underlying52 rfl Tryz.sizeOf3 rfl rfl rfl) rfl rfl rfl rfl (VH.mv (fun w' hS => Rn.load Tryz.isAgg3 rfl ((b3_17.keep hS).cell rfl)) rfl rfl rfl rfl (VH.mv (fun w' hS => Rn.move rfl) rfl rfl rfl rfl (VH.mv (fun w' hS => Rn.field Tryz.underlying52 rfl Tryz.sizeOf3 rfl rfl rfl) rfl rfl rfl rfl (VH.mv (fun w' hS => Rn.load Tryz.isAgg3 rfl ((b3_17.keep hS).cell rfl)) rfl rfl rfl rfl (VH.wk (Wk.call Tryz.call75 rfl (grid_modulo 0 2 _ (by decide))) rfl rfl rfl rfl ?_))))))
  rintro _ _ ⟨rfl, rfl⟩
  refine ⟨(Ch.refl (No) w17), ?_⟩
  refine VH.wk (Wk.call Tryz.call75 rfl (grid_modulo (-1) 2 _ (by decide))) rfl rfl rfl rfl ?_
  rintro _ _ ⟨rfl, rfl⟩
  refine ⟨(Ch.refl (No) w17), ?_⟩
  refine VH.mv (fun w' hS => Rn.assign rfl) rfl rfl rfl rfl (VH.done (VO.mv (Rn.assign rfl) rfl rfl rfl (VO.nil (VQ.noPanic (VQ.then_code (VC.seq (VC.seq ?_)))))))
  refine VC.region (VO.mv (Rn.field Tryz.underlying52 rfl Tryz.sizeOf3 rfl rfl rfl) rfl rfl rfl (VO.mv (Rn.load Tryz.isAgg3 rfl (b3_17.cell rfl)) rfl rfl rfl (VO.mv (Rn.move rfl) rfl rfl rfl (VO.nil (VQ.then_code (VC.block ?_))))))
  have cc_0_17 : Ch No w w17 := ((Ch.then (E := No) (((((c1.and c2).and c3).and c4).and c14).and c15) c16 (by intro q h1 h2; rcases h2 with h2 | h2 <;> first | exact h2 | (exfalso; omega))).and c17)
  have CH_17 := (Ch.refl (No) w).and cc_0_17
  refine VC.loopS (σ := Nat × List CB) (fun (i, os) => [(3, .pointer (some ⟨p1, 0, none⟩)), (6, .pointer (some ⟨p2, 0, none⟩)), (9, .pointer (some ⟨p14, 0, none⟩)), (10, .int .i64 0), (11, .int .i64 1), (38, .int .i64 2), (39, .int .i64 i)]) (fun (i, os) w' => i ≤ 2 ∧ ShU zs i 0 os ∧ w17.heap.size ≤ w'.heap.size ∧ SlR SX w' A 4 1 (zs.map cxV) ∧ Bk w' p1 #[.int .i64 2, .int .i64 2, .slice A 4 cap] 52 ∧ Bk w' p2 #[.int .i64 0, .int .i64 0, .slice none 0 0] 52 ∧ Bk w' p14 #[.int .i64 2, .int .i64 2, .slice (some ⟨p15, 0, none⟩) 4 4] 52 ∧ CR 53 w' (p15 + 1) (some ⟨p15, 0, none⟩) 4 4 os ∧ Ch (No) w w') (fun (i, os) => 2 - i) (0, List.replicate 4 (0, 0)) ?_ ⟨rfl, rfl, rfl, rfl, rfl, rfl, rfl, trivial⟩ ?_
  · exact ⟨(by omega), (ShU.zero _), (Nat.le_refl _), sx_17, b3_17, b6_17, b9_17, ou_17, CH_17⟩
  rintro ⟨i, os⟩ w18 ⟨hile, hs, hsz18, sx_18, b3_18, b6_18, b9_18, ou_18, CH_18⟩
  show VC _ _ _ _ [(3, .pointer (some ⟨p1, 0, none⟩)), (6, .pointer (some ⟨p2, 0, none⟩)), (9, .pointer (some ⟨p14, 0, none⟩)), (10, .int .i64 0), (11, .int .i64 1), (38, .int .i64 2), (39, .int .i64 i)] _
  refine VC.seq (VC.region (VO.mv (Rn.lss rfl rfl) rfl rfl rfl (VO.nil (VQ.then_code (VC.seq (VC.cond_if rfl (fun hc3 => ?_) (fun hc3 => ?_)))))))
  ·
   refine VC.skip (VQ.then_code (VC.seq (VC.block (VC.seq (VC.region (VO.mv (Rn.move rfl) rfl rfl rfl (VO.mv (Rn.assign rfl) rfl rfl rfl ?_)))))))
   refine VO.nil (VQ.then_code (VC.seq (VC.region (VO.mv (Rn.field Tryz.underlying52 rfl Tryz.sizeOf3 rfl rfl rfl) rfl rfl rfl (VO.mv (Rn.load Tryz.isAgg3 rfl (b3_18.cell rfl)) rfl rfl rfl (VO.mv (Rn.move rfl) rfl rfl rfl (VO.nil ?_)))))))
   refine VQ.then_code (VC.block (VC.loopS (σ := Nat × List CB) (fun (j, os2) => [(3, .pointer (some ⟨p1, 0, none⟩)), (6, .pointer (some ⟨p2, 0, none⟩)), (9, .pointer (some ⟨p14, 0, none⟩)), (10, .int .i64 0), (11, .int .i64 1), (12, .int .i64 i), (38, .int .i64 2), (39, .int .i64 i), (43, .int .i64 2), (44, .int .i64 j)]) (fun (j, os2) w' => j ≤ 2 ∧ ShU zs i j os2 ∧ w18.heap.size ≤ w'.heap.size ∧ SlR SX w' A 4 1 (zs.map cxV) ∧ Bk w' p1 #[.int .i64 2, .int .i64 2, .slice A 4 cap] 52 ∧ Bk w' p2 #[.int .i64 0, .int .i64 0, .slice none 0 0] 52 ∧ Bk w' p14 #[.int .i64 2, .int .i64 2, .slice (some ⟨p15, 0, none⟩) 4 4] 52 ∧ CR 53 w' (p15 + 1) (some ⟨p15, 0, none⟩) 4 4 os2 ∧ Ch (No) w w') (fun (j, os2) => 2 - j) (0, os) ?_ ⟨rfl, rfl, rfl, rfl, rfl, rfl, rfl, rfl, rfl, rfl, trivial⟩ ?_))
   · exact ⟨(by omega), hs, (Nat.le_refl _), sx_18, b3_18, b6_18, b9_18, ou_18, CH_18⟩
   rintro ⟨j, os2⟩ w19 ⟨hjle, hs2, hsz19, sx_19, b3_19, b6_19, b9_19, ou_19, CH_19⟩
   show VC _ _ _ _ [(3, .pointer (some ⟨p1, 0, none⟩)), (6, .pointer (some ⟨p2, 0, none⟩)), (9, .pointer (some ⟨p14, 0, none⟩)), (10, .int .i64 0), (11, .int .i64 1), (12, .int .i64 i), (38, .int .i64 2), (39, .int .i64 i), (43, .int .i64 2), (44, .int .i64 j)] _
   refine VC.seq (VC.region (VO.mv (Rn.lss rfl rfl) rfl rfl rfl (VO.nil (VQ.then_code (VC.seq (VC.cond_if rfl (fun hc4 => ?_) (fun hc4 => ?_)))))))
   ·
    refine VC.skip (VQ.then_code (VC.seq (VC.block (VC.seq (VC.region (VO.mv (Rn.move rfl) rfl rfl rfl (VO.mv (Rn.assign rfl) rfl rfl rfl ?_)))))))
    refine VO.nil (VQ.then_code ?_)
    have t1 : (((i : Int) + 0) % 2 * 2 + ((j : Int) + 1) % 2).toNat = i * 2 + (j + 1) % 2 := by omega
    have t2 : ((i : Int) * 2 + (j : Int)).toNat = i * 2 + j := by omega
    refine VC.draws 29 [(0, true), (1, true), (2, true), (3, true), (4, true), (5, true), (6, true), (7, true), (8, true), (9, true), (10, true), (11, true), (12, true), (13, true), (14, true), (15, true), (16, true), (17, true), (18, true), (19, true), (20, true), (21, true), (22, true), (23, true), (24, true), (25, true), (26, true), (27, true), (28, true)] (fun w1 w' => Ch (No) w1 w') mixed (by kernel_rfl) (fun _ _ => Ch.refl _ _) ?_
    intro w20 D20
    have c20 := Ch.of_drew D20; have z20 := c20.size
    have sx_20 := sx_19.keep c20
    have b3_20 := b3_19.keep c20
    have b6_20 := b6_19.keep c20
    have b9_20 := b9_19.keep c20
    have ou_20 := ou_19.keep c20
    refine VH.mv (fun w' hS => Rn.field Tryz.underlying52 rfl Tryz.sizeOf39 rfl rfl rfl) rfl rfl rfl rfl (VH.mv (fun w' hS => Rn.load Tryz.isAgg39 rfl ((b9_20.keep hS).cell rfl)) rfl rfl rfl rfl (VH.mv (fun w' hS => Rn.move rfl) rfl rfl rfl rfl (VH.mv (fun w' hS => Rn.move rfl) rfl rfl rfl rfl ?_)))
    refine VH.mv (fun w' hS => Rn.add rfl rfl (by rw [IntKind.wrap_i64]; omega)) rfl rfl rfl rfl ?_
    refine VH.mv (fun w' hS => Rn.field Tryz.underlying52 rfl Tryz.sizeOf3 rfl rfl rfl) rfl rfl rfl rfl (VH.mv (fun w' hS => Rn.load Tryz.isAgg3 rfl ((b3_20.keep hS).cell rfl)) rfl rfl rfl rfl (VH.mv (fun w' hS => Rn.rem0 rfl rfl (by omega) (by omega)) rfl rfl rfl rfl (VH.mv (fun w' hS => Rn.field Tryz.underlying52 rfl Tryz.sizeOf3 rfl rfl rfl) rfl rfl rfl rfl (VH.mv (fun w' hS => Rn.load Tryz.isAgg3 rfl ((b3_20.keep hS).cell rfl)) rfl rfl rfl rfl ?_))))
    refine VH.mv (fun w' hS => Rn.mul rfl rfl (by rw [IntKind.wrap_i64]; omega)) rfl rfl rfl rfl ?_
    refine VH.mv (fun w' hS => Rn.move rfl) rfl rfl rfl rfl (VH.mv (fun w' hS => Rn.move rfl) rfl rfl rfl rfl ?_)
    refine VH.mv (fun w' hS => Rn.add rfl rfl (by rw [IntKind.wrap_i64]; omega)) rfl rfl rfl rfl ?_
    refine VH.mv (fun w' hS => Rn.field Tryz.underlying52 rfl Tryz.sizeOf3 rfl rfl rfl) rfl rfl rfl rfl (VH.mv (fun w' hS => Rn.load Tryz.isAgg3 rfl ((b3_20.keep hS).cell rfl)) rfl rfl rfl rfl (VH.mv (fun w' hS => Rn.rem0 rfl rfl (by omega) (by omega)) rfl rfl rfl rfl ?_))
    refine VH.mv (fun w' hS => Rn.add rfl rfl (by rw [IntKind.wrap_i64]; omega)) rfl rfl rfl rfl ?_
    refine VH.mv (fun w' hS => Rn.field Tryz.underlying52 rfl Tryz.sizeOf39 rfl rfl rfl) rfl rfl rfl rfl (VH.mv (fun w' hS => Rn.load Tryz.isAgg39 rfl ((b3_20.keep hS).cell rfl)) rfl rfl rfl rfl (VH.mv (fun w' hS => Rn.move rfl) rfl rfl rfl rfl (VH.mv (fun w' hS => Rn.field Tryz.underlying52 rfl Tryz.sizeOf3 rfl rfl rfl) rfl rfl rfl rfl (VH.mv (fun w' hS => Rn.load Tryz.isAgg3 rfl ((b3_20.keep hS).cell rfl)) rfl rfl rfl rfl ?_))))
    refine VH.mv (fun w' hS => Rn.mul rfl rfl (by rw [IntKind.wrap_i64]; omega)) rfl rfl rfl rfl ?_
    refine VH.mv (fun w' hS => Rn.move rfl) rfl rfl rfl rfl ?_
    refine VH.mv (fun w' hS => Rn.add rfl rfl (by rw [IntKind.wrap_i64]; omega)) rfl rfl rfl rfl ?_
    refine VH.mv (fun w' hS => Rn.indexS Tryz.underlying39 Tryz.sizeOf53 rfl rfl ((sx_20.keep hS).ne (by omega)) (by omega) (by omega)) rfl rfl rfl rfl (VH.mv (fun w' hS => Rn.load Tryz.isAgg53 rfl ((sx_20.keep hS).getC (by omega) (by omega))) rfl rfl rfl rfl (VH.mv (fun w' hS => Rn.indexS Tryz.underlying39 Tryz.sizeOf53 rfl rfl (ou_20.sl.ne (by omega)) (by omega) (by omega)) rfl rfl rfl rfl (VH.done (VO.wk0 (Wk.putC Tryz.sizeOf53 rfl rfl (by omega) ou_20) rfl rfl ?_))))
    rintro _ w21 ⟨o21, c21, z21⟩
    have y21 := o21.lt
    refine VO.nil (VQ.noPanic (VQ.block_normal (VQ.then_code (VC.region ?_))))
    refine VO.mv (Rn.add rfl rfl (by rw [IntKind.wrap_i64]; omega)) rfl rfl rfl ?_
    refine VO.mv (Rn.move rfl) rfl rfl rfl (VO.nil ?_)
    refine VQ.round (j + 1, os2.set (i * 2 + (j + 1) % 2) (zs.getD (i * 2 + j) (0, 0))) (by first | omega | (dsimp only; omega)) ?_ ⟨rfl, rfl, rfl, rfl, rfl, rfl, rfl, rfl, rfl, rfl, trivial⟩
    have sx_21 := sx_20.to c21 (by first | exact fun _ _ _ _ => id | (intro q h1 h2 hx h3; have := hX q h2; omega))
    have b3_21 := b3_20.to c21 (by first | exact id | omega)
    have b6_21 := b6_20.to c21 (by first | exact id | omega)
    have b9_21 := b9_20.to c21 (by first | exact id | omega)
    have CH_20 := CH_19.and c20
    have CH_21 : Ch (No) w w21 := CH_20.then c21 (by intro q h1 h2; rcases h2 with h2 | h2 <;> first | exact h2 | (exfalso; omega) | omega)
    exact ⟨(by omega), (hs2.step (by omega) (by omega)), (by omega), sx_21, b3_21, b6_21, b9_21, (by have h9 := o21; rw [t1, t2] at h9; exact h9), CH_21⟩
   ·
    refine VC.exit (VQ.then_exit (VQ.then_exit (VQ.block_exit (VQ.block_normal (VQ.then_code (VC.region ?_))))))
    refine VO.mv (Rn.add rfl rfl (by rw [IntKind.wrap_i64]; omega)) rfl rfl rfl ?_
    refine VO.mv (Rn.move rfl) rfl rfl rfl (VO.nil ?_)
    refine VQ.round (i + 1, os2) (by first | omega | (dsimp only; omega)) ?_ ⟨rfl, rfl, rfl, rfl, rfl, rfl, rfl, trivial⟩
    exact ⟨(by omega), (by have h9 := hs2; rw [show j = 2 by omega] at h9; exact h9.next), (by omega), sx_19, b3_19, b6_19, b9_19, ou_19, CH_19⟩
  ·
   refine VC.exit (VQ.then_exit (VQ.then_exit (VQ.block_exit (VQ.then_code (VC.seq (VC.region (VO.mv (Rn.loads Tryz.isAgg52 Tryz.sizeOf52 rfl rfl (b9_18.all' rfl)) rfl rfl rfl ?_)))))))
   refine VO.wk0 (Wk.puts Tryz.sizeOf52 rfl rfl rfl rfl b6_18 (Nat.le_of_ble_eq_true rfl)) rfl rfl ?_
   intro _ w22 Z22
   have c22 := Z22.ch; have z22 := Z22.size
   have b6_22 := Bk.put Z22
   refine VO.mv (Rn.assign rfl) rfl rfl rfl (VO.nil (VQ.then_code (VC.ret (VQ.retct rfl rfl Tryz.isAgg52 Tryz.sizeOf52 rfl (b6_22.all' rfl) rfl (Ret.mk ?_)))))
   have ei : i = 2 := by omega
   rw [ei] at hs
   have ou_22 := ou_18.to c22 (by first | exact fun _ _ _ _ => id | (intro q h1 h2 hx h3; omega))
   have CH_22 : Ch (No) w w22 := CH_18.then c22 (by intro q h1 h2; rcases h2 with h2 | h2 <;> first | exact h2 | (exfalso; omega) | omega)
   exact ⟨_, os, rfl, ou_22, hs.get 0 1 (by decide) (by decide) (.inl (by decide)), by omega, CH_22⟩
set_option maxRecDepth 100000 in
theorem bits_BitsG (a : Nat) (w : World) :
  Calls Tryz.prog 123 #[.float .f64 a] w (Ret (fun v w' => v = .int .u64 (bitG a : Nat) ∧ w = w')) := by
 refine calls_of_VC (args := [.float .f64 a]) Tryz.func123 rfl Tryz.ntmps123 rfl (VC.seq (VC.region (VO.mv (Rn.assign rfl) rfl rfl rfl (VO.nil (VQ.then_code (VC.seq (VC.seq ?_)))))))
 refine VC.region (VO.mv (Rn.move rfl) rfl rfl rfl (VO.mv (Rn.move rfl) rfl rfl rfl (VO.mv (Rn.fneq rfl rfl) rfl rfl rfl (VO.nil (VQ.then_code (VC.cond rfl (fun hc1 => ?_) (fun hc1 => ?_)))))))
 ·
  try simp only [Bool.and_eq_true, Bool.or_eq_true, Bool.not_eq_true', Bool.not_eq_false', Bool.and_eq_false_iff, Bool.or_eq_false_iff, decide_eq_true_eq, decide_eq_false_iff_not] at hc1
  refine VC.seq (VC.region (VO.mv (Rn.assign rfl) rfl rfl rfl (VO.nil (VQ.then_code (VC.ret (VQ.then_ret (VQ.ret1 rfl rfl ?_)))))))
  refine Ret.mk ?_
  exact ⟨by unfold bitG; rw [if_pos hc1]; rfl, rfl⟩
 ·
  try simp only [Bool.and_eq_true, Bool.or_eq_true, Bool.not_eq_true', Bool.not_eq_false', Bool.and_eq_false_iff, Bool.or_eq_false_iff, decide_eq_true_eq, decide_eq_false_iff_not] at hc1
  refine VC.skip (VQ.then_code (VC.seq (VC.region (VO.mv (Rn.move rfl) rfl rfl rfl (VO.mv (Rn.fromf Tryz.func73 (by kernel_rfl) rfl (by kernel_rfl) (by kernel_rfl) rfl) rfl rfl rfl (VO.mv (Rn.assign rfl) rfl rfl rfl (VO.nil ?_)))))))
  refine VQ.then_code (VC.ret (VQ.ret1 rfl rfl (Ret.mk ?_)))
  exact ⟨by unfold bitG; rw [if_neg (by rw [hc1]; decide)], rfl⟩
set_option maxRecDepth 100000 in
theorem bits_SameT (a : Nat) (w : World) :
  Calls Tryz.prog 112 #[.float .f64 a, .float .f64 a] w (Ret (fun v w' => v = .bool true ∧ w = w')) := by
 refine calls_of_VC (args := [.float .f64 a, .float .f64 a]) Tryz.func112 rfl Tryz.ntmps112 rfl (VC.seq (VC.region (VO.mv (Rn.assign rfl) rfl rfl rfl (VO.nil (VQ.then_code (VC.seq (VC.region ?_)))))))
 refine VO.mv (Rn.move rfl) rfl rfl rfl (VO.wk (Wk.call Tryz.call123 rfl (bits_BitsG _ _)) rfl rfl rfl ?_)
 rintro _ _ ⟨rfl, rfl⟩
 refine VO.mv (Rn.move rfl) rfl rfl rfl (VO.wk (Wk.call Tryz.call123 rfl (bits_BitsG _ _)) rfl rfl rfl ?_)
 rintro _ _ ⟨rfl, rfl⟩
 refine VO.mv (Rn.eqlT rfl rfl rfl) rfl rfl rfl (VO.mv (Rn.assign rfl) rfl rfl rfl (VO.nil (VQ.then_code (VC.ret (VQ.ret1 rfl rfl (Ret.mk ?_))))))
 exact ⟨rfl, rfl⟩
set_option maxRecDepth 100000 in
theorem cplx_SameT (a b : Nat) (w : World) :
  Calls Tryz.prog 96 #[.complex .f64 a b, .complex .f64 a b] w (Ret (fun v w' => v = .bool true ∧ w = w')) := by
 refine calls_of_VC (args := [.complex .f64 a b, .complex .f64 a b]) Tryz.func96 rfl Tryz.ntmps96 rfl (VC.seq (VC.region (VO.mv (Rn.assign rfl) rfl rfl rfl (VO.nil (VQ.then_code (VC.seq (VC.region ?_)))))))
 refine VO.mv (Rn.move rfl) rfl rfl rfl (VO.mv (Rn.real rfl) rfl rfl rfl (VO.mv (Rn.move rfl) rfl rfl rfl (VO.mv (Rn.real rfl) rfl rfl rfl (VO.wk (Wk.call Tryz.call112 rfl (bits_SameT _ _)) rfl rfl rfl ?_))))
 rintro _ _ ⟨rfl, rfl⟩
 refine VO.mv (Rn.move rfl) rfl rfl rfl (VO.mv (Rn.move rfl) rfl rfl rfl (VO.mv (Rn.imag rfl) rfl rfl rfl (VO.mv (Rn.move rfl) rfl rfl rfl (VO.mv (Rn.imag rfl) rfl rfl rfl (VO.wk (Wk.call Tryz.call112 rfl (bits_SameT _ _)) rfl rfl rfl ?_)))))
 rintro _ _ ⟨rfl, rfl⟩
 refine VO.mv (Rn.pick_true rfl rfl) rfl rfl rfl (VO.mv (Rn.assign rfl) rfl rfl rfl (VO.nil (VQ.then_code (VC.ret (VQ.ret1 rfl rfl (Ret.mk ?_))))))
 exact ⟨rfl, rfl⟩
set_option maxRecDepth 100000 in
theorem slices_EqualT (SX : Nat → Prop) (X : Option Addr) (n xc : Nat) (zs : List CB) (w : World) (sx : SlR SX w X n 1 (zs.map cxV)) (hn : n ≤ 1000000) :
  Calls Tryz.prog 95 #[.slice X n xc, .slice X n xc, .func (.func 96) #[] #[]] w (Ret (fun v w' => v = .bool true ∧ Ch No w w')) := by
 refine calls_of_VC (args := [.slice X n xc, .slice X n xc, .func (.func 96) #[] #[]]) Tryz.func95 rfl Tryz.ntmps95 rfl (VC.seq (VC.region (VO.mv (Rn.assign rfl) rfl rfl rfl (VO.nil (VQ.then_code (VC.seq (VC.seq ?_)))))))
 refine VC.region (VO.mv (Rn.move rfl) rfl rfl rfl (VO.mv (Rn.len Tryz.underlying39 rfl) rfl rfl rfl (VO.mv (Rn.move rfl) rfl rfl rfl (VO.mv (Rn.len Tryz.underlying39 rfl) rfl rfl rfl (VO.mv (Rn.neq rfl rfl) rfl rfl rfl (VO.nil (VQ.then_code ?_)))))))
 refine VC.cond_if rfl (fun hc1 => ?_) (fun hc1 => ?_)
 ·
  omega
 ·
  refine VC.skip (VQ.then_code (VC.seq (VC.seq (VC.region (VO.mv (Rn.move rfl) rfl rfl rfl (VO.mv (Rn.len Tryz.underlying39 rfl) rfl rfl rfl (VO.mv (Rn.move rfl) rfl rfl rfl ?_)))))))
  refine VO.nil (VQ.then_code (VC.block (VC.loopS (σ := Nat) (fun j => [(1, .slice X n xc), (2, .func (.func 96) #[] #[]), (15, .slice X n xc), (16, .int .i64 n), (17, .int .i64 j)]) (fun j w' => j ≤ n ∧ w.heap.size ≤ w'.heap.size ∧ SlR SX w' X n 1 (zs.map cxV) ∧ Ch (No) w w') (fun j => n - j) 0 ?_ ⟨rfl, rfl, rfl, rfl, rfl, trivial⟩ ?_)))
  · exact ⟨(by omega), (Nat.le_refl _), sx, (Ch.refl (No) w)⟩
  rintro j w1 ⟨hj, hsz1, sx_1, CH_1⟩
  show VC _ _ _ _ [(1, .slice X n xc), (2, .func (.func 96) #[] #[]), (15, .slice X n xc), (16, .int .i64 n), (17, .int .i64 j)] _
  refine VC.seq (VC.region (VO.mv (Rn.lss rfl rfl) rfl rfl rfl (VO.nil (VQ.then_code (VC.seq (VC.cond_if rfl (fun hc2 => ?_) (fun hc2 => ?_)))))))
  ·
   refine VC.skip (VQ.then_code (VC.seq (VC.block (VC.seq (VC.region (VO.mv (Rn.move rfl) rfl rfl rfl (VO.mv (Rn.indexS Tryz.underlying39 Tryz.sizeOf53 rfl rfl (sx_1.ne (by omega)) (by omega) (by omega)) rfl rfl rfl ?_)))))))
   refine VO.mv (Rn.load Tryz.isAgg53 rfl (sx_1.getC (by omega) (by omega))) rfl rfl rfl (VO.mv (Rn.assign rfl) rfl rfl rfl (VO.mv (Rn.assign rfl) rfl rfl rfl (VO.nil (VQ.then_code (VC.seq (VC.region (VO.mv (Rn.move rfl) rfl rfl rfl ?_)))))))
   refine VO.mv (Rn.move rfl) rfl rfl rfl (VO.mv (Rn.indexS Tryz.underlying39 Tryz.sizeOf53 rfl rfl (sx_1.ne (by omega)) (by omega) (by omega)) rfl rfl rfl (VO.mv (Rn.load Tryz.isAgg53 rfl (sx_1.getC (by omega) (by omega))) rfl rfl rfl (VO.mv (Rn.assign rfl) rfl rfl rfl (VO.nil (VQ.then_code (VC.seq (VC.region ?_)))))))
   refine VO.mv (Rn.move rfl) rfl rfl rfl (VO.mv (Rn.move rfl) rfl rfl rfl (VO.mv (Rn.move rfl) rfl rfl rfl (VO.wk (Wk.callv Tryz.call96 rfl rfl (by rfl) (cplx_SameT _ _ _)) rfl rfl rfl ?_)))
   rintro _ _ ⟨rfl, rfl⟩
   refine VO.mv (Rn.not rfl) rfl rfl rfl (VO.nil (VQ.then_code (VC.cond_false rfl (VC.skip (VQ.block_normal (VQ.then_code (VC.region ?_)))))))
   refine VO.mv (Rn.add rfl rfl (by rw [IntKind.wrap_i64]; omega)) rfl rfl rfl ?_
   refine VO.mv (Rn.move rfl) rfl rfl rfl (VO.nil ?_)
   refine VQ.round (j + 1) (by first | omega | (dsimp only; omega)) ?_ ⟨rfl, rfl, rfl, rfl, rfl, trivial⟩
   exact ⟨(by omega), (by omega), sx_1, CH_1⟩
  ·
   refine VC.exit (VQ.then_exit (VQ.then_exit (VQ.block_exit (VQ.then_code (VC.seq (VC.region (VO.mv (Rn.assign rfl) rfl rfl rfl ?_)))))))
   refine VO.nil (VQ.then_code (VC.ret (VQ.ret1 rfl rfl (Ret.mk ?_))))
   exact ⟨rfl, CH_1⟩
set_option maxRecDepth 100000 in
theorem cplx_SameListT (SX : Nat → Prop) (X : Option Addr) (n xc : Nat) (zs : List CB) (w : World) (sx : SlR SX w X n 1 (zs.map cxV)) (hn : n ≤ 1000000) :
  Calls Tryz.prog 76 #[.slice X n xc, .slice X n xc] w (Ret (fun v w' => v = .bool true ∧ Ch No w w')) := by
 refine calls_of_VC (args := [.slice X n xc, .slice X n xc]) Tryz.func76 rfl Tryz.ntmps76 rfl (VC.seq (VC.region (VO.mv (Rn.assign rfl) rfl rfl rfl (VO.nil (VQ.then_code (VC.seq (VC.region ?_)))))))
 refine VO.mv (Rn.move rfl) rfl rfl rfl (VO.mv (Rn.move rfl) rfl rfl rfl (VO.wk (Wk.call Tryz.call95 rfl (slices_EqualT _ _ _ _ _ _ sx hn)) rfl rfl rfl ?_))
 rintro _ w1 ⟨rfl, c1⟩
 have z1 := c1.size
 refine VO.mv (Rn.assign rfl) rfl rfl rfl (VO.nil (VQ.then_code (VC.ret (VQ.ret1 rfl rfl (Ret.mk ?_)))))
 have CH_1 := (Ch.refl (No) w).and c1
 exact ⟨rfl, CH_1⟩
set_option maxRecDepth 100000 in
theorem grid_SameT (SX : Nat → Prop) (R C : Int) (X : Option Addr) (n xc : Nat) (zs : List CB) (w : World) (sx : SlR SX w X n 1 (zs.map cxV)) (hn : n ≤ 1000000) :
  Calls Tryz.prog 56 #[.agg #[.int .i64 R, .int .i64 C, .slice X n xc], .agg #[.int .i64 R, .int .i64 C, .slice X n xc]] w (Ret (fun v w' => v = .bool true ∧ Ch No w w')) := by
 refine calls_of_VC (args := [.agg #[.int .i64 R, .int .i64 C, .slice X n xc], .agg #[.int .i64 R, .int .i64 C, .slice X n xc]]) Tryz.func56 rfl Tryz.ntmps56 rfl (VC.seq (VC.region (VO.wk (Wk.box rfl) rfl rfl rfl ?_)))
 rintro _ w1 ⟨p1, rfl, N1⟩
 have c1 := N1.ch
 have e1 := N1.p; have z1 := N1.size
 have b2 := Bk.new N1
 refine VO.wk (Wk.box rfl) rfl rfl rfl ?_
 rintro _ w2 ⟨p2, rfl, N2⟩
 have c2 := N2.ch
 have e2 := N2.p; have z2 := N2.size
 have b3 := Bk.new N2
 refine VO.mv (Rn.assign rfl) rfl rfl rfl (VO.nil (VQ.then_code (VC.seq (VC.region (VO.mv (Rn.field Tryz.underlying52 rfl Tryz.sizeOf3 rfl rfl rfl) rfl rfl rfl ?_)))))
 have b2_2 := b2.keep c2
 refine VO.mv (Rn.load Tryz.isAgg3 rfl (b2_2.cell rfl)) rfl rfl rfl (VO.mv (Rn.field Tryz.underlying52 rfl Tryz.sizeOf3 rfl rfl rfl) rfl rfl rfl (VO.mv (Rn.load Tryz.isAgg3 rfl (b3.cell rfl)) rfl rfl rfl (VO.mv (Rn.eqlT rfl rfl rfl) rfl rfl rfl (VO.mv (Rn.move rfl) rfl rfl rfl (VO.mv (Rn.field Tryz.underlying52 rfl Tryz.sizeOf3 rfl rfl rfl) rfl rfl rfl (VO.mv (Rn.load Tryz.isAgg3 rfl (b2_2.cell rfl)) rfl rfl rfl (VO.mv (Rn.field Tryz.underlying52 rfl Tryz.sizeOf3 rfl rfl rfl) rfl rfl rfl ?_)))))))
 refine VO.mv (Rn.load Tryz.isAgg3 rfl (b3.cell rfl)) rfl rfl rfl (VO.mv (Rn.eqlT rfl rfl rfl) rfl rfl rfl (VO.mv (Rn.pick_true rfl rfl) rfl rfl rfl (VO.mv (Rn.move rfl) rfl rfl rfl (VO.mv (Rn.field Tryz.underlying52 rfl Tryz.sizeOf39 rfl rfl rfl) rfl rfl rfl (VO.mv (Rn.load Tryz.isAgg39 rfl (b2_2.cell rfl)) rfl rfl rfl (VO.mv (Rn.field Tryz.underlying52 rfl Tryz.sizeOf39 rfl rfl rfl) rfl rfl rfl (VO.mv (Rn.load Tryz.isAgg39 rfl (b3.cell rfl)) rfl rfl rfl ?_)))))))
 have sx_2 := sx.keep (c1.trans c2)
 refine VO.wk (Wk.call Tryz.call76 rfl (cplx_SameListT _ _ _ _ _ _ sx_2 hn)) rfl rfl rfl ?_
 rintro _ w3 ⟨rfl, c3⟩
 have z3 := c3.size
 refine VO.mv (Rn.pick_true rfl rfl) rfl rfl rfl (VO.mv (Rn.assign rfl) rfl rfl rfl (VO.nil (VQ.then_code (VC.ret (VQ.ret1 rfl rfl (Ret.mk ?_))))))
 have CH_3 := (Ch.refl (No) w).and (c1.trans (c2.trans c3))
 exact ⟨rfl, CH_3⟩
set_option maxHeartbeats 4000000 in
set_option maxRecDepth 100000 in
theorem law24_fixed (E : Addr) (w : World) (er : ErrL E w) (st : StT w) (tab : TabB w.heap.size w) (hG : 12 ≤ w.heap.size) :
  Calls Tryz.prog 24 #[] w (Ret (fun v w' => v = .bool true ∧ Ch No w w')) := by
 refine calls_of_VC (args := []) Tryz.func24 rfl Tryz.ntmps24 rfl (VC.seq (VC.region (VO.mv (Rn.assign rfl) rfl rfl rfl (VO.nil (VQ.then_code (VC.seq (VC.region ?_)))))))
 refine VO.wk (Wk.lit Tryz.underlying39 inf53w69 (by decide) rfl rfl (by rfl) (by decide) (by decide) (by rfl)) rfl rfl rfl ?_
 rintro _ w1 ⟨p1, rfl, N1⟩
 have c1 := N1.ch
 have e1 := N1.p; have z1 := N1.size
 have l7 := SlR.of_new (sz := 1) (l := 4) N1 rfl
 have l7o := Ow.of_new (sz := 1) (l := 4) N1 rfl (by decide)
 refine VO.mv (Rn.build rfl (bld52_0_1_2w69 rfl)) rfl rfl rfl (VO.wk (Wk.alloc Tryz.zeroValue52) rfl rfl rfl ?_)
 rintro _ w2 ⟨p2, rfl, N2⟩
 have c2 := N2.ch
 have e2 := N2.p; have z2 := N2.size
 have bg := Bk.new N2
 refine VO.wk0 (Wk.puts Tryz.sizeOf52 rfl rfl rfl rfl bg (Nat.le_of_ble_eq_true rfl)) rfl rfl ?_
 intro _ w3 Z3
 have c3 := Z3.ch; have z3 := Z3.size
 have bg_3 := Bk.put Z3
 refine VO.nil (VQ.then_code (VC.seq (VC.region (VO.mv (Rn.loads Tryz.isAgg52 Tryz.sizeOf52 rfl rfl (bg_3.all' rfl)) rfl rfl rfl ?_))))
 have cc_1_3 : Ch No w1 w3 := (Ch.then (E := No) c2 c3 (by intro q h1 h2; rcases h2 with h2 | h2 <;> first | exact h2 | (exfalso; omega)))
 have l7_3 := l7.keep cc_1_3
 have cc_0_3 : Ch No w w3 := (Ch.then (E := No) (c1.and c2) c3 (by intro q h1 h2; rcases h2 with h2 | h2 <;> first | exact h2 | (exfalso; omega)))
 have st_3 := st.keep cc_0_3
 have tab_3 := tab.keep cc_0_3
 refine VO.wk (Wk.call Tryz.call25 rfl (grid_Forward _ 2 2 4 _ _ L4g ga gb _ l7_3 (fun q hq => by omega) ⟨by decide⟩ ⟨by decide⟩ rfl gab g4 st_3 ((tab_3).up (by omega)) (by omega))) rfl rfl rfl ?_
 rintro _ w4 ⟨r4, A4, k4, os_fw, rfl, fw4, hg_fw, yg4, c4⟩
 have yw4 := Ow.lt fw4
 have z4 := c4.size
 refine VO.mv (Rn.move rfl) rfl rfl rfl (VO.mv (Rn.extract rfl rfl) rfl rfl rfl (VO.mv (Rn.extract rfl rfl) rfl rfl rfl (VO.wk (Wk.alloc Tryz.zeroValue52) rfl rfl rfl ?_)))
 rintro _ w5 ⟨p5, rfl, N5⟩
 have c5 := N5.ch
 have e5 := N5.p; have z5 := N5.size
 have bf := Bk.new N5
 refine VO.wk0 (Wk.puts Tryz.sizeOf52 rfl rfl rfl rfl bf (Nat.le_of_ble_eq_true rfl)) rfl rfl ?_
 intro _ w6 Z6
 have c6 := Z6.ch; have z6 := Z6.size
 have bf_6 := Bk.put Z6
 refine VO.mv (Rn.assign rfl) rfl rfl rfl (VO.nil (VQ.then_code (VC.seq (VC.region ?_))))
 have cc_3_6 : Ch No w3 w6 := (Ch.then (E := No) (c4.and c5) c6 (by intro q h1 h2; rcases h2 with h2 | h2 <;> first | exact h2 | (exfalso; omega)))
 have bg_6 := bg_3.keep cc_3_6
 refine VO.mv (Rn.loads Tryz.isAgg52 Tryz.sizeOf52 rfl rfl (bg_6.all' rfl)) rfl rfl rfl ?_
 have l7_6 := l7_3.keep cc_3_6
 refine VO.wk (Wk.call Tryz.call53 rfl (grid_Turn _ 2 2 4 _ _ L4g ga gb _ l7_6 (fun q hq => by omega) (by decide) (by decide) rfl g4)) rfl rfl rfl ?_
 rintro _ w7 ⟨q7, osT, rfl, tu7, huT, e7, c7⟩
 have yt7 := Ow.lt tu7
 have z7 := c7.size
 refine VO.mv (Rn.move rfl) rfl rfl rfl (VO.mv (Rn.extract rfl rfl) rfl rfl rfl (VO.mv (Rn.extract rfl rfl) rfl rfl rfl (VO.wk (Wk.alloc Tryz.zeroValue52) rfl rfl rfl ?_)))
 rintro _ w8 ⟨p8, rfl, N8⟩
 have c8 := N8.ch
 have e8 := N8.p; have z8 := N8.size
 have bt := Bk.new N8
 refine VO.wk0 (Wk.puts Tryz.sizeOf52 rfl rfl rfl rfl bt (Nat.le_of_ble_eq_true rfl)) rfl rfl ?_
 intro _ w9 Z9
 have c9 := Z9.ch; have z9 := Z9.size
 have bt_9 := Bk.put Z9
 refine VO.mv (Rn.assign rfl) rfl rfl rfl (VO.nil (VQ.then_code (VC.seq (VC.seq (VC.region (VO.mv (Rn.move rfl) rfl rfl rfl (VO.mv (Rn.nil_neq_nil Tryz.underlying29 rfl) rfl rfl rfl ?_)))))))
 refine VO.mv (Rn.move rfl) rfl rfl rfl (VO.mv (Rn.move rfl) rfl rfl rfl (VO.mv (Rn.nil_neq_nil Tryz.underlying29 rfl) rfl rfl rfl (VO.mv (Rn.pick_false rfl rfl) rfl rfl rfl (VO.mv (Rn.move rfl) rfl rfl rfl (VO.mv (Rn.field Tryz.underlying52 rfl Tryz.sizeOf39 rfl rfl rfl) rfl rfl rfl ?_)))))
 have cc_6_9 : Ch No w6 w9 := (Ch.then (E := No) (c7.and c8) c9 (by intro q h1 h2; rcases h2 with h2 | h2 <;> first | exact h2 | (exfalso; omega)))
 have bf_9 := bf_6.keep cc_6_9
 refine VO.mv (Rn.load Tryz.isAgg39 rfl (bf_9.cell rfl)) rfl rfl rfl (VO.mv (Rn.len Tryz.underlying39 rfl) rfl rfl rfl (VO.mv (Rn.neqF rfl rfl rfl) rfl rfl rfl (VO.mv (Rn.pick_false rfl rfl) rfl rfl rfl (VO.mv (Rn.move rfl) rfl rfl rfl (VO.mv (Rn.field Tryz.underlying52 rfl Tryz.sizeOf39 rfl rfl rfl) rfl rfl rfl (VO.mv (Rn.load Tryz.isAgg39 rfl (bt_9.cell rfl)) rfl rfl rfl (VO.mv (Rn.len Tryz.underlying39 rfl) rfl rfl rfl ?_)))))))
 refine VO.mv (Rn.neqF rfl rfl rfl) rfl rfl rfl (VO.mv (Rn.pick_false rfl rfl) rfl rfl rfl (VO.nil (VQ.then_code (VC.cond_false rfl (VC.skip (VQ.then_code (VC.seq ?_)))))))
 refine VC.region ?_
 have bg_9 := bg_6.keep cc_6_9
 refine VO.mv (Rn.loads Tryz.isAgg52 Tryz.sizeOf52 rfl rfl (bg_9.all' rfl)) rfl rfl rfl ?_
 have l7_9 := l7_6.keep cc_6_9
 refine VO.wk (Wk.call Tryz.call54 rfl (grid_Shift2 _ _ _ L4g _ l7_9 (fun q hq => by omega))) rfl rfl rfl ?_
 rintro _ w10 ⟨q10, osS, rfl, sh10, hsh, e10, c10⟩
 have ys10 := Ow.lt sh10
 have z10 := c10.size
 refine VO.mv (Rn.move rfl) rfl rfl rfl (VO.mv (Rn.extract rfl rfl) rfl rfl rfl (VO.mv (Rn.extract rfl rfl) rfl rfl rfl (VO.wk (Wk.alloc Tryz.zeroValue52) rfl rfl rfl ?_)))
 rintro _ w11 ⟨p11, rfl, N11⟩
 have c11 := N11.ch
 have e11 := N11.p; have z11 := N11.size
 have bs := Bk.new N11
 refine VO.wk0 (Wk.puts Tryz.sizeOf52 rfl rfl rfl rfl bs (Nat.le_of_ble_eq_true rfl)) rfl rfl ?_
 intro _ w12 Z12
 have c12 := Z12.ch; have z12 := Z12.size
 have bs_12 := Bk.put Z12
 refine VO.mv (Rn.assign rfl) rfl rfl rfl (VO.nil (VQ.then_code (VC.seq (VC.draws 61 [(0, true), (1, true), (2, true), (3, true), (4, true), (5, true), (6, true), (7, true), (8, true), (9, true), (10, true), (11, true), (12, true), (13, true), (14, true), (15, true), (16, true), (17, true), (18, true), (19, true), (20, true), (21, true), (22, true), (23, true), (24, true), (25, true), (26, true), (27, true), (28, true), (29, true), (30, true), (31, true), (32, true), (33, true), (34, true), (35, true), (36, true), (37, true), (38, true), (39, true), (40, true), (41, true), (42, true), (43, true), (44, true), (45, true), (46, true), (47, true), (48, true), (49, true), (50, true), (51, true), (53, true), (52, false), (54, true), (55, true), (56, true), (57, true), (58, true), (59, false), (60, true)] (fun w1 w' => Ch (No) w1 w') mixed (by kernel_rfl) (fun _ _ => Ch.refl _ _) ?_))))
 intro w13 D13
 have c13 := Ch.of_drew D13; have z13 := c13.size
 have cc_0_13 : Ch No w w13 := ((Ch.then (E := No) (((Ch.then (E := No) (((Ch.then (E := No) (((Ch.then (E := No) (c1.and c2) c3 (by intro q h1 h2; rcases h2 with h2 | h2 <;> first | exact h2 | (exfalso; omega))).and c4).and c5) c6 (by intro q h1 h2; rcases h2 with h2 | h2 <;> first | exact h2 | (exfalso; omega))).and c7).and c8) c9 (by intro q h1 h2; rcases h2 with h2 | h2 <;> first | exact h2 | (exfalso; omega))).and c10).and c11) c12 (by intro q h1 h2; rcases h2 with h2 | h2 <;> first | exact h2 | (exfalso; omega))).and c13)
 have er_13 := er.keep cc_0_13
 have cc_1_13 : Ch No w1 w13 := ((Ch.then (E := No) (((Ch.then (E := No) (((Ch.then (E := No) (((Ch.then (E := No) c2 c3 (by intro q h1 h2; rcases h2 with h2 | h2 <;> first | exact h2 | (exfalso; omega))).and c4).and c5) c6 (by intro q h1 h2; rcases h2 with h2 | h2 <;> first | exact h2 | (exfalso; omega))).and c7).and c8) c9 (by intro q h1 h2; rcases h2 with h2 | h2 <;> first | exact h2 | (exfalso; omega))).and c10).and c11) c12 (by intro q h1 h2; rcases h2 with h2 | h2 <;> first | exact h2 | (exfalso; omega))).and c13)
 have l7o_13 := l7o.keep cc_1_13
 have cc_9_13 : Ch No w9 w13 := ((Ch.then (E := No) (c10.and c11) c12 (by intro q h1 h2; rcases h2 with h2 | h2 <;> first | exact h2 | (exfalso; omega))).and c13)
 have bg_13 := bg_9.keep cc_9_13
 have cc_4_13 : Ch No w4 w13 := ((Ch.then (E := No) (((Ch.then (E := No) (((Ch.then (E := No) c5 c6 (by intro q h1 h2; rcases h2 with h2 | h2 <;> first | exact h2 | (exfalso; omega))).and c7).and c8) c9 (by intro q h1 h2; rcases h2 with h2 | h2 <;> first | exact h2 | (exfalso; omega))).and c10).and c11) c12 (by intro q h1 h2; rcases h2 with h2 | h2 <;> first | exact h2 | (exfalso; omega))).and c13)
 have fw_13 := fw4.keep cc_4_13
 have bf_13 := bf_9.keep cc_9_13
 have cc_7_13 : Ch No w7 w13 := ((Ch.then (E := No) (((Ch.then (E := No) c8 c9 (by intro q h1 h2; rcases h2 with h2 | h2 <;> first | exact h2 | (exfalso; omega))).and c10).and c11) c12 (by intro q h1 h2; rcases h2 with h2 | h2 <;> first | exact h2 | (exfalso; omega))).and c13)
 have tu_13 := tu7.keep cc_7_13
 have bt_13 := bt_9.keep cc_9_13
 have cc_10_13 : Ch No w10 w13 := ((Ch.then (E := No) c11 c12 (by intro q h1 h2; rcases h2 with h2 | h2 <;> first | exact h2 | (exfalso; omega))).and c13)
 have sh_13 := sh10.keep cc_10_13
 have bs_13 := bs_12.keep c13
 refine VH.mv (fun w' hS => Rn.move rfl) rfl rfl rfl rfl (VH.mv (fun w' hS => Rn.nil_eql_nil Tryz.underlying29 rfl) rfl rfl rfl rfl (VH.mv (fun w' hS => Rn.move rfl) rfl rfl rfl rfl (VH.mv (fun w' hS => Rn.field Tryz.underlying52 rfl Tryz.sizeOf39 rfl rfl rfl) rfl rfl rfl rfl (VH.mv (fun w' hS => Rn.load Tryz.isAgg39 rfl ((bf_13.keep hS).cell rfl)) rfl rfl rfl rfl (VH.mv (fun w' hS => Rn.indexS Tryz.underlying39 Tryz.sizeOf53 rfl rfl (fw_13.sl.ne (by omega)) (by omega) (by omega)) rfl rfl rfl rfl (VH.mv (fun w' hS => Rn.load Tryz.isAgg53 rfl ((fw_13.keep hS).sl.getC (by omega) (by omega))) rfl rfl rfl rfl (VH.mv (fun w' hS => Rn.ceqlT rfl rfl (ceq_true (hg_fw.get 0 0 (by decide) (by decide)) fx0 (fxs 0 0 (by decide) (by decide)).1 (fxs 0 0 (by decide) (by decide)).2)) rfl rfl rfl rfl ?_)))))))
 refine VH.mv (fun w' hS => Rn.pick_true rfl rfl) rfl rfl rfl rfl (VH.mv (fun w' hS => Rn.move rfl) rfl rfl rfl rfl (VH.mv (fun w' hS => Rn.field Tryz.underlying52 rfl Tryz.sizeOf39 rfl rfl rfl) rfl rfl rfl rfl (VH.mv (fun w' hS => Rn.load Tryz.isAgg39 rfl ((bf_13.keep hS).cell rfl)) rfl rfl rfl rfl (VH.mv (fun w' hS => Rn.indexS Tryz.underlying39 Tryz.sizeOf53 rfl rfl (fw_13.sl.ne (by omega)) (by omega) (by omega)) rfl rfl rfl rfl (VH.mv (fun w' hS => Rn.load Tryz.isAgg53 rfl ((fw_13.keep hS).sl.getC (by omega) (by omega))) rfl rfl rfl rfl (VH.mv (fun w' hS => Rn.ceqlT rfl rfl (ceq_true (hg_fw.get 0 1 (by decide) (by decide)) fx1 (fxs 0 1 (by decide) (by decide)).1 (fxs 0 1 (by decide) (by decide)).2)) rfl rfl rfl rfl (VH.mv (fun w' hS => Rn.pick_true rfl rfl) rfl rfl rfl rfl ?_)))))))
 refine VH.mv (fun w' hS => Rn.move rfl) rfl rfl rfl rfl (VH.mv (fun w' hS => Rn.field Tryz.underlying52 rfl Tryz.sizeOf39 rfl rfl rfl) rfl rfl rfl rfl (VH.mv (fun w' hS => Rn.load Tryz.isAgg39 rfl ((bf_13.keep hS).cell rfl)) rfl rfl rfl rfl (VH.mv (fun w' hS => Rn.indexS Tryz.underlying39 Tryz.sizeOf53 rfl rfl (fw_13.sl.ne (by omega)) (by omega) (by omega)) rfl rfl rfl rfl (VH.mv (fun w' hS => Rn.load Tryz.isAgg53 rfl ((fw_13.keep hS).sl.getC (by omega) (by omega))) rfl rfl rfl rfl (VH.mv (fun w' hS => Rn.ceqlT rfl rfl (ceq_true (hg_fw.get 1 0 (by decide) (by decide)) fx2 (fxs 1 0 (by decide) (by decide)).1 (fxs 1 0 (by decide) (by decide)).2)) rfl rfl rfl rfl (VH.mv (fun w' hS => Rn.pick_true rfl rfl) rfl rfl rfl rfl (VH.mv (fun w' hS => Rn.move rfl) rfl rfl rfl rfl ?_)))))))
 refine VH.mv (fun w' hS => Rn.field Tryz.underlying52 rfl Tryz.sizeOf39 rfl rfl rfl) rfl rfl rfl rfl (VH.mv (fun w' hS => Rn.load Tryz.isAgg39 rfl ((bf_13.keep hS).cell rfl)) rfl rfl rfl rfl (VH.mv (fun w' hS => Rn.indexS Tryz.underlying39 Tryz.sizeOf53 rfl rfl (fw_13.sl.ne (by omega)) (by omega) (by omega)) rfl rfl rfl rfl (VH.mv (fun w' hS => Rn.load Tryz.isAgg53 rfl ((fw_13.keep hS).sl.getC (by omega) (by omega))) rfl rfl rfl rfl (VH.mv (fun w' hS => Rn.ceqlT rfl rfl (ceq_true (hg_fw.get 1 1 (by decide) (by decide)) fx3 (fxs 1 1 (by decide) (by decide)).1 (fxs 1 1 (by decide) (by decide)).2)) rfl rfl rfl rfl (VH.mv (fun w' hS => Rn.pick_true rfl rfl) rfl rfl rfl rfl (VH.mv (fun w' hS => Rn.move rfl) rfl rfl rfl rfl (VH.mv (fun w' hS => Rn.field Tryz.underlying52 rfl Tryz.sizeOf39 rfl rfl rfl) rfl rfl rfl rfl ?_)))))))
 refine VH.mv (fun w' hS => Rn.load Tryz.isAgg39 rfl ((bt_13.keep hS).cell rfl)) rfl rfl rfl rfl (VH.mv (fun w' hS => Rn.indexS Tryz.underlying39 Tryz.sizeOf53 rfl rfl (tu_13.sl.ne (by omega)) (by omega) (by omega)) rfl rfl rfl rfl (VH.mv (fun w' hS => Rn.load Tryz.isAgg53 rfl ((tu_13.keep hS).sl.getC (by omega) (by omega))) rfl rfl rfl rfl ?_))
 refine VH.mv (fun w' hS => Rn.ceqlT rfl rfl (ceq_true (huT.get 0 1 (by decide) (by decide)) ft1 (by unfold Sm; decide) (by unfold Sm; decide))) rfl rfl rfl rfl ?_
 refine VH.mv (fun w' hS => Rn.pick_true rfl rfl) rfl rfl rfl rfl (VH.mv (fun w' hS => Rn.move rfl) rfl rfl rfl rfl (VH.mv (fun w' hS => Rn.field Tryz.underlying52 rfl Tryz.sizeOf39 rfl rfl rfl) rfl rfl rfl rfl (VH.mv (fun w' hS => Rn.load Tryz.isAgg39 rfl ((bs_13.keep hS).cell rfl)) rfl rfl rfl rfl (VH.mv (fun w' hS => Rn.len Tryz.underlying39 rfl) rfl rfl rfl rfl (VH.mv (fun w' hS => Rn.eqlT rfl rfl rfl) rfl rfl rfl rfl (VH.mv (fun w' hS => Rn.pick_true rfl rfl) rfl rfl rfl rfl (VH.mv (fun w' hS => Rn.move rfl) rfl rfl rfl rfl ?_)))))))
 refine VH.mv (fun w' hS => Rn.field Tryz.underlying52 rfl Tryz.sizeOf39 rfl rfl rfl) rfl rfl rfl rfl (VH.mv (fun w' hS => Rn.load Tryz.isAgg39 rfl ((bs_13.keep hS).cell rfl)) rfl rfl rfl rfl (VH.mv (fun w' hS => Rn.indexS Tryz.underlying39 Tryz.sizeOf53 rfl rfl (sh_13.sl.ne (by omega)) (by omega) (by omega)) rfl rfl rfl rfl (VH.mv (fun w' hS => Rn.load Tryz.isAgg53 rfl ((sh_13.keep hS).sl.getC (by omega) (by omega))) rfl rfl rfl rfl ?_)))
 refine VH.mv (fun w' hS => Rn.ceqlT rfl rfl (ceq_true (show WhC (cx (osS.getD 0 (0, 0))) (ga 0 1) (gb 0 1) by rw [hsh]; exact fs1) fs1 (by unfold Sm; decide) (by unfold Sm; decide))) rfl rfl rfl rfl ?_
 refine VH.mv (fun w' hS => Rn.pick_true rfl rfl) rfl rfl rfl rfl (VH.mv (fun w' hS => Rn.move rfl) rfl rfl rfl rfl (VH.mv (fun w' hS => Rn.build rfl (build52w69 rfl)) rfl rfl rfl rfl (VH.mv (fun w' hS => Rn.load Tryz.isAgg29 rfl (er_13.keep hS).get) rfl rfl rfl rfl (VH.wk (Wk.call Tryz.call55 rfl (grid_CheckE E _ er_13)) rfl rfl rfl rfl ?_))))
 rintro _ w14 ⟨rfl, c14⟩
 have z14 := c14.size
 have RD_14 := (Ch.refl (No) w13).and c14
 refine ⟨RD_14, ?_⟩
 refine VH.mv (fun w' hS => Rn.errT rfl rfl) rfl rfl rfl rfl (VH.mv (fun w' hS => Rn.pick_true rfl rfl) rfl rfl rfl rfl (VH.mv (fun w' hS => Rn.move rfl) rfl rfl rfl rfl (VH.mv (fun w' hS => Rn.loads Tryz.isAgg52 Tryz.sizeOf52 rfl rfl ((bg_13.keep hS).all' rfl)) rfl rfl rfl rfl (VH.mv (fun w' hS => Rn.loads Tryz.isAgg52 Tryz.sizeOf52 rfl rfl ((bg_13.keep hS).all' rfl)) rfl rfl rfl rfl ?_))))
 have cc_9_14 : Ch No w9 w14 := (((Ch.then (E := No) (c10.and c11) c12 (by intro q h1 h2; rcases h2 with h2 | h2 <;> first | exact h2 | (exfalso; omega))).and c13).and c14)
 have l7_14 := l7_9.keep cc_9_14
 refine VH.wk (Wk.call Tryz.call56 rfl (grid_SameT _ _ _ _ 4 _ L4g _ l7_14 (by decide))) rfl rfl rfl rfl ?_
 rintro _ w15 ⟨rfl, c15⟩
 have z15 := c15.size
 have RD_15 := RD_14.and c15
 refine ⟨RD_15, ?_⟩
 refine VH.mv (fun w' hS => Rn.pick_true rfl rfl) rfl rfl rfl rfl (VH.done (VO.mv (Rn.assign rfl) rfl rfl rfl (VO.nil (VQ.noPanic (VQ.then_code (VC.ret (VQ.ret1 rfl rfl ?_)))))))
 refine Ret.mk ?_
 have cc_0_15 : Ch No w w15 := ((((Ch.then (E := No) (((Ch.then (E := No) (((Ch.then (E := No) (((Ch.then (E := No) (c1.and c2) c3 (by intro q h1 h2; rcases h2 with h2 | h2 <;> first | exact h2 | (exfalso; omega))).and c4).and c5) c6 (by intro q h1 h2; rcases h2 with h2 | h2 <;> first | exact h2 | (exfalso; omega))).and c7).and c8) c9 (by intro q h1 h2; rcases h2 with h2 | h2 <;> first | exact h2 | (exfalso; omega))).and c10).and c11) c12 (by intro q h1 h2; rcases h2 with h2 | h2 <;> first | exact h2 | (exfalso; omega))).and c13).and c14).and c15)
 have CH_15 := (Ch.refl (No) w).and cc_0_15
 exact ⟨rfl, CH_15⟩
end Go.Tm
