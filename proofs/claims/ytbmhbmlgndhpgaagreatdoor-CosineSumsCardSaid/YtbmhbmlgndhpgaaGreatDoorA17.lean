/- Lemmas of this claim, joined by program. Walks of functions: the sums, by the program and by the document; errors; lists alike. Walks of functions: the law CosineSums. What a row's laid variables give the walks, cosineSums. Conditions: each lemma names its own. -/
import Derived.Test.YtbmhbmlgndhpgaaGreatDoorA16
import Derived.LaidEql
import Derived.Test.YtbmhbmlgndhpgaaGreatDoorRows
import Derived.ProofKit
import Derived.LaidMore
import Derived.LaidSub
import Derived.OpenShut
import Derived.Stop.Joined
import Derived.Stop.LaidErr
import Derived.Lib.LaidTab
import Derived.Deep.Slices
import Derived.Deep.Fields
import Derived.Deep.OwnRows
import Derived.WideKeyArgs
import Derived.ChangeSlices
set_option linter.all false
namespace Go.Tm
open Go.RowKit Go.Proofs
abbrev errGs : List Nat := [0, 2, 3, 4, 5, 6, 7, 8, 9, 10, 11, 12, 13, 14, 15, 16, 17, 18, 19]
abbrev errV (E : Nat → Addr) (g : Nat) : Value := .iface 247 (.pointer (some (E g)))
structure ErrT (B : Nat) (E : Nat → Addr) (w : World) : Prop where
  get : ∀ g, g ∈ errGs → w.cell? ⟨g, 0, none⟩ = some (errV E g)
  blk : ∀ g, g ∈ errGs → (E g).block < B ∧ ∃ cs t, w.heap[(E g).block]? = some (.cells cs t (0, 0))
  gn : 24 ≤ B
  inj : ∀ g h, g ∈ errGs → h ∈ errGs → E g = E h → g = h
theorem ErrT.to {B : Nat} {E : Nat → Addr} {D : Nat → Prop} {w w' : World} (h : ErrT B E w) (c : Ch D w w') (hd : ∀ q, q < w.heap.size → q < B → isC w q → ¬ D q) : ErrT B E w' :=
  ⟨fun g hg => by
    have h0 := h.get g hg
    have hlt : g < 24 := (by decide : ∀ g ∈ errGs, g < 24) g hg
    exact c.cell (hd g (World.block_lt_of_cell? w _ h0) (Nat.lt_of_lt_of_le hlt h.gn) (cell_cells h0)) h0,
   fun g hg => by
    obtain ⟨h1, cs, t, h2⟩ := h.blk g hg
    exact ⟨h1, cs, t, c.old _ _ (hd _ (blk_lt h2) h1 ⟨_, _, _, h2⟩) h2⟩, h.gn, h.inj⟩
theorem ErrT.keep {B : Nat} {E : Nat → Addr} {w w' : World} (h : ErrT B E w) (c : Ch No w w') : ErrT B E w' := h.to c fun _ _ _ _ => id
abbrev errOrd : List Nat := [2, 3, 4, 5, 6, 7, 0, 8, 9, 10, 11, 12, 13, 14, 15, 16, 17, 18, 19]
theorem Rn.idxV {P : Program} {n : Fr} {k : K} {w : World} {d : Option Nat} {ty : TypeId} {pos : String} {aft : Array Edge} {g : Option (Nat × Bool)} {t e : TypeId} {len : Nat} {x y : Operand} {cs : Array Value} {q : IntKind} {i : Int} {v : Value} (ht : P.underlying t = some (.array len e)) (ha : ∀ w, (isAgg e).run P w = .ok false w) (hz : ∀ w, (sizeOf e).run P w = .ok 1 w)
    (hx : ev k x = some (.agg cs)) (hy : ev k y = some (.int q i)) (h0 : 0 ≤ i) (h1 : i < len) (hv : cs[i.toNat]? = some v) :
    Rn P n k w { dst := d, op := .index t x y, type := ty, pos := pos, after := aft, guard := g } v :=
  fun a hf => by simp [execOp, hf.eval hx, hf.eval hy, Instr.index, run_underlying ht, asIntOf, h0, h1, part, ha, hz, hv]
set_option maxRecDepth 100000 in
theorem Rn.err_eql {n : Fr} {k : K} {w : World} {d : Option Nat} {ty : TypeId} {pos : String} {aft : Array Edge} {gd : Option (Nat × Bool)} {t' : TypeId} {x y : Operand} {B : Nat} {E : Nat → Addr} {g h : Nat} (er : ErrT B E w) (hg : g ∈ errGs) (hh : h ∈ errGs) (hx : ev k x = some (errV E g)) (hy : ev k y = some (errV E h)) :
    Rn Tryz.prog n k w { dst := d, op := .binOp .eql 29 x y t', type := ty, pos := pos, after := aft, guard := gd } (.bool (decide (g = h))) := by
  refine Rn.bin hx hy (fun x y => ?_)
  obtain ⟨_, ca, ta, b1⟩ := er.blk g hg
  obtain ⟨_, cb, tb, b2⟩ := er.blk h hh
  by_cases e : g = h
  · subst e
    have := run_eql_iface_ptr_same (P := Tryz.prog) w (ti := 29) (tp := 247) (E g) Tryz.underlying29 Tryz.underlying247 Tryz.type247 (by kernel_rfl) Tryz.type264
    simp [eqGuard_at_iface, this]
  · have hne : E g ≠ E h := fun e2 => e (er.inj g h hg hh e2)
    have := run_eql_iface_ptr_other (P := Tryz.prog) w (ti := 29) (tp := 247) Tryz.underlying29 Tryz.underlying247 Tryz.type247 (by kernel_rfl) Tryz.type264 (by decide) hne b1 b2
    simp [eqGuard_at_iface, this, e]
theorem errOrd_mem : ∀ (i g : Nat), errOrd[i]? = some g → g ∈ errGs := by
  intro i g h
  have := List.mem_of_getElem? h
  revert this
  exact (by decide : ∀ g ∈ errOrd, g ∈ errGs) g
theorem sumK_at0 {n k j : Nat} {X : Nat → Fl} {a c : Nat} (hj : j = 0) (fp : cn a = fop .mul (X j) (cn c)) (fc : cn c = cosK n k j) : cn a = sumK n X k j := by subst hj; rw [fp, fc]; rfl
def SumsK (n : Nat) (X : Nat → Fl) (zs : List Nat) : Prop := ∀ i, i < n → cn (zs.getD i 0) = sumK n X i (n - 1)
theorem SumG.all {X : Nat → Fl} {n k : Nat} {zs : List Nat} (h : SumG X n k 0 zs) (e : k = n) : SumsK n X zs := fun i hi => h.done i (by omega)
theorem SumsK.same {X : Nat → Fl} {n : Nat} {zs ys : List Nat} (h : SumsK n X zs) (g : SumsK n X ys) : ∀ i, i < n → cn (zs.getD i 0) = cn (ys.getD i 0) := fun i hi => (h i hi).trans (g i hi).symm
structure SumR (X : Nat → Fl) (n k : Nat) (zs : List Nat) : Prop where
  len : zs.length = k
  done : ∀ i, i < k → cn (zs.getD i 0) = sumK n X i (n - 1)
theorem SumR.init (X : Nat → Fl) (n : Nat) : SumR X n 0 [] := ⟨rfl, fun _ h => absurd h (by omega)⟩
theorem SumR.add {X : Nat → Fl} {n k a : Nat} {zs : List Nat} (h : SumR X n k zs) (ha : cn a = sumK n X k (n - 1)) : SumR X n (k + 1) (zs ++ [a]) := by
  refine ⟨by simp [h.len], fun i hi => ?_⟩
  have hl := h.len
  by_cases c : i = k
  · subst c
    rw [List.getD, List.getElem?_append_right (by omega), hl, Nat.sub_self]; exact ha
  · rw [List.getD, List.getElem?_append_left (by omega)]; exact h.done i (by omega)
theorem SlR.preF {S : Nat → Prop} {w : World} {A : Option Addr} {l n : Nat} {xs ys : List Nat} (h : SlR S w A l 1 ((xs ++ ys).map flV)) (hx : xs.length = n) (hl : n ≤ l) : SlR S w A n 1 (xs.map flV) := by
  refine ⟨by simp [hx], fun h0 => h.ne (by omega), fun ad had j u hj => h.cells ad had j u ?_, h.ok⟩
  have hlt := (List.getElem?_eq_some_iff.1 hj).1
  rw [List.map_append, List.getElem?_append_left hlt]; exact hj
theorem Ow.nilx {e : TypeId} {w : World} {r l c sz : Nat} {A : Option Addr} {cs : List Value} (h : Ow w r e sz A l c cs) (hA : A = none) : c = 0 := by
  rcases h.2 with ⟨_, _, _, h⟩ | ⟨g, cur, h4, _⟩
  · first | assumption | omega
  · rw [hA] at h4; cases h4
theorem app_get0 {xs : List Nat} {n a b : Nat} (h : xs.length = n) : (xs ++ [a, b]).getD n 0 = a := by
  subst h; simp [List.getD]
theorem app_get1 {xs : List Nat} {n a b : Nat} (h : xs.length = n) : (xs ++ [a, b]).getD (n + 1) 0 = b := by
  subst h; simp [List.getD]
theorem app_get {xs : List Nat} {n a : Nat} (h : xs.length = n) : (xs ++ [a]).getD n 0 = a := by
  subst h; simp [List.getD]
set_option maxRecDepth 100000 in
theorem inf36w78 : Inf Tryz.prog 36 (.float .f64 0) 1 8 := ⟨Tryz.t36, Tryz.type36, rfl, rfl, rfl⟩
theorem bld44_0_1_2_3_4_5_6_7_8_9_10_11_12_13_14_15_16_17_18w78 {v0 v1 v2 v3 v4 v5 v6 v7 v8 v9 v10 v11 v12 v13 v14 v15 v16 v17 v18 : Value} (h : [v0, v1, v2, v3, v4, v5, v6, v7, v8, v9, v10, v11, v12, v13, v14, v15, v16, v17, v18].all Value.oneCell' = true) (w : World) : (Instr.build 44 ([(0, v0), (1, v1), (2, v2), (3, v3), (4, v4), (5, v5), (6, v6), (7, v7), (8, v8), (9, v9), (10, v10), (11, v11), (12, v12), (13, v13), (14, v14), (15, v15), (16, v16), (17, v17), (18, v18)] : List (Nat × Value)).toArray).run Tryz.prog w = .ok (.agg #[v0, v1, v2, v3, v4, v5, v6, v7, v8, v9, v10, v11, v12, v13, v14, v15, v16, v17, v18]) w := by
  simp only [List.all_cons, Bool.and_eq_true, List.all_nil, and_true] at h
  have hv0 := oneCell_cells (v := v0) (by simp_all)
  have hv1 := oneCell_cells (v := v1) (by simp_all)
  have hv2 := oneCell_cells (v := v2) (by simp_all)
  have hv3 := oneCell_cells (v := v3) (by simp_all)
  have hv4 := oneCell_cells (v := v4) (by simp_all)
  have hv5 := oneCell_cells (v := v5) (by simp_all)
  have hv6 := oneCell_cells (v := v6) (by simp_all)
  have hv7 := oneCell_cells (v := v7) (by simp_all)
  have hv8 := oneCell_cells (v := v8) (by simp_all)
  have hv9 := oneCell_cells (v := v9) (by simp_all)
  have hv10 := oneCell_cells (v := v10) (by simp_all)
  have hv11 := oneCell_cells (v := v11) (by simp_all)
  have hv12 := oneCell_cells (v := v12) (by simp_all)
  have hv13 := oneCell_cells (v := v13) (by simp_all)
  have hv14 := oneCell_cells (v := v14) (by simp_all)
  have hv15 := oneCell_cells (v := v15) (by simp_all)
  have hv16 := oneCell_cells (v := v16) (by simp_all)
  have hv17 := oneCell_cells (v := v17) (by simp_all)
  have hv18 := oneCell_cells (v := v18) (by simp_all)
  have h1 := fill_set (fun i => some (i * 1, 1)) [(0, v0), (1, v1), (2, v2), (3, v3), (4, v4), (5, v5), (6, v6), (7, v7), (8, v8), (9, v9), (10, v10), (11, v11), (12, v12), (13, v13), (14, v14), (15, v15), (16, v16), (17, v17), (18, v18)] [.nilIface, .nilIface, .nilIface, .nilIface, .nilIface, .nilIface, .nilIface, .nilIface, .nilIface, .nilIface, .nilIface, .nilIface, .nilIface, .nilIface, .nilIface, .nilIface, .nilIface, .nilIface, .nilIface] (by simp [okF, agg_cells, hv0, hv1, hv2, hv3, hv4, hv5, hv6, hv7, hv8, hv9, hv10, hv11, hv12, hv13, hv14, hv15, hv16, hv17, hv18, Nat.beq, Nat.ble])
  simp [setF, agg_cells, hv0, hv1, hv2, hv3, hv4, hv5, hv6, hv7, hv8, hv9, hv10, hv11, hv12, hv13, hv14, hv15, hv16, hv17, hv18] at h1
  simp [Instr.build, Tryz.runUnderlying44, Tryz.zeroValue44, Tryz.sizeOf29, agg_cells, h1]
set_option maxRecDepth 100000 in
theorem num_list (B : Nat) (E : Nat → Addr) (w : World) (er : ErrT B E w) :
  Calls Tryz.prog 17 #[] w (Ret (fun v w' => v = .agg (errOrd.map (errV E)).toArray ∧ Ch No w w')) := by
 refine calls_of_VC (args := []) Tryz.func17 rfl Tryz.ntmps17 rfl (VC.seq (VC.region (VO.wk (Wk.alloc Tryz.zeroValue44) rfl rfl rfl ?_)))
 rintro _ w1 ⟨p1, rfl, N1⟩
 have c1 := N1.ch
 have e1 := N1.p; have z1 := N1.size
 have b0 := Bk.new N1
 refine VO.nil (VQ.then_code (VC.seq (VC.region ?_)))
 have er_1 := er.keep c1
 refine VO.mv (Rn.load Tryz.isAgg29 rfl (er_1.get 2 (by decide))) rfl rfl rfl (VO.mv (Rn.load Tryz.isAgg29 rfl (er_1.get 3 (by decide))) rfl rfl rfl (VO.mv (Rn.load Tryz.isAgg29 rfl (er_1.get 4 (by decide))) rfl rfl rfl (VO.mv (Rn.load Tryz.isAgg29 rfl (er_1.get 5 (by decide))) rfl rfl rfl (VO.mv (Rn.load Tryz.isAgg29 rfl (er_1.get 6 (by decide))) rfl rfl rfl (VO.mv (Rn.load Tryz.isAgg29 rfl (er_1.get 7 (by decide))) rfl rfl rfl (VO.mv (Rn.load Tryz.isAgg29 rfl (er_1.get 0 (by decide))) rfl rfl rfl (VO.mv (Rn.load Tryz.isAgg29 rfl (er_1.get 8 (by decide))) rfl rfl rfl ?_)))))))
 refine VO.mv (Rn.load Tryz.isAgg29 rfl (er_1.get 9 (by decide))) rfl rfl rfl (VO.mv (Rn.load Tryz.isAgg29 rfl (er_1.get 10 (by decide))) rfl rfl rfl (VO.mv (Rn.load Tryz.isAgg29 rfl (er_1.get 11 (by decide))) rfl rfl rfl (VO.mv (Rn.load Tryz.isAgg29 rfl (er_1.get 12 (by decide))) rfl rfl rfl (VO.mv (Rn.load Tryz.isAgg29 rfl (er_1.get 13 (by decide))) rfl rfl rfl (VO.mv (Rn.load Tryz.isAgg29 rfl (er_1.get 14 (by decide))) rfl rfl rfl (VO.mv (Rn.load Tryz.isAgg29 rfl (er_1.get 15 (by decide))) rfl rfl rfl (VO.mv (Rn.load Tryz.isAgg29 rfl (er_1.get 16 (by decide))) rfl rfl rfl ?_)))))))
 refine VO.mv (Rn.load Tryz.isAgg29 rfl (er_1.get 17 (by decide))) rfl rfl rfl (VO.mv (Rn.load Tryz.isAgg29 rfl (er_1.get 18 (by decide))) rfl rfl rfl (VO.mv (Rn.load Tryz.isAgg29 rfl (er_1.get 19 (by decide))) rfl rfl rfl (VO.mv (Rn.build rfl (bld44_0_1_2_3_4_5_6_7_8_9_10_11_12_13_14_15_16_17_18w78 rfl)) rfl rfl rfl (VO.wk0 (Wk.puts Tryz.sizeOf44 rfl rfl rfl rfl b0 (Nat.le_of_ble_eq_true rfl)) rfl rfl ?_))))
 intro _ w2 Z2
 have c2 := Z2.ch; have z2 := Z2.size
 have b0_2 := Bk.put Z2
 refine VO.nil (VQ.then_code (VC.ret (VQ.retc rfl rfl Tryz.isAgg44 Tryz.sizeOf44 rfl (b0_2.all' rfl) (Ret.mk ?_))))
 have cc_0_2 : Ch No w w2 := (Ch.then (E := No) c1 c2 (by intro q h1 h2; rcases h2 with h2 | h2 <;> first | exact h2 | (exfalso; omega)))
 have CH_2 := (Ch.refl (No) w).and cc_0_2
 exact ⟨rfl, CH_2⟩
set_option maxRecDepth 100000 in
theorem num_err (B : Nat) (E : Nat → Addr) (g k : Nat) (hk : errOrd[k]? = some g) (hf : ∀ j, j < k → ∀ h, errOrd[j]? = some h → g ≠ h) (w : World) (er : ErrT B E w) :
  Calls Tryz.prog 9 #[errV E g] w (Ret (fun v w' => v = .int .i64 ((k : Int) + 1) ∧ Ch No w w')) := by
 have hk19 : k < 19 := (List.getElem?_eq_some_iff.1 hk).1
 refine calls_of_VC (args := [errV E g]) Tryz.func9 rfl Tryz.ntmps9 rfl (VC.seq (VC.region (VO.mv (Rn.assign rfl) rfl rfl rfl (VO.nil (VQ.then_code (VC.seq (VC.seq ?_)))))))
 refine VC.region (VO.mv (Rn.move rfl) rfl rfl rfl (VO.mv (Rn.err_eql_nil Tryz.underlying29 rfl) rfl rfl rfl (VO.nil (VQ.then_code (VC.cond_false rfl (VC.skip (VQ.then_code ?_)))))))
 refine VC.seq (VC.seq (VC.region (VO.wk (Wk.call Tryz.call17 rfl (num_list _ _ _ er)) rfl rfl rfl ?_)))
 rintro _ w1 ⟨rfl, c1⟩
 have z1 := c1.size
 refine VO.mv (Rn.move rfl) rfl rfl rfl (VO.nil (VQ.then_code (VC.block ?_)))
 have er_1 := er.keep c1
 have CH_1 := (Ch.refl (No) w).and c1
 refine VC.loopS (σ := Nat) (fun i => [(0, errV E g), (7, .agg (errOrd.map (errV E)).toArray), (8, .int .i64 i)]) (fun i w' => i ≤ k ∧ w1.heap.size ≤ w'.heap.size ∧ ErrT B E w' ∧ Ch (No) w w') (fun i => 20 - i) 0 ?_ ⟨rfl, rfl, rfl, trivial⟩ ?_
 · exact ⟨(by omega), (Nat.le_refl _), er_1, CH_1⟩
 rintro i w2 ⟨hik, hsz2, er_2, CH_2⟩
 show VC _ _ _ _ [(0, errV E g), (7, .agg (errOrd.map (errV E)).toArray), (8, .int .i64 i)] _
 refine VC.seq (VC.region (VO.mv (Rn.lss rfl rfl) rfl rfl rfl (VO.nil (VQ.then_code (VC.seq (VC.cond_if rfl (fun hc1 => ?_) (fun hc1 => ?_)))))))
 ·
  refine VC.skip (VQ.then_code (VC.seq (VC.block (VC.seq ?_))))
  obtain ⟨h, hh⟩ : ∃ h, errOrd[i]? = some h := ⟨_, List.getElem?_eq_getElem (show i < 19 by omega)⟩
  refine VC.region (VO.mv (Rn.move rfl) rfl rfl rfl (VO.mv (Rn.idxV Tryz.underlying44 Tryz.isAgg29 Tryz.sizeOf29 rfl rfl (by omega) (by omega) (v := errV E h) (by simp only [List.getElem?_toArray, List.getElem?_map, Int.toNat_natCast, hh, Option.map_some])) rfl rfl rfl ?_))
  refine VO.mv (Rn.assign rfl) rfl rfl rfl (VO.mv (Rn.assign rfl) rfl rfl rfl (VO.nil (VQ.then_code (VC.seq (VC.region (VO.mv (Rn.move rfl) rfl rfl rfl (VO.mv (Rn.move rfl) rfl rfl rfl ?_)))))))
  refine VO.mv (Rn.err_eql er_2 (errOrd_mem _ _ hk) (errOrd_mem _ _ hh) rfl rfl) rfl rfl rfl (VO.nil (VQ.then_code (VC.cond_if rfl (fun hc2 => ?_) (fun hc2 => ?_))))
  ·
   refine VC.seq (VC.region (VO.mv (Rn.move rfl) rfl rfl rfl ?_))
   refine VO.mv (Rn.add rfl rfl (by rw [IntKind.wrap_i64]; omega)) rfl rfl rfl ?_
   refine VO.mv (Rn.assign rfl) rfl rfl rfl (VO.nil (VQ.then_code (VC.ret (VQ.block_ret (VQ.then_ret (VQ.then_ret (VQ.block_ret ?_)))))))
   refine VQ.then_ret (VQ.ret1 rfl rfl (Ret.mk ?_))
   have hik2 : i = k := by rcases Nat.lt_or_ge i k with h9 | h9; (exact absurd hc2 (hf i h9 h hh)); omega
   subst hik2
   exact ⟨rfl, CH_2⟩
  ·
   refine VC.skip (VQ.block_normal (VQ.then_code (VC.region ?_)))
   refine VO.mv (Rn.add rfl rfl (by rw [IntKind.wrap_i64]; omega)) rfl rfl rfl ?_
   refine VO.mv (Rn.move rfl) rfl rfl rfl (VO.nil ?_)
   refine VQ.round (i + 1) (by first | omega | (dsimp only; omega)) ?_ ⟨rfl, rfl, rfl, trivial⟩
   have hne : i ≠ k := fun e => hc2 (by subst e; rw [hk] at hh; injection hh)
   exact ⟨(by omega), (by omega), er_2, CH_2⟩
 ·
  omega
set_option maxRecDepth 100000 in
theorem num_nil (w : World) :
  Calls Tryz.prog 9 #[.nilIface] w (Ret (fun v w' => v = .int .i64 0 ∧ w = w')) := by
 refine calls_of_VC (args := [.nilIface]) Tryz.func9 rfl Tryz.ntmps9 rfl (VC.seq (VC.region (VO.mv (Rn.assign rfl) rfl rfl rfl (VO.nil (VQ.then_code (VC.seq (VC.seq ?_)))))))
 refine VC.region (VO.mv (Rn.move rfl) rfl rfl rfl (VO.mv (Rn.nil_eql_nil Tryz.underlying29 rfl) rfl rfl rfl (VO.nil (VQ.then_code (VC.cond_true rfl (VC.seq (VC.region ?_)))))))
 refine VO.mv (Rn.assign rfl) rfl rfl rfl (VO.nil (VQ.then_code (VC.ret (VQ.then_ret (VQ.ret1 rfl rfl (Ret.mk ?_))))))
 exact ⟨rfl, rfl⟩
set_option maxRecDepth 100000 in
theorem ref_SameListG (SA SB : Nat → Prop) (A B : Option Addr) (n ca cb : Nat) (xs ys : List Nat) (w : World) (sa : SlR SA w A n 1 (xs.map flV)) (sb : SlR SB w B n 1 (ys.map flV)) (hs : ∀ i, i < n → cn (xs.getD i 0) = cn (ys.getD i 0)) (hn9 : n ≤ 17592186044416) :
  Calls Tryz.prog 18 #[.slice A n ca, .slice B n cb] w (Ret (fun v w' => v = .bool true ∧ Ch No w w')) := by
 refine calls_of_VC (args := [.slice A n ca, .slice B n cb]) Tryz.func18 rfl Tryz.ntmps18 rfl (VC.seq (VC.region (VO.mv (Rn.assign rfl) rfl rfl rfl (VO.nil (VQ.then_code (VC.seq (VC.seq ?_)))))))
 refine VC.region (VO.mv (Rn.move rfl) rfl rfl rfl (VO.mv (Rn.len Tryz.underlying24 rfl) rfl rfl rfl (VO.mv (Rn.move rfl) rfl rfl rfl (VO.mv (Rn.len Tryz.underlying24 rfl) rfl rfl rfl (VO.mv (Rn.neq rfl rfl) rfl rfl rfl (VO.nil (VQ.then_code ?_)))))))
 refine VC.cond_if rfl (fun hc1 => ?_) (fun hc1 => ?_)
 ·
  omega
 ·
  refine VC.skip (VQ.then_code (VC.seq (VC.seq (VC.region (VO.mv (Rn.move rfl) rfl rfl rfl (VO.mv (Rn.len Tryz.underlying24 rfl) rfl rfl rfl (VO.mv (Rn.move rfl) rfl rfl rfl ?_)))))))
  refine VO.nil (VQ.then_code (VC.block (VC.loopS (σ := Nat) (fun j => [(0, .slice A n ca), (1, .slice B n cb), (13, .int .i64 n), (14, .int .i64 j)]) (fun j w' => j ≤ n ∧ w.heap.size ≤ w'.heap.size ∧ SlR SA w' A n 1 (xs.map flV) ∧ SlR SB w' B n 1 (ys.map flV) ∧ Ch (No) w w') (fun j => n - j) 0 ?_ ⟨rfl, rfl, rfl, rfl, trivial⟩ ?_)))
  · exact ⟨(by omega), (Nat.le_refl _), sa, sb, (Ch.refl (No) w)⟩
  rintro j w1 ⟨hj, hsz1, sa_1, sb_1, CH_1⟩
  show VC _ _ _ _ [(0, .slice A n ca), (1, .slice B n cb), (13, .int .i64 n), (14, .int .i64 j)] _
  refine VC.seq (VC.region (VO.mv (Rn.lss rfl rfl) rfl rfl rfl (VO.nil (VQ.then_code (VC.seq (VC.cond_if rfl (fun hc2 => ?_) (fun hc2 => ?_)))))))
  ·
   have hs9 := hs j (by omega)
   refine VC.skip (VQ.then_code (VC.seq (VC.block (VC.seq (VC.region (VO.mv (Rn.move rfl) rfl rfl rfl (VO.mv (Rn.assign rfl) rfl rfl rfl ?_)))))))
   refine VO.nil (VQ.then_code (VC.seq (VC.draws 9 [(0, true), (1, true), (2, true), (3, true), (4, true), (5, true), (6, true), (7, true), (8, false)] (fun w1 w' => Ch (No) w1 w') mixed (by kernel_rfl) (fun _ _ => Ch.refl _ _) ?_)))
   intro w2 D2
   have c2 := Ch.of_drew D2; have z2 := c2.size
   have sa_2 := sa_1.keep c2
   have sb_2 := sb_1.keep c2
   refine VH.mv (fun w' hS => Rn.move rfl) rfl rfl rfl rfl (VH.mv (fun w' hS => Rn.move rfl) rfl rfl rfl rfl (VH.mv (fun w' hS => Rn.indexS Tryz.underlying24 Tryz.sizeOf36 rfl rfl ((sa_2.keep hS).ne (by omega)) (by omega) (by omega)) rfl rfl rfl rfl (VH.mv (fun w' hS => Rn.load Tryz.isAgg36 rfl ((sa_2.keep hS).getF (by omega) (by omega))) rfl rfl rfl rfl (VH.mv (fun w' hS => Rn.move rfl) rfl rfl rfl rfl (VH.mv (fun w' hS => Rn.move rfl) rfl rfl rfl rfl (VH.mv (fun w' hS => Rn.indexS Tryz.underlying24 Tryz.sizeOf36 rfl rfl ((sb_2.keep hS).ne (by omega)) (by omega) (by omega)) rfl rfl rfl rfl (VH.mv (fun w' hS => Rn.load Tryz.isAgg36 rfl ((sb_2.keep hS).getF (by omega) (by omega))) rfl rfl rfl rfl ?_)))))))
   refine VH.wk (Wk.call Tryz.call27 rfl (ref_SameT _ _ hs9 _)) rfl rfl rfl rfl ?_
   rintro _ _ ⟨rfl, rfl⟩
   refine ⟨(Ch.refl (No) w2), ?_⟩
   refine VH.done (VO.mv (Rn.assign rfl) rfl rfl rfl (VO.nil (VQ.noPanic (VQ.then_code (VC.seq (VC.region (VO.mv (Rn.move rfl) rfl rfl rfl ?_)))))))
   refine VO.mv (Rn.not rfl) rfl rfl rfl (VO.nil (VQ.then_code (VC.cond_false rfl (VC.skip (VQ.block_normal (VQ.then_code (VC.region ?_)))))))
   refine VO.mv (Rn.add rfl rfl (by rw [IntKind.wrap_i64]; omega)) rfl rfl rfl ?_
   refine VO.mv (Rn.move rfl) rfl rfl rfl (VO.nil ?_)
   refine VQ.round (j + 1) (by first | omega | (dsimp only; omega)) ?_ ⟨rfl, rfl, rfl, rfl, trivial⟩
   have CH_2 := CH_1.and c2
   exact ⟨(by omega), (by omega), sa_2, sb_2, CH_2⟩
  ·
   refine VC.exit (VQ.then_exit (VQ.then_exit (VQ.block_exit (VQ.then_code (VC.seq (VC.region (VO.mv (Rn.assign rfl) rfl rfl rfl ?_)))))))
   refine VO.nil (VQ.then_code (VC.ret (VQ.ret1 rfl rfl (Ret.mk ?_))))
   exact ⟨rfl, CH_1⟩
set_option maxRecDepth 100000 in
theorem law23_sameG (SA SB : Nat → Prop) (A B : Option Addr) (n ca cb : Nat) (xs ys : List Nat) (w : World) (sA : SlR SA w A n 1 (xs.map flV)) (sB : SlR SB w B n 1 (ys.map flV)) (hs : ∀ i, i < n → cn (xs.getD i 0) = cn (ys.getD i 0)) (hn9 : n ≤ 17592186044416) :
  Calls Tryz.prog 10 #[.slice A n ca, .slice B n cb] w (Ret (fun v w' => v = .bool true ∧ Ch No w w')) := by
 refine calls_of_VC (args := [.slice A n ca, .slice B n cb]) Tryz.func10 rfl Tryz.ntmps10 rfl (VC.seq (VC.region (VO.mv (Rn.assign rfl) rfl rfl rfl (VO.nil (VQ.then_code (VC.seq (VC.region ?_)))))))
 refine VO.mv (Rn.move rfl) rfl rfl rfl (VO.mv (Rn.move rfl) rfl rfl rfl (VO.wk (Wk.call Tryz.call18 rfl (ref_SameListG _ _ _ _ _ _ _ _ _ _ sA sB hs hn9)) rfl rfl rfl ?_))
 rintro _ w1 ⟨rfl, c1⟩
 have z1 := c1.size
 refine VO.mv (Rn.assign rfl) rfl rfl rfl (VO.nil (VQ.then_code (VC.ret (VQ.ret1 rfl rfl (Ret.mk ?_)))))
 have CH_1 := (Ch.refl (No) w).and c1
 exact ⟨rfl, CH_1⟩
set_option maxHeartbeats 1000000 in
set_option maxRecDepth 100000 in
theorem cos_SumG (SX : Nat → Prop) (X : Option Addr) (n xc : Nat) (xs : List Nat) (w : World) (sx : SlR SX w X n 1 (xs.map flV)) (hX : ∀ q, SX q → q < w.heap.size) (hn : 1 ≤ n ∧ n ≤ 300) :
  Calls Tryz.prog 7 #[.slice X n xc] w (Ret (fun v w' => ∃ q zs, v = .tuple #[.slice (some ⟨q, 0, none⟩) n n, .nilIface] ∧ FR 36 w' (q + 1) (some ⟨q, 0, none⟩) n n zs ∧ SumsK n (XF xs) zs ∧ w.heap.size ≤ q ∧ Ch No w w')) := by
 refine calls_of_VC (args := [.slice X n xc]) Tryz.func7 rfl Tryz.ntmps7 rfl (VC.seq (VC.region (VO.mv (Rn.assign rfl) rfl rfl rfl (VO.mv (Rn.assign rfl) rfl rfl rfl (VO.nil (VQ.then_code (VC.seq ?_)))))))
 refine VC.region (VO.mv (Rn.move rfl) rfl rfl rfl (VO.mv (Rn.len Tryz.underlying24 rfl) rfl rfl rfl (VO.mv (Rn.assign rfl) rfl rfl rfl (VO.nil (VQ.then_code (VC.seq (VC.seq ?_)))))))
 refine VC.region (VO.mv (Rn.move rfl) rfl rfl rfl (VO.mv (Rn.eql rfl rfl) rfl rfl rfl (VO.mv (Rn.move rfl) rfl rfl rfl ?_)))
 refine VO.orJoin (b := _) 3 16 19 rfl (fun hc1 Jhc1 => by
   refine VO.skip rfl rfl rfl (VO.skip rfl rfl rfl (VO.mv (Rn.pick_true rfl rfl) rfl rfl rfl ?_))
   exact (VO.fg rfl (VO.fg rfl Jhc1))) (fun hc1 Jhc1 => by
   try simp only [Bool.and_eq_true, Bool.or_eq_true, Bool.not_eq_true', Bool.not_eq_false', Bool.and_eq_false_iff, Bool.or_eq_false_iff, decide_eq_true_eq, decide_eq_false_iff_not] at hc1
   refine VO.mv (Rn.move rfl) rfl rfl rfl (VO.mv (Rn.gtr rfl rfl) rfl rfl rfl (VO.mv (Rn.pick_false rfl rfl) rfl rfl rfl ?_))
   exact (VO.fg rfl (VO.fg rfl Jhc1))) ?_
 refine VO.nil (VQ.then_code (VC.cond rfl (fun hc2 => ?_) (fun hc2 => ?_)))
 ·
  try simp only [Bool.and_eq_true, Bool.or_eq_true, Bool.not_eq_true', Bool.not_eq_false', Bool.and_eq_false_iff, Bool.or_eq_false_iff, decide_eq_true_eq, decide_eq_false_iff_not] at hc2
  omega
 ·
  try simp only [Bool.and_eq_true, Bool.or_eq_true, Bool.not_eq_true', Bool.not_eq_false', Bool.and_eq_false_iff, Bool.or_eq_false_iff, decide_eq_true_eq, decide_eq_false_iff_not] at hc2
  refine VC.skip (VQ.then_code (VC.seq (VC.region (VO.mv (Rn.move rfl) rfl rfl rfl (VO.wk (Wk.mkF Tryz.underlying24 inf36w78 rfl rfl (by omega) (by omega) (by omega)) rfl rfl rfl ?_)))))
  rintro _ w1 ⟨p1, rfl, o1, c1, e1, z1⟩
  refine VO.mv (Rn.assign rfl) rfl rfl rfl (VO.nil (VQ.then_code (VC.seq (VC.seq (VC.region (VO.mv (Rn.move rfl) rfl rfl rfl (VO.mv (Rn.len Tryz.underlying24 rfl) rfl rfl rfl ?_)))))))
  refine VO.mv (Rn.move rfl) rfl rfl rfl (VO.nil (VQ.then_code (VC.block ?_)))
  have sx_1 := sx.keep c1
  have CH_1 := (Ch.refl (No) w).and c1
  refine VC.loopS (σ := Nat × List Nat) (fun (k, zs) => [(0, .slice X n xc), (4, .int .i64 n), (5, .slice (some ⟨p1, 0, none⟩) n n), (24, .int .i64 n), (25, .int .i64 k)]) (fun (k, zs) w' => k ≤ n ∧ SumG (XF xs) n k 0 zs ∧ w1.heap.size ≤ w'.heap.size ∧ FR 36 w' (p1 + 1) (some ⟨p1, 0, none⟩) n n zs ∧ SlR SX w' X n 1 (xs.map flV) ∧ Ch (No) w w') (fun (k, zs) => n - k) (0, List.replicate n 0) ?_ ⟨rfl, rfl, rfl, rfl, rfl, trivial⟩ ?_
  · exact ⟨(by omega), (SumG.init _ _), (Nat.le_refl _), o1, sx_1, CH_1⟩
  rintro ⟨k, zs⟩ w2 ⟨hk, hi, hsz2, row_2, sx_2, CH_2⟩
  show VC _ _ _ _ [(0, .slice X n xc), (4, .int .i64 n), (5, .slice (some ⟨p1, 0, none⟩) n n), (24, .int .i64 n), (25, .int .i64 k)] _
  refine VC.seq (VC.region (VO.mv (Rn.lss rfl rfl) rfl rfl rfl (VO.nil (VQ.then_code (VC.seq (VC.cond_if rfl (fun hc3 => ?_) (fun hc3 => ?_)))))))
  ·
   refine VC.skip (VQ.then_code (VC.seq (VC.block (VC.seq (VC.region (VO.mv (Rn.move rfl) rfl rfl rfl (VO.mv (Rn.assign rfl) rfl rfl rfl ?_)))))))
   refine VO.nil (VQ.then_code (VC.seq (VC.region (VO.mv (Rn.move rfl) rfl rfl rfl (VO.mv (Rn.len Tryz.underlying24 rfl) rfl rfl rfl (VO.mv (Rn.move rfl) rfl rfl rfl (VO.nil ?_)))))))
   refine VQ.then_code (VC.block (VC.loopS (σ := Nat × List Nat) (fun (j, zs2) => [(0, .slice X n xc), (4, .int .i64 n), (5, .slice (some ⟨p1, 0, none⟩) n n), (6, .int .i64 k), (24, .int .i64 n), (25, .int .i64 k), (28, .slice X n xc), (29, .int .i64 n), (30, .int .i64 j)]) (fun (j, zs2) w' => j ≤ n ∧ SumG (XF xs) n k j zs2 ∧ w2.heap.size ≤ w'.heap.size ∧ FR 36 w' (p1 + 1) (some ⟨p1, 0, none⟩) n n zs2 ∧ SlR SX w' X n 1 (xs.map flV) ∧ Ch (No) w w') (fun (j, zs2) => n - j) (0, zs) ?_ ⟨rfl, rfl, rfl, rfl, rfl, rfl, rfl, rfl, rfl, trivial⟩ ?_))
   · exact ⟨(by omega), hi, (Nat.le_refl _), row_2, sx_2, CH_2⟩
   rintro ⟨j, zs2⟩ w3 ⟨hj, hi2, hsz3, row_3, sx_3, CH_3⟩
   show VC _ _ _ _ [(0, .slice X n xc), (4, .int .i64 n), (5, .slice (some ⟨p1, 0, none⟩) n n), (6, .int .i64 k), (24, .int .i64 n), (25, .int .i64 k), (28, .slice X n xc), (29, .int .i64 n), (30, .int .i64 j)] _
   have hjk : 0 ≤ (2 * (j : Int) + 1) * (k : Int) ∧ (2 * (j : Int) + 1) * (k : Int) ≤ 601 * 300 := ⟨Int.mul_nonneg (by omega) (by omega), Int.mul_le_mul (by omega) (by omega) (by omega) (by omega)⟩
   have hq : ((2 * (j : Int) + 1) * (k : Int)) % ((4 * n : Nat) : Int) = (((2 * j + 1) * k % (4 * n) : Nat) : Int) := by push_cast; rfl
   refine VC.seq (VC.region (VO.mv (Rn.lss rfl rfl) rfl rfl rfl (VO.nil (VQ.then_code (VC.seq (VC.cond_if rfl (fun hc4 => ?_) (fun hc4 => ?_)))))))
   ·
    refine VC.skip (VQ.then_code (VC.seq (VC.block (VC.seq (VC.region (VO.mv (Rn.move rfl) rfl rfl rfl (VO.mv (Rn.indexS Tryz.underlying24 Tryz.sizeOf36 rfl rfl (sx_3.ne (by omega)) (by omega) (by omega)) rfl rfl rfl ?_)))))))
    refine VO.mv (Rn.load Tryz.isAgg36 rfl (sx_3.getF (by omega) (by omega))) rfl rfl rfl (VO.mv (Rn.assign rfl) rfl rfl rfl (VO.mv (Rn.assign rfl) rfl rfl rfl (VO.nil (VQ.then_code (VC.seq (VC.region (VO.mv (Rn.move rfl) rfl rfl rfl ?_)))))))
    refine VO.mv (Rn.mul rfl rfl (by rw [IntKind.wrap_i64]; omega)) rfl rfl rfl ?_
    refine VO.mv (Rn.move rfl) rfl rfl rfl ?_
    refine VO.mv (Rn.mul rfl rfl (by rw [IntKind.wrap_i64]; omega)) rfl rfl rfl ?_
    refine VO.mv (Rn.add rfl rfl (by rw [IntKind.wrap_i64]; omega)) rfl rfl rfl ?_
    refine VO.mv (Rn.move rfl) rfl rfl rfl ?_
    refine VO.mv (Rn.mul rfl rfl (by rw [IntKind.wrap_i64]; omega)) rfl rfl rfl ?_
    refine VO.wk (Wk.call Tryz.call15 rfl (roots_Cos (4 * n) ((2 * (j : Int) + 1) * (k : Int)) ((2 * j + 1) * k % (4 * n)) (by omega) (by omega) ⟨by omega, by omega⟩ hq _)) rfl rfl rfl ?_
    rintro _ w4 ⟨x4, rfl, F4, c4⟩
    have z4 := c4.size
    refine VO.mv (Rn.move rfl) rfl rfl rfl (VO.mv (Rn.extract rfl rfl) rfl rfl rfl (VO.mv (Rn.extract rfl rfl) rfl rfl rfl (VO.mv (Rn.assign rfl) rfl rfl rfl (VO.mv (Rn.assign rfl) rfl rfl rfl (VO.nil (VQ.then_code (VC.seq ?_)))))))
    refine VC.seq (VC.region (VO.mv (Rn.move rfl) rfl rfl rfl (VO.mv (Rn.nil_neq_nil Tryz.underlying29 rfl) rfl rfl rfl (VO.nil (VQ.then_code (VC.cond_false rfl (VC.skip ?_)))))))
    refine VQ.then_code (VC.seq (VC.region (VO.mv (Rn.move rfl) rfl rfl rfl (VO.mv (Rn.move rfl) rfl rfl rfl (VO.wk (Wk.fbin (.inr (.inr (.inl rfl))) rfl rfl) rfl rfl rfl ?_)))))
    rintro _ w5 ⟨r5, rfl, f5, c5⟩
    have z5 := c5.size
    refine VO.mv (Rn.assign rfl) rfl rfl rfl (VO.nil (VQ.then_code (VC.seq (VC.seq (VC.region (VO.mv (Rn.move rfl) rfl rfl rfl (VO.mv (Rn.gtr rfl rfl) rfl rfl rfl ?_)))))))
    refine VO.nil (VQ.then_code (VC.cond_if rfl (fun hc5 => ?_) (fun hc5 => ?_)))
    ·
     refine VC.region (VO.mv (Rn.move rfl) rfl rfl rfl (VO.mv (Rn.move rfl) rfl rfl rfl ?_))
     have row_5 := row_3.keep (c4.trans c5)
     refine VO.mv (Rn.indexS Tryz.underlying24 Tryz.sizeOf36 rfl rfl (row_5.sl.ne (by omega)) (by omega) (by omega)) rfl rfl rfl (VO.mv (Rn.load Tryz.isAgg36 rfl (row_5.sl.getF (by omega) (by omega))) rfl rfl rfl (VO.mv (Rn.move rfl) rfl rfl rfl (VO.wk (Wk.fbin (.inl rfl) rfl rfl) rfl rfl rfl ?_)))
     rintro _ w6 ⟨r6, rfl, f6, c6⟩
     have z6 := c6.size
     refine VO.mv (Rn.assign rfl) rfl rfl rfl (VO.nil (VQ.then_code (VC.region (VO.mv (Rn.move rfl) rfl rfl rfl (VO.mv (Rn.move rfl) rfl rfl rfl (VO.mv (Rn.move rfl) rfl rfl rfl ?_))))))
     have row_6 := row_5.keep c6
     refine VO.mv (Rn.indexS Tryz.underlying24 Tryz.sizeOf36 rfl rfl (row_6.sl.ne (by omega)) (by omega) (by omega)) rfl rfl rfl (VO.wk0 (Wk.putF Tryz.sizeOf36 rfl rfl (by omega) row_6) rfl rfl ?_)
     rintro _ w7 ⟨o7, c7, z7⟩
     have y7 := o7.lt
     refine VO.nil (VQ.block_normal (VQ.then_code (VC.region ?_)))
     refine VO.mv (Rn.add rfl rfl (by rw [IntKind.wrap_i64]; omega)) rfl rfl rfl ?_
     refine VO.mv (Rn.move rfl) rfl rfl rfl (VO.nil ?_)
     refine VQ.round (j + 1, zs2.set k r6) (by first | omega | (dsimp only; omega)) ?_ ⟨rfl, rfl, rfl, rfl, rfl, rfl, rfl, rfl, rfl, trivial⟩
     have sx_6 := sx_3.keep (c4.trans (c5.trans c6))
     have sx_7 := sx_6.to c7 (by first | exact fun _ _ _ _ => id | (intro q h1 h2 hx h3; have := hX q h2; omega))
     have CH_6 := CH_3.and (c4.trans (c5.trans c6))
     have CH_7 : Ch (No) w w7 := CH_6.then c7 (by intro q h1 h2; rcases h2 with h2 | h2 <;> first | exact h2 | (exfalso; omega) | omega)
     exact ⟨by omega, hi2.step (by omega) (sumK_succ (by omega) (hi2.now (by omega)) f6 f5 F4), by omega, o7, sx_7, CH_7⟩
    ·
     refine VC.skip (VQ.then_code (VC.region (VO.mv (Rn.move rfl) rfl rfl rfl (VO.mv (Rn.move rfl) rfl rfl rfl (VO.mv (Rn.move rfl) rfl rfl rfl ?_)))))
     have row_5 := row_3.keep (c4.trans c5)
     refine VO.mv (Rn.indexS Tryz.underlying24 Tryz.sizeOf36 rfl rfl (row_5.sl.ne (by omega)) (by omega) (by omega)) rfl rfl rfl (VO.wk0 (Wk.putF Tryz.sizeOf36 rfl rfl (by omega) row_5) rfl rfl ?_)
     rintro _ w8 ⟨o8, c8, z8⟩
     have y8 := o8.lt
     refine VO.nil (VQ.block_normal (VQ.then_code (VC.region ?_)))
     refine VO.mv (Rn.add rfl rfl (by rw [IntKind.wrap_i64]; omega)) rfl rfl rfl ?_
     refine VO.mv (Rn.move rfl) rfl rfl rfl (VO.nil ?_)
     refine VQ.round (j + 1, zs2.set k r5) (by first | omega | (dsimp only; omega)) ?_ ⟨rfl, rfl, rfl, rfl, rfl, rfl, rfl, rfl, rfl, trivial⟩
     have sx_5 := sx_3.keep (c4.trans c5)
     have sx_8 := sx_5.to c8 (by first | exact fun _ _ _ _ => id | (intro q h1 h2 hx h3; have := hX q h2; omega))
     have CH_5 := CH_3.and (c4.trans c5)
     have CH_8 : Ch (No) w w8 := CH_5.then c8 (by intro q h1 h2; rcases h2 with h2 | h2 <;> first | exact h2 | (exfalso; omega) | omega)
     exact ⟨by omega, hi2.step (by omega) (sumK_at0 (by omega) f5 F4), by omega, o8, sx_8, CH_8⟩
   ·
    refine VC.exit (VQ.then_exit (VQ.then_exit (VQ.block_exit (VQ.block_normal (VQ.then_code (VC.region ?_))))))
    refine VO.mv (Rn.add rfl rfl (by rw [IntKind.wrap_i64]; omega)) rfl rfl rfl ?_
    refine VO.mv (Rn.move rfl) rfl rfl rfl (VO.nil ?_)
    refine VQ.round (k + 1, zs2) (by first | omega | (dsimp only; omega)) ?_ ⟨rfl, rfl, rfl, rfl, rfl, trivial⟩
    exact ⟨(by omega), (hi2.round (by omega) (by omega)), (by omega), row_3, sx_3, CH_3⟩
  ·
   refine VC.exit (VQ.then_exit (VQ.then_exit (VQ.block_exit (VQ.then_code (VC.seq (VC.region (VO.mv (Rn.move rfl) rfl rfl rfl ?_)))))))
   refine VO.mv (Rn.assign rfl) rfl rfl rfl (VO.mv (Rn.assign rfl) rfl rfl rfl (VO.nil (VQ.then_code (VC.ret (VQ.ret2 rfl rfl rfl (Ret.mk ?_))))))
   have ek : k = n := by omega
   exact ⟨_, _, rfl, row_2, hi.all ek, by omega, CH_2⟩
set_option maxRecDepth 100000 in
theorem cos_SumB (X : Option Addr) (n xc : Nat) (B : Nat) (E : Nat → Addr) (w : World) (hn : n = 0 ∨ 1024 < n) (er : ErrT B E w) :
  Calls Tryz.prog 7 #[.slice X n xc] w (Ret (fun v w' => v = .tuple #[.slice none 0 0, errV E 0] ∧ Ch No w w')) := by
 refine calls_of_VC (args := [.slice X n xc]) Tryz.func7 rfl Tryz.ntmps7 rfl (VC.seq (VC.region (VO.mv (Rn.assign rfl) rfl rfl rfl (VO.mv (Rn.assign rfl) rfl rfl rfl (VO.nil (VQ.then_code (VC.seq ?_)))))))
 refine VC.region (VO.mv (Rn.move rfl) rfl rfl rfl (VO.mv (Rn.len Tryz.underlying24 rfl) rfl rfl rfl (VO.mv (Rn.assign rfl) rfl rfl rfl (VO.nil (VQ.then_code (VC.seq (VC.seq ?_)))))))
 refine VC.region (VO.mv (Rn.move rfl) rfl rfl rfl (VO.mv (Rn.eql rfl rfl) rfl rfl rfl (VO.mv (Rn.move rfl) rfl rfl rfl ?_)))
 refine VO.orJoin (b := _) 3 16 19 rfl (fun hc1 Jhc1 => by
   refine VO.skip rfl rfl rfl (VO.skip rfl rfl rfl (VO.mv (Rn.pick_true rfl rfl) rfl rfl rfl ?_))
   exact (VO.fg rfl (VO.fg rfl Jhc1))) (fun hc1 Jhc1 => by
   try simp only [Bool.and_eq_true, Bool.or_eq_true, Bool.not_eq_true', Bool.not_eq_false', Bool.and_eq_false_iff, Bool.or_eq_false_iff, decide_eq_true_eq, decide_eq_false_iff_not] at hc1
   refine VO.mv (Rn.move rfl) rfl rfl rfl (VO.mv (Rn.gtr rfl rfl) rfl rfl rfl (VO.mv (Rn.pick_false rfl rfl) rfl rfl rfl ?_))
   exact (VO.fg rfl (VO.fg rfl Jhc1))) ?_
 refine VO.nil (VQ.then_code (VC.cond rfl (fun hc2 => ?_) (fun hc2 => ?_)))
 ·
  try simp only [Bool.and_eq_true, Bool.or_eq_true, Bool.not_eq_true', Bool.not_eq_false', Bool.and_eq_false_iff, Bool.or_eq_false_iff, decide_eq_true_eq, decide_eq_false_iff_not] at hc2
  refine VC.seq (VC.draws 2 [(0, true), (1, true)] (fun w1 w' => Ch (No) w1 w') mixed (by kernel_rfl) (fun _ _ => Ch.refl _ _) ?_)
  intro w1 D1
  have c1 := Ch.of_drew D1; have z1 := c1.size
  have er_1 := er.keep c1
  refine VH.mv (fun w' hS => Rn.load Tryz.isAgg29 rfl ((er_1.keep hS).get 0 (by decide))) rfl rfl rfl rfl (VH.mv (fun w' hS => Rn.assign rfl) rfl rfl rfl rfl (VH.done (VO.mv (Rn.assign rfl) rfl rfl rfl (VO.nil (VQ.noPanic (VQ.then_code (VC.ret ?_)))))))
  refine VQ.then_ret (VQ.ret2 rfl rfl rfl (Ret.mk ?_))
  have CH_1 := (Ch.refl (No) w).and c1
  exact ⟨rfl, CH_1⟩
 ·
  try simp only [Bool.and_eq_true, Bool.or_eq_true, Bool.not_eq_true', Bool.not_eq_false', Bool.and_eq_false_iff, Bool.or_eq_false_iff, decide_eq_true_eq, decide_eq_false_iff_not] at hc2
  omega
set_option maxRecDepth 100000 in
theorem ref23_SumB (X : Option Addr) (n xc : Nat) (w : World) (hn : n = 0 ∨ 1024 < n) :
  Calls Tryz.prog 8 #[.slice X n xc] w (Ret (fun v w' => v = .tuple #[.slice none 0 0, .int .i64 7] ∧ Ch No w w')) := by
 refine calls_of_VC (args := [.slice X n xc]) Tryz.func8 rfl Tryz.ntmps8 rfl (VC.seq (VC.region (VO.mv (Rn.assign rfl) rfl rfl rfl (VO.mv (Rn.assign rfl) rfl rfl rfl (VO.nil (VQ.then_code (VC.seq ?_)))))))
 refine VC.region (VO.mv (Rn.move rfl) rfl rfl rfl (VO.mv (Rn.len Tryz.underlying24 rfl) rfl rfl rfl (VO.mv (Rn.assign rfl) rfl rfl rfl (VO.nil (VQ.then_code (VC.seq (VC.seq ?_)))))))
 refine VC.region (VO.mv (Rn.move rfl) rfl rfl rfl (VO.mv (Rn.lss rfl rfl) rfl rfl rfl (VO.mv (Rn.move rfl) rfl rfl rfl ?_)))
 refine VO.orJoin (b := _) 3 17 20 rfl (fun hc1 Jhc1 => by
   refine VO.skip rfl rfl rfl (VO.skip rfl rfl rfl (VO.mv (Rn.pick_true rfl rfl) rfl rfl rfl ?_))
   exact (VO.fg rfl (VO.fg rfl Jhc1))) (fun hc1 Jhc1 => by
   try simp only [Bool.and_eq_true, Bool.or_eq_true, Bool.not_eq_true', Bool.not_eq_false', Bool.and_eq_false_iff, Bool.or_eq_false_iff, decide_eq_true_eq, decide_eq_false_iff_not] at hc1
   refine VO.mv (Rn.move rfl) rfl rfl rfl (VO.mv (Rn.gtr rfl rfl) rfl rfl rfl (VO.mv (Rn.pick_false rfl rfl) rfl rfl rfl ?_))
   exact (VO.fg rfl (VO.fg rfl Jhc1))) ?_
 refine VO.nil (VQ.then_code (VC.cond rfl (fun hc2 => ?_) (fun hc2 => ?_)))
 ·
  try simp only [Bool.and_eq_true, Bool.or_eq_true, Bool.not_eq_true', Bool.not_eq_false', Bool.and_eq_false_iff, Bool.or_eq_false_iff, decide_eq_true_eq, decide_eq_false_iff_not] at hc2
  refine VC.seq (VC.region (VO.mv (Rn.assign rfl) rfl rfl rfl (VO.mv (Rn.assign rfl) rfl rfl rfl (VO.nil (VQ.then_code (VC.ret (VQ.then_ret ?_)))))))
  refine VQ.ret2 rfl rfl rfl (Ret.mk ?_)
  exact ⟨rfl, (Ch.refl (No) w)⟩
 ·
  try simp only [Bool.and_eq_true, Bool.or_eq_true, Bool.not_eq_true', Bool.not_eq_false', Bool.and_eq_false_iff, Bool.or_eq_false_iff, decide_eq_true_eq, decide_eq_false_iff_not] at hc2
  omega
set_option maxHeartbeats 1000000 in
set_option maxRecDepth 100000 in
theorem ref23_SumG (SX : Nat → Prop) (X : Option Addr) (n xc : Nat) (xs : List Nat) (w : World) (sx : SlR SX w X n 1 (xs.map flV)) (hX : ∀ q, SX q → q < w.heap.size) (hn : 1 ≤ n ∧ n ≤ 300) :
  Calls Tryz.prog 8 #[.slice X n xc] w (Ret (fun v w' => ∃ r A c zs, v = .tuple #[.slice A n c, .int .i64 0] ∧ FR 36 w' r A n c zs ∧ SumsK n (XF xs) zs ∧ w.heap.size < r ∧ Ch No w w')) := by
 refine calls_of_VC (args := [.slice X n xc]) Tryz.func8 rfl Tryz.ntmps8 rfl (VC.seq (VC.region (VO.mv (Rn.assign rfl) rfl rfl rfl (VO.mv (Rn.assign rfl) rfl rfl rfl (VO.nil (VQ.then_code (VC.seq ?_)))))))
 refine VC.region (VO.mv (Rn.move rfl) rfl rfl rfl (VO.mv (Rn.len Tryz.underlying24 rfl) rfl rfl rfl (VO.mv (Rn.assign rfl) rfl rfl rfl (VO.nil (VQ.then_code (VC.seq (VC.seq ?_)))))))
 refine VC.region (VO.mv (Rn.move rfl) rfl rfl rfl (VO.mv (Rn.lss rfl rfl) rfl rfl rfl (VO.mv (Rn.move rfl) rfl rfl rfl ?_)))
 refine VO.orJoin (b := _) 3 17 20 rfl (fun hc1 Jhc1 => by
   refine VO.skip rfl rfl rfl (VO.skip rfl rfl rfl (VO.mv (Rn.pick_true rfl rfl) rfl rfl rfl ?_))
   exact (VO.fg rfl (VO.fg rfl Jhc1))) (fun hc1 Jhc1 => by
   try simp only [Bool.and_eq_true, Bool.or_eq_true, Bool.not_eq_true', Bool.not_eq_false', Bool.and_eq_false_iff, Bool.or_eq_false_iff, decide_eq_true_eq, decide_eq_false_iff_not] at hc1
   refine VO.mv (Rn.move rfl) rfl rfl rfl (VO.mv (Rn.gtr rfl rfl) rfl rfl rfl (VO.mv (Rn.pick_false rfl rfl) rfl rfl rfl ?_))
   exact (VO.fg rfl (VO.fg rfl Jhc1))) ?_
 refine VO.nil (VQ.then_code (VC.cond rfl (fun hc2 => ?_) (fun hc2 => ?_)))
 ·
  try simp only [Bool.and_eq_true, Bool.or_eq_true, Bool.not_eq_true', Bool.not_eq_false', Bool.and_eq_false_iff, Bool.or_eq_false_iff, decide_eq_true_eq, decide_eq_false_iff_not] at hc2
  omega
 ·
  try simp only [Bool.and_eq_true, Bool.or_eq_true, Bool.not_eq_true', Bool.not_eq_false', Bool.and_eq_false_iff, Bool.or_eq_false_iff, decide_eq_true_eq, decide_eq_false_iff_not] at hc2
  refine VC.skip (VQ.then_code (VC.seq (VC.region (VO.wk (Wk.lit0 Tryz.underlying24 inf36w78) rfl rfl rfl ?_))))
  rintro _ w1 ⟨p1, rfl, N1⟩
  have c1 := N1.ch
  have e1 := N1.p; have z1 := N1.size
  have l21o := Ow.of_new (cs := []) (sz := 1) (l := 0) N1 rfl (by decide)
  refine VO.mv (Rn.assign rfl) rfl rfl rfl (VO.nil (VQ.then_code (VC.seq (VC.seq (VC.region (VO.mv (Rn.assign rfl) rfl rfl rfl (VO.nil ?_)))))))
  refine VQ.then_code (VC.block ?_)
  have sx_1 := sx.keep c1
  have CH_1 := (Ch.refl (No) w).and c1
  refine VC.loopS (σ := Nat × List Nat × Nat × Option Addr × Nat) (fun (k, zs, r2, A2, c2) => [(0, .slice X n xc), (4, .int .i64 n), (5, .slice A2 k c2), (6, .int .i64 k)]) (fun (k, zs, r2, A2, c2) w' => k ≤ n ∧ SumR (XF xs) n k zs ∧ w.heap.size < r2 ∧ w1.heap.size ≤ w'.heap.size ∧ Ow w' r2 36 1 A2 k c2 (zs.map flV) ∧ SlR SX w' X n 1 (xs.map flV) ∧ Ch (No) w w') (fun (k, zs, r2, A2, c2) => n - k) (0, [], (p1 + 1), (some ⟨p1, 0, none⟩), 0) ?_ ⟨rfl, rfl, rfl, rfl, trivial⟩ ?_
  · exact ⟨(by omega), (SumR.init _ _), (by omega), (Nat.le_refl _), l21o, sx_1, CH_1⟩
  rintro ⟨k, zs, r2, A2, c2⟩ w2 ⟨hk, hi, hr2, hsz2, row_2, sx_2, CH_2⟩
  show VC _ _ _ _ [(0, .slice X n xc), (4, .int .i64 n), (5, .slice A2 k c2), (6, .int .i64 k)] _
  refine VC.seq (VC.seq (VC.region (VO.mv (Rn.move rfl) rfl rfl rfl (VO.mv (Rn.move rfl) rfl rfl rfl (VO.mv (Rn.lss rfl rfl) rfl rfl rfl (VO.nil (VQ.then_code ?_)))))))
  refine VC.cond_if rfl (fun hc3 => ?_) (fun hc3 => ?_)
  ·
   refine VC.skip (VQ.then_code (VC.seq (VC.block (VC.seq (VC.region (VO.mv (Rn.assign rfl) rfl rfl rfl (VO.nil ?_)))))))
   refine VQ.then_code (VC.seq (VC.seq (VC.region (VO.mv (Rn.move rfl) rfl rfl rfl (VO.mv (Rn.len Tryz.underlying24 rfl) rfl rfl rfl (VO.mv (Rn.move rfl) rfl rfl rfl (VO.nil ?_)))))))
   refine VQ.then_code (VC.block (VC.loopS (σ := Nat × Nat) (fun (j, y) => [(0, .slice X n xc), (4, .int .i64 n), (5, .slice A2 k c2), (6, .int .i64 k), (7, .float .f64 y), (27, .slice X n xc), (28, .int .i64 n), (29, .int .i64 j)]) (fun (j, y) w' => j ≤ n ∧ (0 < j → cn y = sumK n (XF xs) k (j - 1)) ∧ w2.heap.size ≤ w'.heap.size ∧ Ow w' r2 36 1 A2 k c2 (zs.map flV) ∧ SlR SX w' X n 1 (xs.map flV) ∧ Ch (No) w w') (fun (j, y) => n - j) (0, 0) ?_ ⟨rfl, rfl, rfl, rfl, rfl, rfl, rfl, rfl, trivial⟩ ?_))
   · exact ⟨(by omega), (fun h => absurd h (by omega)), (Nat.le_refl _), row_2, sx_2, CH_2⟩
   rintro ⟨j, y⟩ w3 ⟨hj, hy, hsz3, row_3, sx_3, CH_3⟩
   show VC _ _ _ _ [(0, .slice X n xc), (4, .int .i64 n), (5, .slice A2 k c2), (6, .int .i64 k), (7, .float .f64 y), (27, .slice X n xc), (28, .int .i64 n), (29, .int .i64 j)] _
   have hjk : 0 ≤ (2 * (j : Int) + 1) * (k : Int) ∧ (2 * (j : Int) + 1) * (k : Int) ≤ 601 * 300 := ⟨Int.mul_nonneg (by omega) (by omega), Int.mul_le_mul (by omega) (by omega) (by omega) (by omega)⟩
   have hq : ((2 * (j : Int) + 1) * (k : Int)) % ((4 * n : Nat) : Int) = (((2 * j + 1) * k % (4 * n) : Nat) : Int) := by push_cast; rfl
   refine VC.seq (VC.region (VO.mv (Rn.lss rfl rfl) rfl rfl rfl (VO.nil (VQ.then_code (VC.seq (VC.cond_if rfl (fun hc4 => ?_) (fun hc4 => ?_)))))))
   ·
    refine VC.skip (VQ.then_code (VC.seq (VC.block (VC.seq (VC.region (VO.mv (Rn.move rfl) rfl rfl rfl (VO.mv (Rn.indexS Tryz.underlying24 Tryz.sizeOf36 rfl rfl (sx_3.ne (by omega)) (by omega) (by omega)) rfl rfl rfl ?_)))))))
    refine VO.mv (Rn.load Tryz.isAgg36 rfl (sx_3.getF (by omega) (by omega))) rfl rfl rfl (VO.mv (Rn.assign rfl) rfl rfl rfl (VO.mv (Rn.assign rfl) rfl rfl rfl (VO.nil (VQ.then_code (VC.seq (VC.region (VO.mv (Rn.move rfl) rfl rfl rfl ?_)))))))
    refine VO.mv (Rn.mul rfl rfl (by rw [IntKind.wrap_i64]; omega)) rfl rfl rfl ?_
    refine VO.mv (Rn.move rfl) rfl rfl rfl ?_
    refine VO.mv (Rn.mul rfl rfl (by rw [IntKind.wrap_i64]; omega)) rfl rfl rfl ?_
    refine VO.mv (Rn.add rfl rfl (by rw [IntKind.wrap_i64]; omega)) rfl rfl rfl ?_
    refine VO.mv (Rn.move rfl) rfl rfl rfl ?_
    refine VO.mv (Rn.mul rfl rfl (by rw [IntKind.wrap_i64]; omega)) rfl rfl rfl ?_
    refine VO.wk (Wk.call Tryz.call16 rfl (ref07_Cos (4 * n) ((2 * (j : Int) + 1) * (k : Int)) ((2 * j + 1) * k % (4 * n)) (by omega) (by omega) ⟨by omega, by omega⟩ hq _)) rfl rfl rfl ?_
    rintro _ w4 ⟨x4, rfl, F4, c4⟩
    have z4 := c4.size
    refine VO.mv (Rn.move rfl) rfl rfl rfl (VO.mv (Rn.extract rfl rfl) rfl rfl rfl (VO.mv (Rn.extract rfl rfl) rfl rfl rfl (VO.mv (Rn.assign rfl) rfl rfl rfl (VO.mv (Rn.assign rfl) rfl rfl rfl (VO.nil (VQ.then_code (VC.seq ?_)))))))
    refine VC.region (VO.mv (Rn.move rfl) rfl rfl rfl (VO.mv (Rn.move rfl) rfl rfl rfl (VO.wk (Wk.fbin (.inr (.inr (.inl rfl))) rfl rfl) rfl rfl rfl ?_)))
    rintro _ w5 ⟨r5, rfl, f5, c5⟩
    have z5 := c5.size
    refine VO.mv (Rn.assign rfl) rfl rfl rfl (VO.nil (VQ.then_code (VC.seq (VC.region (VO.mv (Rn.move rfl) rfl rfl rfl (VO.mv (Rn.eql rfl rfl) rfl rfl rfl (VO.nil ?_)))))))
    refine VQ.then_code (VC.cond_if rfl (fun hc5 => ?_) (fun hc5 => ?_))
    ·
     refine VC.region (VO.mv (Rn.move rfl) rfl rfl rfl (VO.mv (Rn.assign rfl) rfl rfl rfl (VO.nil (VQ.block_normal (VQ.then_code (VC.region ?_))))))
     refine VO.mv (Rn.add rfl rfl (by rw [IntKind.wrap_i64]; omega)) rfl rfl rfl ?_
     refine VO.mv (Rn.move rfl) rfl rfl rfl (VO.nil ?_)
     refine VQ.round (j + 1, _) (by first | omega | (dsimp only; omega)) ?_ ⟨rfl, rfl, rfl, rfl, rfl, rfl, rfl, rfl, trivial⟩
     have row_5 := row_3.keep (c4.trans c5)
     have sx_5 := sx_3.keep (c4.trans c5)
     have CH_5 := CH_3.and (c4.trans c5)
     exact ⟨by omega, fun _ => sumK_at0 (by omega) f5 F4, by omega, row_5, sx_5, CH_5⟩
    ·
     refine VC.region (VO.mv (Rn.move rfl) rfl rfl rfl (VO.mv (Rn.move rfl) rfl rfl rfl (VO.wk (Wk.fbin (.inl rfl) rfl rfl) rfl rfl rfl ?_)))
     rintro _ w6 ⟨r6, rfl, f6, c6⟩
     have z6 := c6.size
     refine VO.mv (Rn.assign rfl) rfl rfl rfl (VO.nil (VQ.block_normal (VQ.then_code (VC.region ?_))))
     refine VO.mv (Rn.add rfl rfl (by rw [IntKind.wrap_i64]; omega)) rfl rfl rfl ?_
     refine VO.mv (Rn.move rfl) rfl rfl rfl (VO.nil ?_)
     refine VQ.round (j + 1, _) (by first | omega | (dsimp only; omega)) ?_ ⟨rfl, rfl, rfl, rfl, rfl, rfl, rfl, rfl, trivial⟩
     have row_6 := row_3.keep (c4.trans (c5.trans c6))
     have sx_6 := sx_3.keep (c4.trans (c5.trans c6))
     have CH_6 := CH_3.and (c4.trans (c5.trans c6))
     exact ⟨by omega, fun _ => sumK_succ (by omega) (hy (by omega)) f6 f5 F4, by omega, row_6, sx_6, CH_6⟩
   ·
    refine VC.exit (VQ.then_exit (VQ.then_exit (VQ.block_exit (VQ.then_code (VC.region (VO.mv (Rn.move rfl) rfl rfl rfl (VO.mv (Rn.move rfl) rfl rfl rfl ?_)))))))
    refine VO.wk (Wk.lit Tryz.underlying24 inf36w78 (by decide) rfl rfl (by rfl) (by decide) (by decide) (by rfl)) rfl rfl rfl ?_
    rintro _ w7 ⟨p7, rfl, N7⟩
    have c7 := N7.ch
    have e7 := N7.p; have z7 := N7.size
    have l57 := SlR.of_new (sz := 1) (l := 1) N7 rfl
    have l57o := Ow.of_new (sz := 1) (l := 1) N7 rfl (by decide)
    have row_7 := row_3.keep c7
    refine VO.wk (Wk.append (S := _) Tryz.underlying24 inf36w78 rfl (by decide) rfl rfl row_7 l57 (by rfl) (fun h => by simp at h) (by omega) (by simp only [maxLen]; omega)) rfl rfl rfl ?_
    rintro _ w8 ⟨r8, A8, k8, rfl, o8, c8, q8⟩
    have z8 := c8.size
    have y8 := o8.lt
    refine VO.mv (Rn.assign rfl) rfl rfl rfl (VO.nil (VQ.block_normal (VQ.then_code (VC.region (VO.mv (Rn.move rfl) rfl rfl rfl ?_)))))
    refine VO.mv (Rn.add rfl rfl (by rw [IntKind.wrap_i64]; omega)) rfl rfl rfl ?_
    refine VO.mv (Rn.assign rfl) rfl rfl rfl (VO.nil ?_)
    refine VQ.round (k + 1, zs ++ [y], r8, A8, k8) (by first | omega | (dsimp only; omega)) ?_ ⟨rfl, rfl, rfl, rfl, trivial⟩
    have sx_7 := sx_3.keep c7
    have sx_8 := sx_7.to c8 (by first | exact fun _ _ _ _ => id | (intro q h1 h2 hx h3; have := hX q h2; omega))
    have CH_7 := CH_3.and c7
    have CH_8 : Ch (No) w w8 := CH_7.then c8 (by intro q h1 h2; rcases h2 with h2 | h2 <;> first | exact h2 | (exfalso; omega) | omega)
    exact ⟨(by omega), (hi.add (by have ej : j = n := (by omega); have h9 := hy (by omega); rw [ej] at h9; exact h9)), (by omega), (by omega), (by rw [List.map_append]; exact o8), sx_8, CH_8⟩
  ·
   refine VC.exit (VQ.then_exit (VQ.then_exit (VQ.block_exit (VQ.then_code (VC.seq (VC.region (VO.mv (Rn.move rfl) rfl rfl rfl ?_)))))))
   refine VO.mv (Rn.assign rfl) rfl rfl rfl (VO.mv (Rn.assign rfl) rfl rfl rfl (VO.nil (VQ.then_code (VC.ret (VQ.ret2 rfl rfl rfl (Ret.mk ?_))))))
   obtain rfl : k = n := by omega
   exact ⟨_, _, _, _, rfl, row_2, hi.done, hr2, CH_2⟩
set_option maxRecDepth 100000 in
theorem law23_room (r : Nat) (X : Option Addr) (n xc : Nat) (xs : List Nat) (w : World) (fx : FR 36 w r X n xc xs) (hr : r ≤ w.heap.size) (hn : n ≤ 17592186044404) :
  Calls Tryz.prog 6 #[.slice X n xc] w (Ret (fun v w' => ∃ r A c, v = .tuple #[.slice A n c, .slice A (n + 2) c] ∧ FR 36 w' r A (n + 2) c (xs ++ [4635118810238550016, 4635892866424504320]) ∧ w.heap.size < r ∧ Ch No w w')) := by
 have hxl := FR.len fx
 refine calls_of_VC (args := [.slice X n xc]) Tryz.func6 rfl Tryz.ntmps6 rfl (VC.seq (VC.region (VO.mv (Rn.assign rfl) rfl rfl rfl (VO.mv (Rn.assign rfl) rfl rfl rfl (VO.nil (VQ.then_code (VC.seq ?_)))))))
 refine VC.region (VO.wk (Wk.lit0 Tryz.underlying24 inf36w78) rfl rfl rfl ?_)
 rintro _ w1 ⟨p1, rfl, N1⟩
 have c1 := N1.ch
 have e1 := N1.p; have z1 := N1.size
 have l5o := Ow.of_new (cs := []) (sz := 1) (l := 0) N1 rfl (by decide)
 refine VO.mv (Rn.move rfl) rfl rfl rfl ?_
 have fx_1 := fx.keep c1
 refine VO.wk (Wk.append (S := _) Tryz.underlying24 inf36w78 rfl (by decide) rfl rfl l5o fx_1.sl (by simp [Value.oneCell']) (fun _ h => Ow.nilx fx_1 h) (by omega) (by simp only [maxLen]; omega)) rfl rfl rfl ?_
 rintro _ w2 ⟨r2, A2, k2, rfl, o2, c2, q2⟩
 have z2 := c2.size
 have y2 := o2.lt
 refine VO.wk (Wk.lit Tryz.underlying24 inf36w78 (by decide) rfl rfl (by rfl) (by decide) (by decide) (by rfl)) rfl rfl rfl ?_
 rintro _ w3 ⟨p3, rfl, N3⟩
 have c3 := N3.ch
 have e3 := N3.p; have z3 := N3.size
 have l8 := SlR.of_new (sz := 1) (l := 2) N3 rfl
 have l8o := Ow.of_new (sz := 1) (l := 2) N3 rfl (by decide)
 have row_3 := o2.keep c3
 refine VO.wk (Wk.append (S := _) Tryz.underlying24 inf36w78 rfl (by decide) rfl rfl row_3 l8 (by rfl) (fun h => by simp at h) (by omega) (by simp only [maxLen]; omega)) rfl rfl rfl ?_
 rintro _ w4 ⟨r4, A4, k4, rfl, o4, c4, q4⟩
 have z4 := c4.size
 have y4 := o4.lt
 refine VO.mv (Rn.assign rfl) rfl rfl rfl (VO.nil (VQ.then_code (VC.seq ?_)))
 have hcap := Ow.cap o4 (by omega)
 refine VC.region (VO.mv (Rn.move rfl) rfl rfl rfl (VO.mv (Rn.move rfl) rfl rfl rfl (VO.mv (Rn.len Tryz.underlying24 rfl) rfl rfl rfl (VO.mv (Rn.sliceHi Tryz.underlying24 Tryz.sizeOf36 rfl rfl (by omega) (by omega)) rfl rfl rfl (VO.mv (Rn.move rfl) rfl rfl rfl (VO.mv (Rn.assign rfl) rfl rfl rfl (VO.mv (Rn.assign rfl) rfl rfl rfl ?_)))))))
 refine VO.nil (VQ.then_code (VC.ret (VQ.ret2 rfl rfl rfl (Ret.mk ?_))))
 have e0 : 0 + n + 2 = n + 2 := by omega
 have r9 := o4
 rw [e0] at r9
 have CH_1 := (Ch.refl (No) w).and c1
 have CH_2 : Ch (No) w w2 := CH_1.then c2 (by intro q h1 h2; rcases h2 with h2 | h2 <;> first | exact h2 | (exfalso; omega) | omega)
 have CH_3 := CH_2.and c3
 have CH_4 : Ch (No) w w4 := CH_3.then c4 (by intro q h1 h2; rcases h2 with h2 | h2 <;> first | exact h2 | (exfalso; omega) | omega)
 exact ⟨_, _, _, (by rw [e0]; rfl), (by show Ow _ _ _ _ _ _ _ (List.map flV (xs ++ _)); rw [List.map_append]; exact r9), by omega, CH_4⟩
set_option maxRecDepth 100000 in
theorem law23_kept (r : Nat) (F : Option Addr) (n fc : Nat) (SX : Nat → Prop) (X : Option Addr) (xc : Nat) (xs : List Nat) (w : World) (fu : FR 36 w r F (n + 2) fc (xs ++ [4635118810238550016, 4635892866424504320])) (sx : SlR SX w X n 1 (xs.map flV)) (hn : n ≤ 17592186044404) :
  Calls Tryz.prog 11 #[.slice F (n + 2) fc, .slice X n xc] w (Ret (fun v w' => v = .bool true ∧ Ch No w w')) := by
 have hxl : xs.length = n := by have := sx.len; simpa using this
 refine calls_of_VC (args := [.slice F (n + 2) fc, .slice X n xc]) Tryz.func11 rfl Tryz.ntmps11 rfl (VC.seq (VC.region (VO.mv (Rn.assign rfl) rfl rfl rfl (VO.nil (VQ.then_code (VC.seq (VC.region ?_)))))))
 refine VO.mv (Rn.move rfl) rfl rfl rfl (VO.mv (Rn.len Tryz.underlying24 rfl) rfl rfl rfl (VO.mv (Rn.assign rfl) rfl rfl rfl (VO.nil (VQ.then_code (VC.seq ?_)))))
 have hcap := Ow.cap fu (by omega)
 have pf := SlR.preF (fu).sl hxl (by omega)
 refine VC.region (VO.mv (Rn.move rfl) rfl rfl rfl (VO.mv (Rn.len Tryz.underlying24 rfl) rfl rfl rfl (VO.mv (Rn.move rfl) rfl rfl rfl ?_)))
 refine VO.mv (Rn.add rfl rfl (by rw [IntKind.wrap_i64]; omega)) rfl rfl rfl ?_
 refine VO.mv (Rn.eqlT rfl rfl (by omega)) rfl rfl rfl (VO.mv (Rn.move rfl) rfl rfl rfl (VO.mv (Rn.move rfl) rfl rfl rfl (VO.mv (Rn.move rfl) rfl rfl rfl (VO.mv (Rn.sliceHi Tryz.underlying24 Tryz.sizeOf36 rfl rfl (by omega) (by omega)) rfl rfl rfl (VO.mv (Rn.move rfl) rfl rfl rfl (VO.wk (Wk.call Tryz.call10 rfl (law23_sameG _ _ _ _ _ _ _ _ _ _ pf sx (fun _ _ => rfl) (by omega))) rfl rfl rfl ?_))))))
 rintro _ w1 ⟨rfl, c1⟩
 have z1 := c1.size
 refine VO.mv (Rn.pick_true rfl rfl) rfl rfl rfl (VO.mv (Rn.move rfl) rfl rfl rfl (VO.mv (Rn.move rfl) rfl rfl rfl (VO.mv (Rn.move rfl) rfl rfl rfl ?_)))
 have fu_1 := fu.keep c1
 refine VO.mv (Rn.indexS Tryz.underlying24 Tryz.sizeOf36 rfl rfl (fu_1.sl.ne (by omega)) (by omega) (by omega)) rfl rfl rfl (VO.mv (Rn.load Tryz.isAgg36 rfl (fu_1.sl.getF (by omega) (by omega))) rfl rfl rfl (VO.mv (Rn.feqlT rfl rfl (feq_const (congrArg cn (app_get0 hxl)) (by kernel_rfl) (by kernel_rfl))) rfl rfl rfl (VO.mv (Rn.pick_true rfl rfl) rfl rfl rfl (VO.mv (Rn.move rfl) rfl rfl rfl (VO.mv (Rn.move rfl) rfl rfl rfl (VO.mv (Rn.move rfl) rfl rfl rfl ?_))))))
 refine VO.mv (Rn.add rfl rfl (by rw [IntKind.wrap_i64]; omega)) rfl rfl rfl ?_
 refine VO.mv (Rn.indexS Tryz.underlying24 Tryz.sizeOf36 rfl rfl (fu_1.sl.ne (by omega)) (by omega) (by omega)) rfl rfl rfl (VO.mv (Rn.load Tryz.isAgg36 rfl (fu_1.sl.getF (by omega) (by omega))) rfl rfl rfl (VO.mv (Rn.feqlT rfl rfl (feq_const (congrArg cn (app_get1 hxl)) (by kernel_rfl) (by kernel_rfl))) rfl rfl rfl (VO.mv (Rn.pick_true rfl rfl) rfl rfl rfl (VO.mv (Rn.assign rfl) rfl rfl rfl (VO.nil (VQ.then_code (VC.ret ?_)))))))
 refine VQ.ret1 rfl rfl (Ret.mk ?_)
 have CH_1 := (Ch.refl (No) w).and c1
 exact ⟨rfl, CH_1⟩
end Go.Tm
namespace Go.Tm
open Go.RowKit Go.Proofs
set_option maxRecDepth 100000 in
theorem inf36w79 : Inf Tryz.prog 36 (.float .f64 0) 1 8 := ⟨Tryz.t36, Tryz.type36, rfl, rfl, rfl⟩
set_option maxHeartbeats 1000000 in
set_option maxRecDepth 100000 in
theorem law_Sums_ok (SX : Nat → Prop) (X : Option Addr) (n xc : Nat) (bs : List Int) (w : World) (sx : SlR SX w X n 1 (bs.map UV)) (hX : ∀ q, SX q → q < w.heap.size) (hn : n ≤ 17592186044404) (hn1 : 1 ≤ n ∧ n ≤ 150) (st : StT w) (tab : TabB w.heap.size w) (hG : 24 ≤ w.heap.size) :
  Calls Tryz.prog 3 #[.slice X n xc] w (Ret (fun v w' => v = .bool true ∧ Ch No w w')) := by
 have hbl : (flO bs).length = n := by rw [flO_len]; have := sx.len; simpa using this
 refine calls_of_VC (args := [.slice X n xc]) Tryz.func3 rfl Tryz.ntmps3 rfl (VC.seq (VC.region (VO.mv (Rn.assign rfl) rfl rfl rfl (VO.nil (VQ.then_code (VC.seq (VC.seq ?_)))))))
 refine VC.region (VO.wk (Wk.call Tryz.call4 rfl (law23_lives _ st ((tab).up (by omega)) (by omega))) rfl rfl rfl ?_)
 rintro _ w1 ⟨rfl, c1⟩
 have z1 := c1.size
 refine VO.mv (Rn.not rfl) rfl rfl rfl (VO.nil (VQ.then_code (VC.cond_false rfl (VC.skip (VQ.then_code (VC.seq (VC.region ?_)))))))
 refine VO.mv (Rn.move rfl) rfl rfl rfl ?_
 have sx_1 := sx.keep c1
 refine VO.wk (Wk.call Tryz.call5 rfl (law23_floats _ _ _ _ bs _ sx_1 (fun q hq => by have := hX q hq; omega) (by omega))) rfl rfl rfl ?_
 rintro _ w2 ⟨r2, A2, k2, rfl, fl2, yr2, c2⟩
 have yl2 := Ow.lt fl2
 have z2 := c2.size
 refine VO.mv (Rn.assign rfl) rfl rfl rfl (VO.nil (VQ.then_code (VC.seq (VC.seq (VC.region (VO.mv (Rn.move rfl) rfl rfl rfl (VO.mv (Rn.len Tryz.underlying24 rfl) rfl rfl rfl ?_)))))))
 refine VO.mv (Rn.gtr rfl rfl) rfl rfl rfl (VO.mv (Rn.move rfl) rfl rfl rfl ?_)
 refine VO.andJoin (b := _) 4 20 24 rfl (fun hc1 Jhc1 => by
   try simp only [Bool.and_eq_true, Bool.or_eq_true, Bool.not_eq_true', Bool.not_eq_false', Bool.and_eq_false_iff, Bool.or_eq_false_iff, decide_eq_true_eq, decide_eq_false_iff_not] at hc1
   refine VO.mv (Rn.move rfl) rfl rfl rfl (VO.mv (Rn.len Tryz.underlying24 rfl) rfl rfl rfl (VO.mv (Rn.leq rfl rfl) rfl rfl rfl (VO.mv (Rn.pick_true rfl rfl) rfl rfl rfl ?_)))
   exact (VO.fg rfl (VO.fg rfl (VO.fg rfl Jhc1)))) (fun hc1 Jhc1 => by
   refine VO.skip rfl rfl rfl (VO.skip rfl rfl rfl (VO.skip rfl rfl rfl (VO.mv (Rn.pick_false rfl rfl) rfl rfl rfl ?_)))
   exact (VO.fg rfl (VO.fg rfl (VO.fg rfl Jhc1)))) ?_
 refine VO.nil (VQ.then_code (VC.cond rfl (fun hc2 => ?_) (fun hc2 => ?_)))
 ·
  try simp only [Bool.and_eq_true, Bool.or_eq_true, Bool.not_eq_true', Bool.not_eq_false', Bool.and_eq_false_iff, Bool.or_eq_false_iff, decide_eq_true_eq, decide_eq_false_iff_not] at hc2
  refine VC.seq (VC.region (VO.mv (Rn.assign rfl) rfl rfl rfl (VO.nil (VQ.then_code (VC.ret (VQ.then_ret (VQ.ret1 rfl rfl ?_)))))))
  refine Ret.mk ?_
  have CH_2 := (Ch.refl (No) w).and (c1.trans c2)
  exact ⟨rfl, CH_2⟩
 ·
  try simp only [Bool.and_eq_true, Bool.or_eq_true, Bool.not_eq_true', Bool.not_eq_false', Bool.and_eq_false_iff, Bool.or_eq_false_iff, decide_eq_true_eq, decide_eq_false_iff_not] at hc2
  refine VC.skip (VQ.then_code (VC.seq (VC.region (VO.mv (Rn.move rfl) rfl rfl rfl (VO.wk (Wk.call Tryz.call6 rfl (law23_room _ _ _ _ _ _ fl2 (by omega) (by omega))) rfl rfl rfl ?_)))))
  rintro _ w3 ⟨r3, A3, k3, rfl, fu3, yr3, c3⟩
  have yl3 := Ow.lt fu3
  have mi := SlR.preF fu3.sl hbl (by omega)
  have z3 := c3.size
  refine VO.mv (Rn.move rfl) rfl rfl rfl (VO.mv (Rn.extract rfl rfl) rfl rfl rfl (VO.mv (Rn.extract rfl rfl) rfl rfl rfl (VO.mv (Rn.assign rfl) rfl rfl rfl (VO.mv (Rn.assign rfl) rfl rfl rfl (VO.nil (VQ.then_code (VC.seq ?_)))))))
  refine VC.region (VO.mv (Rn.move rfl) rfl rfl rfl (VO.wk (Wk.call Tryz.call7 rfl (cos_SumG _ _ n _ (flO bs) _ mi (fun q hq => by omega) (by omega))) rfl rfl rfl ?_))
  rintro _ w4 ⟨q4, zs4, rfl, su4, hs1, e4, c4⟩
  have yl4 := Ow.lt su4
  have z4 := c4.size
  refine VO.mv (Rn.move rfl) rfl rfl rfl (VO.mv (Rn.extract rfl rfl) rfl rfl rfl (VO.mv (Rn.extract rfl rfl) rfl rfl rfl (VO.mv (Rn.assign rfl) rfl rfl rfl (VO.mv (Rn.assign rfl) rfl rfl rfl (VO.nil (VQ.then_code (VC.seq ?_)))))))
  refine VC.region (VO.mv (Rn.move rfl) rfl rfl rfl ?_)
  have mi_4 := mi.keep c4
  refine VO.wk (Wk.call Tryz.call7 rfl (cos_SumG _ _ n _ (flO bs) _ mi_4 (fun q hq => by omega) (by omega))) rfl rfl rfl ?_
  rintro _ w5 ⟨q5, zs5, rfl, tw5, hs2, e5, c5⟩
  have yl5 := Ow.lt tw5
  have z5 := c5.size
  refine VO.mv (Rn.move rfl) rfl rfl rfl (VO.mv (Rn.extract rfl rfl) rfl rfl rfl (VO.mv (Rn.extract rfl rfl) rfl rfl rfl (VO.mv (Rn.assign rfl) rfl rfl rfl (VO.mv (Rn.assign rfl) rfl rfl rfl (VO.nil (VQ.then_code (VC.seq ?_)))))))
  refine VC.region (VO.mv (Rn.move rfl) rfl rfl rfl ?_)
  have fl_5 := fl2.keep (c3.trans (c4.trans c5))
  refine VO.wk (Wk.call Tryz.call8 rfl (ref23_SumG _ _ n _ (flO bs) _ (fl_5).sl (fun q hq => by omega) (by omega))) rfl rfl rfl ?_
  rintro _ w6 ⟨r6, A6, k6, zr6, rfl, zz6, hs3, yr6, c6⟩
  have yl6 := Ow.lt zz6
  have z6 := c6.size
  refine VO.mv (Rn.move rfl) rfl rfl rfl (VO.mv (Rn.extract rfl rfl) rfl rfl rfl (VO.mv (Rn.extract rfl rfl) rfl rfl rfl (VO.mv (Rn.assign rfl) rfl rfl rfl (VO.mv (Rn.assign rfl) rfl rfl rfl (VO.nil (VQ.then_code (VC.seq ?_)))))))
  refine VC.seq (VC.region (VO.mv (Rn.move rfl) rfl rfl rfl (VO.wk (Wk.call Tryz.call9 rfl (num_nil _)) rfl rfl rfl ?_)))
  rintro _ _ ⟨rfl, rfl⟩
  refine VO.mv (Rn.move rfl) rfl rfl rfl (VO.mv (Rn.neqF rfl rfl rfl) rfl rfl rfl (VO.mv (Rn.move rfl) rfl rfl rfl (VO.mv (Rn.move rfl) rfl rfl rfl (VO.mv (Rn.move rfl) rfl rfl rfl ?_))))
  have su_6 := su4.keep (c5.trans c6)
  refine VO.wk (Wk.call Tryz.call10 rfl (law23_sameG _ _ _ _ _ _ _ _ _ _ (su_6).sl (zz6).sl (hs1.same hs3) (by omega))) rfl rfl rfl ?_
  rintro _ w7 ⟨rfl, c7⟩
  have z7 := c7.size
  refine VO.mv (Rn.not rfl) rfl rfl rfl (VO.mv (Rn.pick_false rfl rfl) rfl rfl rfl (VO.mv (Rn.move rfl) rfl rfl rfl (VO.mv (Rn.move rfl) rfl rfl rfl (VO.mv (Rn.move rfl) rfl rfl rfl ?_))))
  have fu_7 := fu3.keep (c4.trans (c5.trans (c6.trans c7)))
  have fl_7 := fl_5.keep (c6.trans c7)
  refine VO.wk (Wk.call Tryz.call11 rfl (law23_kept _ _ _ _ _ _ _ _ _ fu_7 (fl_7).sl (by omega))) rfl rfl rfl ?_
  rintro _ w8 ⟨rfl, c8⟩
  have z8 := c8.size
  refine VO.mv (Rn.not rfl) rfl rfl rfl (VO.mv (Rn.pick_false rfl rfl) rfl rfl rfl (VO.nil (VQ.then_code (VC.cond_false rfl (VC.skip (VQ.then_code (VC.seq ?_)))))))
  refine VC.seq (VC.region (VO.mv (Rn.move rfl) rfl rfl rfl (VO.mv (Rn.len Tryz.underlying24 rfl) rfl rfl rfl (VO.mv (Rn.move rfl) rfl rfl rfl (VO.nil (VQ.then_code (VC.block ?_)))))))
  have su_8 := su_6.keep (c7.trans c8)
  have tw_8 := tw5.keep (c6.trans (c7.trans c8))
  have zz_8 := zz6.keep (c7.trans c8)
  have CH_8 := (Ch.refl (No) w).and (c1.trans (c2.trans (c3.trans (c4.trans (c5.trans (c6.trans (c7.trans c8)))))))
  refine VC.loopS (σ := Nat × List Nat) (fun (j, ys) => [(6, .slice (some ⟨q4, 0, none⟩) n n), (8, .slice (some ⟨q5, 0, none⟩) n n), (10, .slice A6 n k6), (62, .int .i64 n), (63, .int .i64 j)]) (fun (j, ys) w' => j ≤ n ∧ w8.heap.size ≤ w'.heap.size ∧ FR 36 w' (q4 + 1) (some ⟨q4, 0, none⟩) n n ys ∧ FR 36 w' (q5 + 1) (some ⟨q5, 0, none⟩) n n zs5 ∧ FR 36 w' r6 A6 n k6 zr6 ∧ Ch (No) w w') (fun (j, ys) => n - j) (0, zs4) ?_ ⟨rfl, rfl, rfl, rfl, rfl, trivial⟩ ?_
  · exact ⟨(by omega), (Nat.le_refl _), su_8, tw_8, zz_8, CH_8⟩
  rintro ⟨j, ys⟩ w9 ⟨hj, hsz9, su_9, tw_9, zz_9, CH_9⟩
  show VC _ _ _ _ [(6, .slice (some ⟨q4, 0, none⟩) n n), (8, .slice (some ⟨q5, 0, none⟩) n n), (10, .slice A6 n k6), (62, .int .i64 n), (63, .int .i64 j)] _
  refine VC.seq (VC.region (VO.mv (Rn.lss rfl rfl) rfl rfl rfl (VO.nil (VQ.then_code (VC.seq (VC.cond_if rfl (fun hc3 => ?_) (fun hc3 => ?_)))))))
  ·
   refine VC.skip (VQ.then_code (VC.seq (VC.block (VC.seq (VC.region (VO.mv (Rn.move rfl) rfl rfl rfl (VO.mv (Rn.assign rfl) rfl rfl rfl ?_)))))))
   refine VO.nil (VQ.then_code (VC.region (VO.mv (Rn.move rfl) rfl rfl rfl (VO.mv (Rn.move rfl) rfl rfl rfl (VO.mv (Rn.indexS Tryz.underlying24 Tryz.sizeOf36 rfl rfl (su_9.sl.ne (by omega)) (by omega) (by omega)) rfl rfl rfl (VO.wk0 (Wk.putF Tryz.sizeOf36 rfl rfl (by omega) su_9) rfl rfl ?_))))))
   rintro _ w10 ⟨o10, c10, z10⟩
   have y10 := o10.lt
   refine VO.nil (VQ.block_normal (VQ.then_code (VC.region ?_)))
   refine VO.mv (Rn.add rfl rfl (by rw [IntKind.wrap_i64]; omega)) rfl rfl rfl ?_
   refine VO.mv (Rn.move rfl) rfl rfl rfl (VO.nil ?_)
   refine VQ.round (j + 1, ys.set j 4613937818241073152) (by first | omega | (dsimp only; omega)) ?_ ⟨rfl, rfl, rfl, rfl, rfl, trivial⟩
   have tw_10 := tw_9.to c10 (by first | exact fun _ _ _ _ => id | (intro q h1 h2 hx h3; omega))
   have zz_10 := zz_9.to c10 (by first | exact fun _ _ _ _ => id | (intro q h1 h2 hx h3; omega))
   have CH_10 : Ch (No) w w10 := CH_9.then c10 (by intro q h1 h2; rcases h2 with h2 | h2 <;> first | exact h2 | (exfalso; omega) | omega)
   exact ⟨(by omega), (by omega), o10, tw_10, zz_10, CH_10⟩
  ·
   refine VC.exit (VQ.then_exit (VQ.then_exit (VQ.block_exit (VQ.then_code (VC.seq ?_)))))
   have hyl := FR.len su_9
   refine VC.region (VO.mv (Rn.move rfl) rfl rfl rfl (VO.wk (Wk.lit Tryz.underlying24 inf36w79 (by decide) rfl rfl (by rfl) (by decide) (by decide) (by rfl)) rfl rfl rfl ?_))
   rintro _ w11 ⟨p11, rfl, N11⟩
   have c11 := N11.ch
   have e11 := N11.p; have z11 := N11.size
   have l71 := SlR.of_new (sz := 1) (l := 1) N11 rfl
   have l71o := Ow.of_new (sz := 1) (l := 1) N11 rfl (by decide)
   have su_11 := su_9.keep c11
   refine VO.wk (Wk.append (S := _) Tryz.underlying24 inf36w79 rfl (by decide) rfl rfl su_11 l71 (by rfl) (fun h => by simp at h) (by omega) (by simp only [maxLen]; omega)) rfl rfl rfl ?_
   rintro _ w12 ⟨r12, A12, k12, rfl, o12, c12, q12⟩
   have z12 := c12.size
   have y12 := o12.lt
   refine VO.mv (Rn.assign rfl) rfl rfl rfl (VO.nil (VQ.then_code (VC.seq ?_)))
   have yr9 : FR 36 w12 r12 A12 (n + 1) k12 (ys ++ [4616189618054758400]) := (by show Ow _ _ _ _ _ _ _ (List.map flV (ys ++ _)); rw [List.map_append]; exact o12)
   refine VC.region (VO.mv (Rn.move rfl) rfl rfl rfl (VO.mv (Rn.move rfl) rfl rfl rfl ?_))
   have tw_11 := tw_9.keep c11
   have tw_12 := tw_11.to c12 (by first | exact fun _ _ _ _ => id | (intro q h1 h2 hx h3; omega))
   have zz_11 := zz_9.keep c11
   have zz_12 := zz_11.to c12 (by first | exact fun _ _ _ _ => id | (intro q h1 h2 hx h3; omega))
   refine VO.wk (Wk.call Tryz.call10 rfl (law23_sameG _ _ _ _ _ _ _ _ _ _ (tw_12).sl (zz_12).sl (hs2.same hs3) (by omega))) rfl rfl rfl ?_
   rintro _ w13 ⟨rfl, c13⟩
   have z13 := c13.size
   refine VO.mv (Rn.move rfl) rfl rfl rfl (VO.mv (Rn.move rfl) rfl rfl rfl (VO.mv (Rn.move rfl) rfl rfl rfl (VO.mv (Rn.len Tryz.underlying24 rfl) rfl rfl rfl ?_)))
   refine VO.mv (Rn.sub rfl rfl (by rw [IntKind.wrap_i64]; omega)) rfl rfl rfl ?_
   have su_13 := o12.keep c13
   refine VO.mv (Rn.indexS Tryz.underlying24 Tryz.sizeOf36 rfl rfl (su_13.sl.ne (by omega)) (by omega) (by omega)) rfl rfl rfl ?_
   have yr_13 := yr9.keep c13
   refine VO.mv (Rn.load Tryz.isAgg36 rfl ((yr_13).sl.getF (by omega) (by omega))) rfl rfl rfl ?_
   refine VO.mv (Rn.feqlT rfl rfl (feq_const (congrArg cn (by rw [show (((n + 1 : Nat) : Int) - 1).toNat = n by omega]; exact app_get hyl)) (by kernel_rfl) (by kernel_rfl))) rfl rfl rfl ?_
   refine VO.mv (Rn.pick_true rfl rfl) rfl rfl rfl (VO.mv (Rn.assign rfl) rfl rfl rfl (VO.nil (VQ.then_code (VC.ret (VQ.ret1 rfl rfl (Ret.mk ?_))))))
   have CH_11 := CH_9.and c11
   have CH_12 : Ch (No) w w12 := CH_11.then c12 (by intro q h1 h2; rcases h2 with h2 | h2 <;> first | exact h2 | (exfalso; omega) | omega)
   have CH_13 := CH_12.and c13
   exact ⟨rfl, CH_13⟩
set_option maxHeartbeats 1000000 in
set_option maxRecDepth 100000 in
theorem law_Sums_bad (SX : Nat → Prop) (X : Option Addr) (n xc : Nat) (bs : List Int) (w : World) (sx : SlR SX w X n 1 (bs.map UV)) (hX : ∀ q, SX q → q < w.heap.size) (hn : n ≤ 17592186044404) (hn1 : n = 0 ∨ 1024 < n) (B : Nat) (E : Nat → Addr) (hB : B ≤ w.heap.size) (er : ErrT B E w) (st : StT w) (tab : TabB w.heap.size w) (hG : 24 ≤ w.heap.size) :
  Calls Tryz.prog 3 #[.slice X n xc] w (Ret (fun v w' => v = .bool true ∧ Ch No w w')) := by
 have hbl : (flO bs).length = n := by rw [flO_len]; have := sx.len; simpa using this
 refine calls_of_VC (args := [.slice X n xc]) Tryz.func3 rfl Tryz.ntmps3 rfl (VC.seq (VC.region (VO.mv (Rn.assign rfl) rfl rfl rfl (VO.nil (VQ.then_code (VC.seq (VC.seq ?_)))))))
 refine VC.region (VO.wk (Wk.call Tryz.call4 rfl (law23_lives _ st ((tab).up (by omega)) (by omega))) rfl rfl rfl ?_)
 rintro _ w1 ⟨rfl, c1⟩
 have z1 := c1.size
 refine VO.mv (Rn.not rfl) rfl rfl rfl (VO.nil (VQ.then_code (VC.cond_false rfl (VC.skip (VQ.then_code (VC.seq (VC.region ?_)))))))
 refine VO.mv (Rn.move rfl) rfl rfl rfl ?_
 have sx_1 := sx.keep c1
 refine VO.wk (Wk.call Tryz.call5 rfl (law23_floats _ _ _ _ bs _ sx_1 (fun q hq => by have := hX q hq; omega) (by omega))) rfl rfl rfl ?_
 rintro _ w2 ⟨r2, A2, k2, rfl, fl2, yr2, c2⟩
 have yl2 := Ow.lt fl2
 have z2 := c2.size
 refine VO.mv (Rn.assign rfl) rfl rfl rfl (VO.nil (VQ.then_code (VC.seq (VC.seq (VC.region (VO.mv (Rn.move rfl) rfl rfl rfl (VO.mv (Rn.len Tryz.underlying24 rfl) rfl rfl rfl ?_)))))))
 refine VO.mv (Rn.gtr rfl rfl) rfl rfl rfl (VO.mv (Rn.move rfl) rfl rfl rfl ?_)
 refine VO.andJoin (b := _) 4 20 24 rfl (fun hc1 Jhc1 => by
   try simp only [Bool.and_eq_true, Bool.or_eq_true, Bool.not_eq_true', Bool.not_eq_false', Bool.and_eq_false_iff, Bool.or_eq_false_iff, decide_eq_true_eq, decide_eq_false_iff_not] at hc1
   refine VO.mv (Rn.move rfl) rfl rfl rfl (VO.mv (Rn.len Tryz.underlying24 rfl) rfl rfl rfl (VO.mv (Rn.leq rfl rfl) rfl rfl rfl (VO.mv (Rn.pick_true rfl rfl) rfl rfl rfl ?_)))
   exact (VO.fg rfl (VO.fg rfl (VO.fg rfl Jhc1)))) (fun hc1 Jhc1 => by
   refine VO.skip rfl rfl rfl (VO.skip rfl rfl rfl (VO.skip rfl rfl rfl (VO.mv (Rn.pick_false rfl rfl) rfl rfl rfl ?_)))
   exact (VO.fg rfl (VO.fg rfl (VO.fg rfl Jhc1)))) ?_
 refine VO.nil (VQ.then_code (VC.cond rfl (fun hc2 => ?_) (fun hc2 => ?_)))
 ·
  try simp only [Bool.and_eq_true, Bool.or_eq_true, Bool.not_eq_true', Bool.not_eq_false', Bool.and_eq_false_iff, Bool.or_eq_false_iff, decide_eq_true_eq, decide_eq_false_iff_not] at hc2
  omega
 ·
  try simp only [Bool.and_eq_true, Bool.or_eq_true, Bool.not_eq_true', Bool.not_eq_false', Bool.and_eq_false_iff, Bool.or_eq_false_iff, decide_eq_true_eq, decide_eq_false_iff_not] at hc2
  refine VC.skip (VQ.then_code (VC.seq (VC.region (VO.mv (Rn.move rfl) rfl rfl rfl (VO.wk (Wk.call Tryz.call6 rfl (law23_room _ _ _ _ _ _ fl2 (by omega) (by omega))) rfl rfl rfl ?_)))))
  rintro _ w3 ⟨r3, A3, k3, rfl, fu3, yr3, c3⟩
  have yl3 := Ow.lt fu3
  have mi := SlR.preF fu3.sl hbl (by omega)
  have z3 := c3.size
  refine VO.mv (Rn.move rfl) rfl rfl rfl (VO.mv (Rn.extract rfl rfl) rfl rfl rfl (VO.mv (Rn.extract rfl rfl) rfl rfl rfl (VO.mv (Rn.assign rfl) rfl rfl rfl (VO.mv (Rn.assign rfl) rfl rfl rfl (VO.nil (VQ.then_code (VC.seq ?_)))))))
  refine VC.region (VO.mv (Rn.move rfl) rfl rfl rfl ?_)
  have er_3 := er.keep (c1.trans (c2.trans c3))
  refine VO.wk (Wk.call Tryz.call7 rfl (cos_SumB _ n _ B E _ hn1 er_3)) rfl rfl rfl ?_
  rintro _ w4 ⟨rfl, c4⟩
  have z4 := c4.size
  refine VO.mv (Rn.move rfl) rfl rfl rfl (VO.mv (Rn.extract rfl rfl) rfl rfl rfl (VO.mv (Rn.extract rfl rfl) rfl rfl rfl (VO.mv (Rn.assign rfl) rfl rfl rfl (VO.mv (Rn.assign rfl) rfl rfl rfl (VO.nil (VQ.then_code (VC.seq ?_)))))))
  refine VC.region (VO.mv (Rn.move rfl) rfl rfl rfl ?_)
  have er_4 := er_3.keep c4
  refine VO.wk (Wk.call Tryz.call7 rfl (cos_SumB _ n _ B E _ hn1 er_4)) rfl rfl rfl ?_
  rintro _ w5 ⟨rfl, c5⟩
  have z5 := c5.size
  refine VO.mv (Rn.move rfl) rfl rfl rfl (VO.mv (Rn.extract rfl rfl) rfl rfl rfl (VO.mv (Rn.extract rfl rfl) rfl rfl rfl (VO.mv (Rn.assign rfl) rfl rfl rfl (VO.mv (Rn.assign rfl) rfl rfl rfl (VO.nil (VQ.then_code (VC.seq ?_)))))))
  refine VC.region (VO.mv (Rn.move rfl) rfl rfl rfl (VO.wk (Wk.call Tryz.call8 rfl (ref23_SumB _ n _ _ hn1)) rfl rfl rfl ?_))
  rintro _ w6 ⟨rfl, c6⟩
  have z6 := c6.size
  refine VO.mv (Rn.move rfl) rfl rfl rfl (VO.mv (Rn.extract rfl rfl) rfl rfl rfl (VO.mv (Rn.extract rfl rfl) rfl rfl rfl (VO.mv (Rn.assign rfl) rfl rfl rfl (VO.mv (Rn.assign rfl) rfl rfl rfl (VO.nil (VQ.then_code (VC.seq ?_)))))))
  refine VC.seq (VC.region (VO.mv (Rn.move rfl) rfl rfl rfl ?_))
  have er_6 := er_4.keep (c5.trans c6)
  refine VO.wk (Wk.call Tryz.call9 rfl (num_err B E 0 6 rfl (by decide) _ er_6)) rfl rfl rfl ?_
  rintro _ w7 ⟨rfl, c7⟩
  have z7 := c7.size
  refine VO.mv (Rn.move rfl) rfl rfl rfl (VO.mv (Rn.neqF rfl rfl rfl) rfl rfl rfl (VO.mv (Rn.move rfl) rfl rfl rfl (VO.mv (Rn.move rfl) rfl rfl rfl (VO.mv (Rn.move rfl) rfl rfl rfl (VO.wk (Wk.call Tryz.call10 rfl (law23_sameG (fun _ => True) (fun _ => True) none none 0 0 0 [] [] _ (SlR.nil _ _ _) (SlR.nil _ _ _) (fun _ h => absurd h (by omega)) (by omega))) rfl rfl rfl ?_)))))
  rintro _ w8 ⟨rfl, c8⟩
  have z8 := c8.size
  refine VO.mv (Rn.not rfl) rfl rfl rfl (VO.mv (Rn.pick_false rfl rfl) rfl rfl rfl (VO.mv (Rn.move rfl) rfl rfl rfl (VO.mv (Rn.move rfl) rfl rfl rfl (VO.mv (Rn.move rfl) rfl rfl rfl ?_))))
  have fu_8 := fu3.keep (c4.trans (c5.trans (c6.trans (c7.trans c8))))
  have fl_8 := fl2.keep (c3.trans (c4.trans (c5.trans (c6.trans (c7.trans c8)))))
  refine VO.wk (Wk.call Tryz.call11 rfl (law23_kept _ _ _ _ _ _ _ _ _ fu_8 (fl_8).sl (by omega))) rfl rfl rfl ?_
  rintro _ w9 ⟨rfl, c9⟩
  have z9 := c9.size
  refine VO.mv (Rn.not rfl) rfl rfl rfl (VO.mv (Rn.pick_false rfl rfl) rfl rfl rfl (VO.nil (VQ.then_code (VC.cond_false rfl (VC.skip (VQ.then_code (VC.seq ?_)))))))
  refine VC.seq (VC.region (VO.mv (Rn.move rfl) rfl rfl rfl (VO.mv (Rn.len Tryz.underlying24 rfl) rfl rfl rfl (VO.mv (Rn.move rfl) rfl rfl rfl (VO.nil (VQ.then_code (VC.block ?_)))))))
  have CH_9 := (Ch.refl (No) w).and (c1.trans (c2.trans (c3.trans (c4.trans (c5.trans (c6.trans (c7.trans (c8.trans c9))))))))
  refine VC.loopS (σ := Nat) (fun j => [(6, .slice none 0 0), (8, .slice none 0 0), (10, .slice none 0 0), (62, .int .i64 0), (63, .int .i64 j)]) (fun j w' => j = 0 ∧ w9.heap.size ≤ w'.heap.size ∧ Ch (No) w w') (fun j => 0 - j) 0 ?_ ⟨rfl, rfl, rfl, rfl, rfl, trivial⟩ ?_
  · exact ⟨(by omega), (Nat.le_refl _), CH_9⟩
  rintro j w10 ⟨hj, hsz10, CH_10⟩
  show VC _ _ _ _ [(6, .slice none 0 0), (8, .slice none 0 0), (10, .slice none 0 0), (62, .int .i64 0), (63, .int .i64 j)] _
  refine VC.seq (VC.region (VO.mv (Rn.lss rfl rfl) rfl rfl rfl (VO.nil (VQ.then_code (VC.seq (VC.cond_if rfl (fun hc3 => ?_) (fun hc3 => ?_)))))))
  ·
   omega
  ·
   refine VC.exit (VQ.then_exit (VQ.then_exit (VQ.block_exit (VQ.then_code (VC.seq (VC.region (VO.mv (Rn.move rfl) rfl rfl rfl ?_)))))))
   refine VO.wk (Wk.lit Tryz.underlying24 inf36w79 (by decide) rfl rfl (by rfl) (by decide) (by decide) (by rfl)) rfl rfl rfl ?_
   rintro _ w11 ⟨p11, rfl, N11⟩
   have c11 := N11.ch
   have e11 := N11.p; have z11 := N11.size
   have l71 := SlR.of_new (sz := 1) (l := 1) N11 rfl
   have l71o := Ow.of_new (sz := 1) (l := 1) N11 rfl (by decide)
   refine VO.wk (Wk.append (S := _) Tryz.underlying24 inf36w79 rfl (by decide) rfl rfl (Ow.nil _ _ _) l71 (by rfl) (fun h => by simp at h) (by omega) (by simp only [maxLen]; omega)) rfl rfl rfl ?_
   rintro _ w12 ⟨r12, A12, k12, rfl, o12, c12, q12⟩
   have z12 := c12.size
   have y12 := o12.lt
   refine VO.mv (Rn.assign rfl) rfl rfl rfl (VO.nil (VQ.then_code (VC.seq ?_)))
   have yr9 : FR 36 w12 r12 A12 1 k12 [4616189618054758400] := o12
   refine VC.region (VO.mv (Rn.move rfl) rfl rfl rfl (VO.mv (Rn.move rfl) rfl rfl rfl (VO.wk (Wk.call Tryz.call10 rfl (law23_sameG (fun _ => True) (fun _ => True) none none 0 0 0 [] [] _ (SlR.nil _ _ _) (SlR.nil _ _ _) (fun _ h => absurd h (by omega)) (by omega))) rfl rfl rfl ?_)))
   rintro _ w13 ⟨rfl, c13⟩
   have z13 := c13.size
   refine VO.mv (Rn.move rfl) rfl rfl rfl (VO.mv (Rn.move rfl) rfl rfl rfl (VO.mv (Rn.move rfl) rfl rfl rfl (VO.mv (Rn.len Tryz.underlying24 rfl) rfl rfl rfl ?_)))
   refine VO.mv (Rn.sub rfl rfl (by rw [IntKind.wrap_i64]; omega)) rfl rfl rfl ?_
   have o72_13 := o12.keep c13
   refine VO.mv (Rn.indexS Tryz.underlying24 Tryz.sizeOf36 rfl rfl (o72_13.sl.ne (by omega)) (by omega) (by omega)) rfl rfl rfl ?_
   have yr_13 := yr9.keep c13
   refine VO.mv (Rn.load Tryz.isAgg36 rfl ((yr_13).sl.getF (by omega) (by omega))) rfl rfl rfl (VO.mv (Rn.feqlT rfl rfl (feq_const (congrArg cn (rfl)) (by kernel_rfl) (by kernel_rfl))) rfl rfl rfl (VO.mv (Rn.pick_true rfl rfl) rfl rfl rfl (VO.mv (Rn.assign rfl) rfl rfl rfl (VO.nil (VQ.then_code (VC.ret (VQ.ret1 rfl rfl ?_)))))))
   refine Ret.mk ?_
   have CH_11 := CH_10.and c11
   have CH_12 : Ch (No) w w12 := CH_11.then c12 (by intro q h1 h2; rcases h2 with h2 | h2 <;> first | exact h2 | (exfalso; omega) | omega)
   have CH_13 := CH_12.and c13
   exact ⟨rfl, CH_13⟩
set_option maxHeartbeats 1000000 in
set_option maxRecDepth 100000 in
theorem law_Sums_mid (SX : Nat → Prop) (X : Option Addr) (n xc : Nat) (bs : List Int) (w : World) (sx : SlR SX w X n 1 (bs.map UV)) (hX : ∀ q, SX q → q < w.heap.size) (hn : n ≤ 17592186044404) (hn1 : 150 < n ∧ n ≤ 1024) (st : StT w) (tab : TabB w.heap.size w) (hG : 24 ≤ w.heap.size) :
  Calls Tryz.prog 3 #[.slice X n xc] w (Ret (fun v w' => v = .bool true ∧ Ch No w w')) := by
 refine calls_of_VC (args := [.slice X n xc]) Tryz.func3 rfl Tryz.ntmps3 rfl (VC.seq (VC.region (VO.mv (Rn.assign rfl) rfl rfl rfl (VO.nil (VQ.then_code (VC.seq (VC.seq ?_)))))))
 refine VC.region (VO.wk (Wk.call Tryz.call4 rfl (law23_lives _ st ((tab).up (by omega)) (by omega))) rfl rfl rfl ?_)
 rintro _ w1 ⟨rfl, c1⟩
 have z1 := c1.size
 refine VO.mv (Rn.not rfl) rfl rfl rfl (VO.nil (VQ.then_code (VC.cond_false rfl (VC.skip (VQ.then_code (VC.seq (VC.region ?_)))))))
 refine VO.mv (Rn.move rfl) rfl rfl rfl ?_
 have sx_1 := sx.keep c1
 refine VO.wk (Wk.call Tryz.call5 rfl (law23_floats _ _ _ _ bs _ sx_1 (fun q hq => by have := hX q hq; omega) (by omega))) rfl rfl rfl ?_
 rintro _ w2 ⟨r2, A2, k2, rfl, fl2, yr2, c2⟩
 have yl2 := Ow.lt fl2
 have z2 := c2.size
 refine VO.mv (Rn.assign rfl) rfl rfl rfl (VO.nil (VQ.then_code (VC.seq (VC.seq (VC.region (VO.mv (Rn.move rfl) rfl rfl rfl (VO.mv (Rn.len Tryz.underlying24 rfl) rfl rfl rfl ?_)))))))
 refine VO.mv (Rn.gtr rfl rfl) rfl rfl rfl (VO.mv (Rn.move rfl) rfl rfl rfl ?_)
 refine VO.andJoin (b := _) 4 20 24 rfl (fun hc1 Jhc1 => by
   try simp only [Bool.and_eq_true, Bool.or_eq_true, Bool.not_eq_true', Bool.not_eq_false', Bool.and_eq_false_iff, Bool.or_eq_false_iff, decide_eq_true_eq, decide_eq_false_iff_not] at hc1
   refine VO.mv (Rn.move rfl) rfl rfl rfl (VO.mv (Rn.len Tryz.underlying24 rfl) rfl rfl rfl (VO.mv (Rn.leq rfl rfl) rfl rfl rfl (VO.mv (Rn.pick_true rfl rfl) rfl rfl rfl ?_)))
   exact (VO.fg rfl (VO.fg rfl (VO.fg rfl Jhc1)))) (fun hc1 Jhc1 => by
   refine VO.skip rfl rfl rfl (VO.skip rfl rfl rfl (VO.skip rfl rfl rfl (VO.mv (Rn.pick_false rfl rfl) rfl rfl rfl ?_)))
   exact (VO.fg rfl (VO.fg rfl (VO.fg rfl Jhc1)))) ?_
 refine VO.nil (VQ.then_code (VC.cond rfl (fun hc2 => ?_) (fun hc2 => ?_)))
 ·
  try simp only [Bool.and_eq_true, Bool.or_eq_true, Bool.not_eq_true', Bool.not_eq_false', Bool.and_eq_false_iff, Bool.or_eq_false_iff, decide_eq_true_eq, decide_eq_false_iff_not] at hc2
  refine VC.seq (VC.region (VO.mv (Rn.assign rfl) rfl rfl rfl (VO.nil (VQ.then_code (VC.ret (VQ.then_ret (VQ.ret1 rfl rfl ?_)))))))
  refine Ret.mk ?_
  have CH_2 := (Ch.refl (No) w).and (c1.trans c2)
  exact ⟨rfl, CH_2⟩
 ·
  try simp only [Bool.and_eq_true, Bool.or_eq_true, Bool.not_eq_true', Bool.not_eq_false', Bool.and_eq_false_iff, Bool.or_eq_false_iff, decide_eq_true_eq, decide_eq_false_iff_not] at hc2
  omega
end Go.Tm
namespace Go.Tm
open Go.RowKit Go.Proofs Go.ChangeShapes Go.WideShapes Go.Deep
open Go.Proofs.YtbmhbmlgndhpgaaGreatDoor
theorem laidVars_at {P : Program} {w : World} : ∀ {l : List (String × DataW Unit)} {ps : List MemPlace} (i : Nat) {x : String × DataW Unit}, DataW.LaidVars P w l ps → l[i]? = some x → ∃ ps', DataW.LaidVars P w [x] ps' ∧ ps'.Sublist ps
  | [], _, _, _, _, h => by simp at h
  | (n, d) :: r, ps, 0, x, h, hi => by
    obtain ⟨g, t, cs, fuel, p, q, e1, e2, e3, e4, hr, rfl⟩ := h
    simp only [List.getElem?_cons_zero, Option.some.injEq] at hi
    subst hi
    exact ⟨_, ⟨g, t, cs, fuel, p, [], e1, e2, e3, e4, rfl, rfl⟩, by rw [List.append_nil]; exact List.sublist_append_left _ _⟩
  | (n, d) :: r, ps, i + 1, x, h, hi => by
    obtain ⟨g, t, cs, fuel, p, q, e1, e2, e3, e4, hr, rfl⟩ := h
    obtain ⟨ps', h1, h2⟩ := laidVars_at i hr (by simpa using hi)
    exact ⟨ps', h1, h2.trans (List.sublist_append_right _ _)⟩
theorem _root_.Go.laidMet.at {P : Program} {w : World} {l : List (String × DataW Unit)} {x : String × DataW Unit} (h : laidMet P l w) (i : Nat) (hi : l[i]? = some x) : laidMet P [x] w := by
  obtain ⟨ps, hl, hnd, hrows⟩ := h
  obtain ⟨ps', h1, h2⟩ := laidVars_at i hl hi
  exact ⟨ps', h1, h2.nodup hnd, fun b off hp => hrows b off (h2.subset hp)⟩
noncomputable abbrev laidL : List (String × DataW Unit) := Rows.cosineSumsRow.laid
theorem lowStar : "*" ++ "errors.errorString" = "*errors.errorString" := by decide
theorem rowErr (u : TypeId) (h : Tryz.prog.typeName? 3 u = some "*errors.errorString") : u = 247 :=
  typeName_ptr_named (nm := "errors.errorString") (by rw [lowStar]; kernel_rfl) (by kernel_rfl) (by decide) u (by rw [lowStar]; exact h)
def errTx : Nat → List UInt8
  | 0 => [116, 105, 109, 98, 114, 101, 58, 32, 108, 101, 110, 103, 116, 104]
  | 2 => [116, 105, 109, 98, 114, 101, 58, 32, 116, 111, 111, 32, 115, 104, 111, 114, 116]
  | 3 => [116, 105, 109, 98, 114, 101, 58, 32, 118, 97, 114, 105, 110, 116]
  | 4 => [116, 105, 109, 98, 114, 101, 58, 32, 108, 105, 109, 105, 116]
  | 5 => [116, 105, 109, 98, 114, 101, 58, 32, 116, 97, 105, 108]
  | 6 => [116, 105, 109, 98, 114, 101, 58, 32, 114, 97, 110, 103, 101]
  | 7 => [116, 105, 109, 98, 114, 101, 58, 32, 116, 101, 120, 116]
  | 8 => [116, 105, 109, 98, 114, 101, 58, 32, 111, 114, 100, 101, 114]
  | 9 => [116, 105, 109, 98, 114, 101, 58, 32, 112, 114, 111, 103, 114, 97, 109]
  | 10 => [116, 105, 109, 98, 114, 101, 58, 32, 115, 116, 97, 116, 101]
  | 11 => [116, 105, 109, 98, 114, 101, 58, 32, 114, 111, 111, 116]
  | 12 => [116, 105, 109, 98, 114, 101, 58, 32, 112, 101, 114, 109, 117, 116, 97, 116, 105, 111, 110]
  | 13 => [116, 105, 109, 98, 114, 101, 58, 32, 110, 117, 109, 98, 101, 114]
  | 14 => [116, 105, 109, 98, 114, 101, 58, 32, 119, 111, 114, 107, 101, 114, 115]
  | 15 => [116, 105, 109, 98, 114, 101, 58, 32, 100, 111, 110, 101]
  | 16 => [116, 105, 109, 98, 114, 101, 58, 32, 117, 110, 107, 110, 111, 119, 110]
  | 17 => [116, 105, 109, 98, 114, 101, 58, 32, 109, 111, 100, 101]
  | 18 => [116, 105, 109, 98, 114, 101, 58, 32, 99, 111, 109, 109, 97, 110, 100]
  | 19 => [116, 105, 109, 98, 114, 101, 58, 32, 101, 120, 97, 99, 116]
  | _ => []
def ErrAt (W : World) (g : Nat) : Prop := ∃ a : Addr, W.cell? ⟨g, 0, none⟩ = some (.iface 247 (.pointer (some a))) ∧ (∃ s : ByteArray, W.cell? a = some (.string s) ∧ s.data.toList = errTx g) ∧ ∃ c t, W.heap[a.block]? = some (.cells c t (0, 0))
set_option maxRecDepth 100000 in
theorem err_of {W : World} {n : String} {g : Nat} (h : laidMet Tryz.prog [(n, .iface "*errors.errorString" (.ptr (.agg [.lit (.string (errTx g))])))] W) (hg : Tryz.prog.globalNamed n = some g) (ht : (Tryz.prog.globals[g]?).map (·.type) = some 29) : ErrAt W g := by
  obtain ⟨ps, ⟨g0, t0, cs0, f0, p0, q0, hg0, ht0, hv0, hd0, _, e0⟩, _, hrows⟩ := h
  obtain rfl := Option.some.inj (hg.symm.trans hg0)
  obtain rfl := Option.some.inj (ht.symm.trans ht0)
  subst e0
  obtain ⟨l0⟩ := cs0
  have ok0 : ∀ u v, l0 = [.iface u v] → Value.okWide Tryz.prog W .any 0 u v := fun u v e => by
    subst e
    exact (hrows g 0 (by simp [MemPlace.row])).2 u v (by simpa using World.var?_cell hg0 hv0 0)
  obtain ⟨a0, s0, rfl, hc0, hs0, hz0, hp0⟩ := errorString_of_trod Tryz.underlying29 rowErr Tryz.underlying247 Tryz.underlying264 rfl rfl Tryz.underlying9 (by kernel_rfl) (by kernel_rfl) hd0 ok0
  refine ⟨a0, by simpa using World.var?_cell hg0 hv0 0, ⟨s0, hc0, hs0⟩, ?_⟩
  have hm : MemPlace.cell a0.block a0.off ∈ MemPlace.row a0 1 := by simp [MemPlace.row]
  exact (hrows a0.block a0.off (by rw [hp0]; simp [MemPlace.row])).1
set_option maxRecDepth 100000 in
theorem errs_of {W : World} (h : laidMet Tryz.prog laidL W) : ∀ g, g ∈ errGs → ErrAt W g := by
  simp only [errGs, List.forall_mem_cons]
  exact ⟨err_of (n := "timbre/api.ErrLength") (h.at 9 rfl) (by kernel_rfl) (by kernel_rfl), err_of (n := "timbre/api.ErrShort") (h.at 3 rfl) (by kernel_rfl) (by kernel_rfl), err_of (n := "timbre/api.ErrVarint") (h.at 4 rfl) (by kernel_rfl) (by kernel_rfl), err_of (n := "timbre/api.ErrLimit") (h.at 5 rfl) (by kernel_rfl) (by kernel_rfl), err_of (n := "timbre/api.ErrTail") (h.at 6 rfl) (by kernel_rfl) (by kernel_rfl), err_of (n := "timbre/api.ErrRange") (h.at 7 rfl) (by kernel_rfl) (by kernel_rfl), err_of (n := "timbre/api.ErrText") (h.at 8 rfl) (by kernel_rfl) (by kernel_rfl), err_of (n := "timbre/api.ErrOrder") (h.at 10 rfl) (by kernel_rfl) (by kernel_rfl), err_of (n := "timbre/api.ErrProgram") (h.at 11 rfl) (by kernel_rfl) (by kernel_rfl), err_of (n := "timbre/api.ErrState") (h.at 12 rfl) (by kernel_rfl) (by kernel_rfl), err_of (n := "timbre/api.ErrRoot") (h.at 13 rfl) (by kernel_rfl) (by kernel_rfl), err_of (n := "timbre/api.ErrPerm") (h.at 14 rfl) (by kernel_rfl) (by kernel_rfl), err_of (n := "timbre/api.ErrNumber") (h.at 15 rfl) (by kernel_rfl) (by kernel_rfl), err_of (n := "timbre/api.ErrWorkers") (h.at 16 rfl) (by kernel_rfl) (by kernel_rfl), err_of (n := "timbre/api.ErrDone") (h.at 17 rfl) (by kernel_rfl) (by kernel_rfl), err_of (n := "timbre/api.ErrUnknown") (h.at 18 rfl) (by kernel_rfl) (by kernel_rfl), err_of (n := "timbre/api.ErrMode") (h.at 19 rfl) (by kernel_rfl) (by kernel_rfl), err_of (n := "timbre/api.ErrCommand") (h.at 20 rfl) (by kernel_rfl) (by kernel_rfl), err_of (n := "timbre/api.ErrExact") (h.at 21 rfl) (by kernel_rfl) (by kernel_rfl), fun _ h => absurd h (List.not_mem_nil)⟩
theorem errT_of {W : World} (h : laidMet Tryz.prog laidL W) (hgn : 24 ≤ W.heap.size) : ∃ E, ErrT W.heap.size E W := by
  have h0 : ∀ g, ∃ a : Addr, g ∈ errGs → W.cell? ⟨g, 0, none⟩ = some (.iface 247 (.pointer (some a))) ∧ (∃ s : ByteArray, W.cell? a = some (.string s) ∧ s.data.toList = errTx g) ∧ ∃ c t, W.heap[a.block]? = some (.cells c t (0, 0)) := by
    intro g
    by_cases hg : g ∈ errGs
    · obtain ⟨a, ha⟩ := errs_of h g hg
      exact ⟨a, fun _ => ha⟩
    · exact ⟨⟨0, 0, none⟩, fun hg' => absurd hg' hg⟩
  obtain ⟨E, hE⟩ := Classical.axiomOfChoice h0
  refine ⟨E, ⟨fun g hg => (hE g hg).1, fun g hg => ?_, hgn, fun g k hg hk e => ?_⟩⟩
  · obtain ⟨c, t, hc⟩ := (hE g hg).2.2
    exact ⟨blk_lt hc, c, t, hc⟩
  · obtain ⟨s, h1, h2⟩ := (hE g hg).2.1
    obtain ⟨s', h3, h4⟩ := (hE k hk).2.1
    rw [e, h3] at h1
    have hs : s' = s := by simpa using h1
    subst hs
    exact (by decide : ∀ g ∈ errGs, ∀ k ∈ errGs, errTx g = errTx k → g = k) g hg k hk (h2.symm.trans h4)
theorem gn_of {W : World} (h : laidMet Tryz.prog laidL W) : 24 ≤ W.heap.size := by
  obtain ⟨ps, ⟨g0, t0, cs0, f0, p0, q0, hg0, ht0, hv0, hd0, _, e0⟩, _, hrows⟩ := h.at 1 rfl
  have hg : Tryz.prog.globalNamed "math/bits.deBruijn64tab" = some 23 := by kernel_rfl
  obtain rfl := Option.some.inj (hg.symm.trans hg0)
  unfold World.var? at hv0
  rw [hg] at hv0
  simp only [Option.bind_some] at hv0
  split at hv0
  · rename_i hx
    have := blk_lt hx
    omega
  · cases hv0
theorem tab_of {W : World} (h : laidMet Tryz.prog laidL W) (hgn : 24 ≤ W.heap.size) : TabB W.heap.size W := by
  have hg : Tryz.prog.globalNamed "internal/strconv.uint64pow10" = some 21 := by kernel_rfl
  refine ⟨Lib.tabIs_of_head hg (by kernel_rfl) Tryz.underlying240 Tryz.underlying38 (by kernel_rfl) (by kernel_rfl) (h.at 2 (by kernel_rfl)), fun g e => ?_⟩
  obtain rfl := Option.some.inj (hg.symm.trans e)
  omega
section
variable {H : Type} {enc : TypeId × Value → H} {P : Program} {w : World} {base : Nat} {spare : Nat → Bool} {held : Bool}
theorem struct_cells {e : TypeId} {fs : Array Field} {fuel : Nat} {cs : List Value} {x : DataW H × List MemPlace} (he : P.underlying e = some (.struct fs))
    (hone : oneCellFields P fs = true) (hC : P.cellsOf e = fs.size) (h : DataW.trod enc P w base spare held fuel e cs = some x) :
    ∃ (ys : List (DataW H × List MemPlace)) (n : Nat), x.1 = .agg (ys.map (·.1)) ∧ cs.length = fs.size ∧ ∀ (j : Nat) (f : Field), fs[j]? = some f → ∃ (v : Value) (y : DataW H × List MemPlace), cs[j]? = some v ∧ ys[j]? = some y ∧ DataW.trod enc P w base spare held n f.type [v] = some y := by
  obtain ⟨ys, n', hn', hy, hlen, hyl, hf⟩ := DataW.trod_struct he h
  rw [hC] at hlen
  refine ⟨ys, n', by rw [hy], hlen, fun j f hj => ?_⟩
  obtain ⟨ho, hk⟩ := hone_of hone j f hj
  have hjl : j < fs.size := (Array.getElem?_eq_some_iff.1 hj).1
  have hv : cs[j]? = some (cs[j]'(by omega)) := List.getElem?_eq_getElem (by omega)
  have h1 := hf j f hj
  rw [ho, hk] at h1
  have hone' : (cs.drop j).take 1 = [cs[j]'(by omega)] := by
    rw [List.drop_eq_getElem_cons (by omega)]
    rfl
  rw [hone'] at h1
  have hys : ys[j]? = some (ys[j]'(by omega)) := List.getElem?_eq_getElem (by omega)
  exact ⟨_, _, hv, hys, h1.trans hys⟩
end
def stL : List (List UInt8 × Bool × Bool × Int × Bool) := [([], false, false, 0, false), ([103, 97, 116, 104, 101, 114], true, true, 0, false), ([115, 99, 97, 116, 116, 101, 114], true, true, 0, false), ([122, 101, 114, 111], false, false, 0, false), ([116, 119, 105, 115, 116], false, false, 16384, true), ([102, 108, 121], false, true, 5, false), ([100, 105, 114, 101, 99, 116], true, true, 64, false), ([99, 104, 105, 114, 112], false, false, 16384, false), ([102, 105, 108, 108], false, false, 16384, false), ([116, 105, 109, 101, 115], true, false, 0, false), ([99, 111, 110, 106], false, false, 0, false), ([111, 118, 101, 114], false, false, 16384, false)]
def stD : List (DataW Unit) := stL.map fun e => .agg [.lit (.string e.1), .lit (.bool e.2.1), .lit (.bool e.2.2.1), .lit (.int .i64 e.2.2.2.1), .lit (.bool e.2.2.2.2)]
def stK (i : Fin 12) : Bool := match stL[i.1]? with
  | some e => e.2.1 == kSrc i.1 && e.2.2.1 == kJmp i.1 && e.2.2.2.1 == kN i.1 && e.2.2.2.2 == kK i.1
  | none => false
theorem stK_spec {i : Nat} (hi : i < 12) (h : stK ⟨i, hi⟩ = true) : ∃ t, stD[i]? = some (.agg [.lit (.string t), .lit (.bool (kSrc i)), .lit (.bool (kJmp i)), .lit (.int .i64 (kN i)), .lit (.bool (kK i))]) := by
  unfold stK at h
  split at h
  · rename_i e he
    simp only [Bool.and_eq_true, beq_iff_eq] at h
    obtain ⟨⟨⟨h1, h2⟩, h3⟩, h4⟩ := h
    exact ⟨e.1, by rw [stD, List.getElem?_map, he, ← h1, ← h2, ← h3, ← h4]; rfl⟩
  · cases h
theorem add_glob (g k : Nat) : (⟨g, 0, none⟩ : Addr).add k = ⟨g, k, none⟩ := by
  by_cases hk : k = 0
  · subst hk; rfl
  · simp [Addr.add, hk]
theorem st_of {W : World} (h : laidMet Tryz.prog laidL W) : StT W := by
  obtain ⟨ps, ⟨g0, t0, cs0, f0, p0, q0, hg0, ht0, hv0, hd0, _, e0⟩, _, _⟩ := h.at 22 rfl
  obtain rfl := Option.some.inj ((show Tryz.prog.globalNamed "timbre/steps.table" = some 20 by kernel_rfl).symm.trans hg0)
  obtain rfl := Option.some.inj ((show (Tryz.prog.globals[20]?).map (·.type) = some 180 by kernel_rfl).symm.trans ht0)
  obtain ⟨xs, m1, rfl, hx1, hlen, hn12, hel⟩ := DataW.trod_array Tryz.underlying180 hd0
  have hxs := congrArg Prod.fst hx1
  have ck : Tryz.prog.cellsOf 179 = 5 := by kernel_rfl
  have c9 : Tryz.prog.cellsOf 9 = 1 := by kernel_rfl
  have c4 : Tryz.prog.cellsOf 4 = 1 := by kernel_rfl
  have c3 : Tryz.prog.cellsOf 3 = 1 := by kernel_rfl
  have key : ∀ (i : Nat) (t : List UInt8) (a b : Bool) (n : Int) (k : Bool), (xs.map (·.1))[i]? = some (.agg [.lit (.string t), .lit (.bool a), .lit (.bool b), .lit (.int .i64 n), .lit (.bool k)]) →
      ∃ s : ByteArray, CaR (· < 24) W ((⟨20, 0, none⟩ : Addr).add (i * 5)) [.string s, .bool a, .bool b, .int .i64 n, .bool k] := by
    intro i t a b n k hi
    rw [List.getElem?_map, Option.map_eq_some_iff] at hi
    obtain ⟨x, hx, hxd⟩ := hi
    have hi12 : i < 12 := by have := (List.getElem?_eq_some_iff.1 hx).1; omega
    have h1 := hel i hi12
    rw [hx, ck] at h1
    obtain ⟨ys, n', hy, hcl, hf⟩ := struct_cells Tryz.underlying179 (by kernel_rfl) (by kernel_rfl) h1
    obtain ⟨v0, y0, g0, k0, f0⟩ := hf 0 _ rfl
    obtain ⟨v1, y1, g1, k1, f1⟩ := hf 1 _ rfl
    obtain ⟨v2, y2, g2, k2, f2⟩ := hf 2 _ rfl
    obtain ⟨v3, y3, g3, k3, f3⟩ := hf 3 _ rfl
    obtain ⟨v4, y4, g4, k4, f4⟩ := hf 4 _ rfl
    obtain ⟨s, e0', e0'', _⟩ := DataW.trod_string Tryz.underlying9 f0
    obtain ⟨b1, e1', e1''⟩ := DataW.trod_bool Tryz.underlying4 f1
    obtain ⟨b2, e2', e2''⟩ := DataW.trod_bool Tryz.underlying4 f2
    obtain ⟨z3, e3', e3'', _⟩ := DataW.trod_int Tryz.underlying3 f3
    obtain ⟨b4, e4', e4''⟩ := DataW.trod_bool Tryz.underlying4 f4
    rw [hy] at hxd
    simp only [DataW.agg.injEq] at hxd
    subst e0'' e1'' e2'' e3'' e4''
    have q1 := congrArg (fun l => l[1]?) hxd; have q2 := congrArg (fun l => l[2]?) hxd; have q3 := congrArg (fun l => l[3]?) hxd; have q4 := congrArg (fun l => l[4]?) hxd
    simp only [List.getElem?_map, k1, k2, k3, k4, Option.map_some, List.getElem?_cons_succ, List.getElem?_cons_zero, Option.some.injEq, DataW.lit.injEq, Lit.bool.injEq, Lit.int.injEq, true_and] at q1 q2 q3 q4
    subst q1 q2 q3 q4
    simp only [List.cons.injEq, and_true] at e0' e1' e2' e3' e4'
    subst e0' e1' e2' e3' e4'
    have cell : ∀ j v, j < 5 → ((cs0.toList.drop (i * 5)).take 5)[j]? = some v → W.cell? (((⟨20, 0, none⟩ : Addr).add (i * 5)).add j) = some v := by
      intro j v hj5 hj
      rw [List.getElem?_take, if_pos hj5, List.getElem?_drop, Array.getElem?_toList] at hj
      have := World.var?_cell hg0 hv0 (i * 5 + j)
      rw [hj] at this
      rw [← this, Go.Deep.add_add, add_glob]
    refine ⟨s, fun j v hj => ?_, by rw [add_block]; decide⟩
    match j, hj with
    | 0, hj => obtain rfl := Option.some.inj hj; exact cell 0 _ (by decide) g0
    | 1, hj => obtain rfl := Option.some.inj hj; exact cell 1 _ (by decide) g1
    | 2, hj => obtain rfl := Option.some.inj hj; exact cell 2 _ (by decide) g2
    | 3, hj => obtain rfl := Option.some.inj hj; exact cell 3 _ (by decide) g3
    | 4, hj => obtain rfl := Option.some.inj hj; exact cell 4 _ (by decide) g4
    | j + 5, hj => simp at hj
  have hD : xs.map (·.1) = stD := by
    simp only [DataW.agg.injEq, Rows.laid_timbre_steps_table] at hxs
    exact hxs.symm
  rw [hD] at key
  have all : ∀ i, ∃ s : ByteArray, i < 12 → CaR (· < 24) W ((⟨20, 0, none⟩ : Addr).add (i * 5)) [.string s, .bool (kSrc i), .bool (kJmp i), .int .i64 (kN i), .bool (kK i)] := by
    intro i
    by_cases hi : i < 12
    · have h2 := (by decide : ∀ i : Fin 12, stK i = true) ⟨i, hi⟩
      obtain ⟨t, ht⟩ := stK_spec hi h2
      obtain ⟨s, hs⟩ := key i _ _ _ _ _ ht
      exact ⟨s, fun _ => hs⟩
    · exact ⟨⟨#[]⟩, fun h => absurd h hi⟩
  obtain ⟨nm, hnm⟩ := Classical.axiomOfChoice all
  exact ⟨nm, hnm⟩
end Go.Tm
