/- Lemmas of this claim, joined by program. Walks of functions: orders. Walks of functions: an order's length and text. The planner's numbers, in plain Lean. Walks of functions: the planner's numbers. Rounds of a range over a function: the same rules inside a round; the range itself; what an iterator owes. Divisors, as the program finds them. Conditions: each lemma names its own. -/
import Derived.Test.YtbmhbmlgndhpgaaGreatDoorA01
import Derived.Lib.Hide
import Derived.Test.YtbmhbmlgndhpgaaGreatDoorProg
import Derived.RangeFuncNested
import Derived.RangeFuncWrites
import Derived.OrdersIn
set_option linter.all false
namespace Go.Tm
open Go.RowKit Go.Proofs
theorem mixed : Tryz.prog.follows .mixedOrders = true := by kernel_rfl
set_option maxRecDepth 100000 in
theorem inf84w2 : Inf Tryz.prog 84 (.agg #[.int .i64 0, .int .i64 0, .slice none 0 0]) 3 40 := ⟨Tryz.t84, Tryz.type84, rfl, rfl, rfl⟩
theorem bld84_0_1w2 {v0 v1 : Value} (h : [v0, v1].all Value.oneCell' = true) (w : World) : (Instr.build 84 ([(0, v0), (1, v1)] : List (Nat × Value)).toArray).run Tryz.prog w = .ok (.agg #[v0, v1, .slice none 0 0]) w := by
  simp only [List.all_cons, Bool.and_eq_true, List.all_nil, and_true] at h
  have hv0 := oneCell_cells (v := v0) (by simp_all)
  have hv1 := oneCell_cells (v := v1) (by simp_all)
  have h1 := fill_set (fun i => ([(0, 1), (1, 1), (2, 1)] : List (Nat × Nat))[i]?) [(0, v0), (1, v1)] [.int .i64 0, .int .i64 0, .slice none 0 0] (by simp [okF, agg_cells, hv0, hv1, Nat.beq, Nat.ble])
  simp [setF, agg_cells, hv0, hv1] at h1
  simp [Instr.build, Tryz.runUnderlying84, Tryz.zeroValue84, Tryz.sizeOf3, Tryz.sizeOf82, agg_cells, h1]
theorem bld84_0_1_2w2 {v0 v1 v2 : Value} (h : [v0, v1, v2].all Value.oneCell' = true) (w : World) : (Instr.build 84 ([(0, v0), (1, v1), (2, v2)] : List (Nat × Value)).toArray).run Tryz.prog w = .ok (.agg #[v0, v1, v2]) w := by
  simp only [List.all_cons, Bool.and_eq_true, List.all_nil, and_true] at h
  have hv0 := oneCell_cells (v := v0) (by simp_all)
  have hv1 := oneCell_cells (v := v1) (by simp_all)
  have hv2 := oneCell_cells (v := v2) (by simp_all)
  have h1 := fill_set (fun i => ([(0, 1), (1, 1), (2, 1)] : List (Nat × Nat))[i]?) [(0, v0), (1, v1), (2, v2)] [.int .i64 0, .int .i64 0, .slice none 0 0] (by simp [okF, agg_cells, hv0, hv1, hv2, Nat.beq, Nat.ble])
  simp [setF, agg_cells, hv0, hv1, hv2] at h1
  simp [Instr.build, Tryz.runUnderlying84, Tryz.zeroValue84, Tryz.sizeOf3, Tryz.sizeOf82, agg_cells, h1]
theorem bld84_0_2w2 {v0 v2 : Value} (h : [v0, v2].all Value.oneCell' = true) (w : World) : (Instr.build 84 ([(0, v0), (2, v2)] : List (Nat × Value)).toArray).run Tryz.prog w = .ok (.agg #[v0, .int .i64 0, v2]) w := by
  simp only [List.all_cons, Bool.and_eq_true, List.all_nil, and_true] at h
  have hv0 := oneCell_cells (v := v0) (by simp_all)
  have hv2 := oneCell_cells (v := v2) (by simp_all)
  have h1 := fill_set (fun i => ([(0, 1), (1, 1), (2, 1)] : List (Nat × Nat))[i]?) [(0, v0), (2, v2)] [.int .i64 0, .int .i64 0, .slice none 0 0] (by simp [okF, agg_cells, hv0, hv2, Nat.beq, Nat.ble])
  simp [setF, agg_cells, hv0, hv2] at h1
  simp [Instr.build, Tryz.runUnderlying84, Tryz.zeroValue84, Tryz.sizeOf3, Tryz.sizeOf82, agg_cells, h1]
set_option maxRecDepth 100000 in
theorem order_copied (m : Nat) : ∀ (o : Ord) (A : Option Addr) (c : Nat) (lo hi : Nat) (w : World) (_ : SizeOf.sizeOf o < m) (_ : RdK (In lo hi) w A o.kids) (_ : hi ≤ w.heap.size), Calls Tryz.prog 107 #[ordV o A c] w (Ret (fun v w' => ∃ A' c', v = ordV o A' c' ∧ RdK (In w.heap.size w'.heap.size) w' A' o.kids ∧ Ch No w w')) := by
 induction m with
 | zero => intros; omega
 | succ m ih =>
 intro o A c lo hi w hs kd hh
 refine calls_of_VC (args := [ordV o A c]) Tryz.func107 rfl Tryz.ntmps107 rfl ?_
 have kmax := kd.max
 refine VC.seq (VC.region (VO.wk (Wk.box rfl) rfl rfl rfl ?_))
 rintro _ w1 ⟨p1, rfl, N1⟩
 have c1 := N1.ch
 have e1 := N1.p; have z1 := N1.size
 have b1 := Bk.new N1
 refine VO.wk (Wk.alloc Tryz.zeroValue84) rfl rfl rfl ?_
 rintro _ w2 ⟨p2, rfl, N2⟩
 have c2 := N2.ch
 have e2 := N2.p; have z2 := N2.size
 have b2 := Bk.new N2
 refine VO.nil (VQ.then_code (VC.seq (VC.region (VO.mv (Rn.field Tryz.underlying84 rfl Tryz.sizeOf82 rfl rfl rfl) rfl rfl rfl ?_))))
 have b1_2 := b1.keep c2
 refine VO.mv (Rn.load Tryz.isAgg82 rfl (b1_2.cell rfl)) rfl rfl rfl (VO.mv (Rn.assign rfl) rfl rfl rfl (VO.nil (VQ.then_code (VC.seq (VC.region (VO.mv (Rn.field Tryz.underlying84 rfl Tryz.sizeOf82 rfl rfl rfl) rfl rfl rfl (VO.wk0 (Wk.put Tryz.sizeOf82 rfl rfl rfl rfl b1_2 rfl) rfl rfl ?_)))))))
 intro _ w3 Z3
 have c3 := Z3.ch; have z3 := Z3.size
 have b1_3 := Bk.put Z3
 refine VO.nil (VQ.then_code (VC.seq (VC.seq (VC.region (VO.mv (Rn.move rfl) rfl rfl rfl (VO.mv (Rn.len Tryz.underlying82 rfl) rfl rfl rfl (VO.mv (Rn.move rfl) rfl rfl rfl ?_)))))))
 refine VO.nil (VQ.then_code (VC.block ?_))
 have b2_3 := b2.to c3 (by first | exact id | omega)
 have cc_0_3 : Ch No w w3 := (Ch.then (E := No) (c1.and c2) c3 (by intro q h1 h2; rcases h2 with h2 | h2 <;> first | exact h2 | (exfalso; omega)))
 have kd_3 := kd.keep cc_0_3
 have CH_3 := (Ch.refl (No) w).and cc_0_3
 refine VC.loopS (σ := Nat) (fun i => [(1, .pointer (some ⟨p1, 0, none⟩)), (2, .pointer (some ⟨p2, 0, none⟩)), (9, .slice A o.kids.length c), (10, .int .i64 o.kids.length), (11, .int .i64 i)]) (fun i w' => ∃ r A1 c1 cs, i ≤ o.kids.length ∧ Bk w' p1 #[.int .i64 o.kind, .int .i64 o.n, .slice A1 i c1] 84 ∧ Bk w' p2 #[.int .i64 0, .int .i64 0, .slice none 0 0] 84 ∧ Ow w' r 84 3 A1 i c1 cs ∧ (r = 0 ∨ p2 + 1 < r) ∧ KidRow (fun q => p2 < q ∧ q < w'.heap.size ∧ r ≠ q + 1) w' cs (o.kids.take i) ∧ RdK (In lo hi) w' A o.kids ∧ Ch No w w') (fun i => o.kids.length - i) 0 ?_ ⟨rfl, rfl, rfl, rfl, rfl, trivial⟩ ?_
 · exact ⟨0, none, 0, [], Nat.zero_le _, b1_3, b2_3, Ow.nil _ _ _, .inl rfl, KidRow.nil _ _, kd_3, CH_3⟩
 rintro i w4 ⟨r, A1, c1, cs, hi_4, b1_4, b2_4, ow_4, hr_4, kw_4, kd_4, CH_4⟩
 show VC _ _ _ _ [(1, .pointer (some ⟨p1, 0, none⟩)), (2, .pointer (some ⟨p2, 0, none⟩)), (9, .slice A o.kids.length c), (10, .int .i64 o.kids.length), (11, .int .i64 i)] _
 have hln := ow_4.len; have y0 := ow_4.lt; have zc := CH_4.size; have l2 := b2_4.lt
 refine VC.seq (VC.region (VO.mv (Rn.lss rfl rfl) rfl rfl rfl (VO.nil (VQ.then_code (VC.seq (VC.cond_if rfl (fun hc1 => ?_) (fun hc1 => ?_)))))))
 ·
  refine VC.skip (VQ.then_code (VC.seq (VC.block (VC.seq ?_))))
  obtain ⟨ko, hko⟩ : ∃ ko, o.kids[i]? = some ko := ⟨_, List.getElem?_eq_getElem (by omega)⟩
  obtain ⟨kA, kc, ka, kr⟩ := kd_4.kid hko
  have hlt := kid_lt hko; have hlt2 := kids_lt o
  refine VC.region (VO.mv (Rn.indexS Tryz.underlying82 Tryz.sizeOf84 rfl rfl (kd_4.ne (by omega)) (by omega) (by omega)) rfl rfl rfl (VO.mv (Rn.loads Tryz.isAgg84 Tryz.sizeOf84 rfl rfl ka.1) rfl rfl rfl (VO.wk (Wk.alloc Tryz.zeroValue84) rfl rfl rfl ?_)))
  rintro _ w5 ⟨p5, rfl, N5⟩
  have c5 := N5.ch
  have e5 := N5.p; have z5 := N5.size
  have b5 := Bk.new N5
  refine VO.wk0 (Wk.puts Tryz.sizeOf84 rfl rfl rfl rfl b5 (Nat.le_of_ble_eq_true rfl)) rfl rfl ?_
  intro _ w6 Z6
  have c6 := Z6.ch; have z6 := Z6.size
  have b5_6 := Bk.put Z6
  refine VO.nil (VQ.then_code (VC.draws 7 [(0, true), (1, true), (2, true), (3, false), (4, false), (5, false), (6, true)] (fun w1 w' => Ch (At r) w1 w') mixed (by kernel_rfl) (fun _ _ => Ch.refl _ _) ?_))
  intro w7 D7
  have c7 := Ch.of_drew D7; have z7 := c7.size
  have cc_4_7 : Ch No w4 w7 := ((Ch.then (E := No) c5 c6 (by intro q h1 h2; rcases h2 with h2 | h2 <;> first | exact h2 | (exfalso; omega))).and c7)
  have b1_7 := b1_4.keep cc_4_7
  have b2_7 := b2_4.keep cc_4_7
  have ow_7 := ow_4.keep cc_4_7
  have ka_7 := ka.keep cc_4_7
  have b5_7 := b5_6.keep c7
  refine VH.mv (fun w' hS => Rn.field Tryz.underlying84 rfl Tryz.sizeOf82 rfl rfl rfl) rfl rfl rfl rfl (VH.mv (fun w' hS => Rn.load Tryz.isAgg82 rfl ((b1_7.to hS (by first | exact id | omega)).cell rfl)) rfl rfl rfl rfl (VH.mv (fun w' hS => Rn.loads Tryz.isAgg84 Tryz.sizeOf84 rfl rfl ((b5_7.to hS (by first | exact id | omega)).all' rfl)) rfl rfl rfl rfl ?_))
  have kr_7 := kr.keep cc_4_7
  refine VH.wk (Wk.call Tryz.call107 rfl (ih ko _ _ _ _ _ (by omega) kr_7 (by omega))) rfl rfl rfl rfl ?_
  rintro _ w8 ⟨nA8, nc8, rfl, kn8, c8⟩
  have z8 := c8.size
  have RD_8 := (Ch.refl (At r) w7).and c8
  refine ⟨RD_8, ?_⟩
  refine VH.wk (Wk.lit Tryz.underlying82 inf84w2 (by decide) rfl rfl (by rfl) (by decide) (by decide) (by rfl)) rfl rfl rfl rfl ?_
  rintro _ w9 ⟨p9, rfl, N9⟩
  have c9 := N9.ch
  have e9 := N9.p; have z9 := N9.size
  have l19 := SlR.of_new (sz := 3) (l := 1) N9 rfl
  have l19o := Ow.of_new (sz := 3) (l := 1) N9 rfl (by decide)
  have RD_9 := RD_8.and c9
  refine ⟨RD_9, ?_⟩
  have ow_9 := ow_7.keep (c8.trans c9)
  refine VH.wk (Wk.append (S := _) Tryz.underlying82 inf84w2 rfl (by decide) rfl rfl ow_9 l19 (by rfl) (fun h => by simp at h) (by omega) (by simp only [maxLen]; omega)) rfl rfl rfl rfl ?_
  rintro _ w10 ⟨r10, A10, k10, rfl, o10, c10, q10⟩
  have z10 := c10.size
  have y10 := o10.lt
  have RD_10 : Ch (At r) w7 w10 := RD_9.then c10 (by intro q h1 h2; rcases h2 with h2 | h2 <;> first | exact h2 | (exfalso; omega) | omega)
  refine ⟨RD_10, ?_⟩
  refine VH.mv (fun w' hS => Rn.field Tryz.underlying84 rfl Tryz.sizeOf82 rfl rfl rfl) rfl rfl rfl rfl (VH.done ?_)
  have b1_9 := b1_7.keep (c8.trans c9)
  have b1_10 := b1_9.to c10 (by first | exact id | omega)
  refine VO.wk0 (Wk.put Tryz.sizeOf82 rfl rfl rfl rfl b1_10 rfl) rfl rfl ?_
  intro _ w11 Z11
  have c11 := Z11.ch; have z11 := Z11.size
  have b1_11 := Bk.put Z11
  refine VO.nil (VQ.noPanic (VQ.block_normal (VQ.then_code (VC.region ?_))))
  refine VO.mv (Rn.add rfl rfl (by rw [IntKind.wrap_i64]; omega)) rfl rfl rfl ?_
  refine VO.mv (Rn.move rfl) rfl rfl rfl (VO.nil ?_)
  refine VQ.round (i + 1) (by first | omega | (dsimp only; omega)) ?_ ⟨rfl, rfl, rfl, rfl, rfl, trivial⟩
  have e : (o.kids.take (i + 1)) = o.kids.take i ++ [ko] := by rw [List.take_add_one, hko]; rfl
  have b2_9 := b2_7.keep (c8.trans c9)
  have b2_10 := b2_9.to c10 (by first | exact id | omega)
  have b2_11 := b2_10.to c11 (by first | exact id | omega)
  have ow_11 := o10.to c11 (by first | exact fun _ _ _ _ => id | (intro q h1 h2 hx h3; omega))
  have cc_4_9 : Ch No w4 w9 := ((((Ch.then (E := No) c5 c6 (by intro q h1 h2; rcases h2 with h2 | h2 <;> first | exact h2 | (exfalso; omega))).and c7).and c8).and c9)
  have kd_9 := kd_4.keep cc_4_9
  have kd_10 := kd_9.to c10 (by first | exact fun _ _ _ _ => id | (intro q h1 h2 hx h3; omega))
  have kd_11 := kd_10.to c11 (by first | exact fun _ _ _ _ => id | (intro q h1 h2 hx h3; omega))
  have CH_9 := CH_4.and cc_4_9
  have CH_10 : Ch (No) w w10 := CH_9.then c10 (by intro q h1 h2; rcases h2 with h2 | h2 <;> first | exact h2 | (exfalso; omega) | omega)
  have CH_11 : Ch (No) w w11 := CH_10.then c11 (by intro q h1 h2; rcases h2 with h2 | h2 <;> first | exact h2 | (exfalso; omega) | omega)
  refine ⟨_, _, _, _, by omega, b1_11, b2_11, ow_11, by omega, ?_, kd_11, CH_11⟩
  have kw_9 := kw_4.keep cc_4_9
  have kw_10 := kw_9.to c10 (by first | exact fun _ _ _ _ => id | (intro q h1 h2 hx h3; omega))
  have kw_11 := kw_10.to c11 (by first | exact fun _ _ _ _ => id | (intro q h1 h2 hx h3; omega))
  have hl := kw_11
  rw [e]
  have hlen : cs.length = (o.kids.take i).length * 3 := by rw [List.length_take, Nat.min_eq_left (by omega)]; exact hln
  have kn_9 := kn8.keep c9
  have kn_10 := kn_9.to c10 (by first | exact fun _ _ _ _ => id | (intro q h1 h2 hx h3; omega))
  have kn_11 := kn_10.to c11 (by first | exact fun _ _ _ _ => id | (intro q h1 h2 hx h3; omega))
  exact ((hl.weak (fun q h => ⟨h.1, by omega, by omega⟩)).snoc hlen ((kn_11).weak (fun q h => ⟨by omega, by omega, by omega⟩)))
 ·
  refine VC.exit (VQ.then_exit (VQ.then_exit (VQ.block_exit (VQ.then_code (VC.seq (VC.region (VO.mv (Rn.loads Tryz.isAgg84 Tryz.sizeOf84 rfl rfl (b1_4.all' rfl)) rfl rfl rfl ?_)))))))
  refine VO.wk0 (Wk.puts Tryz.sizeOf84 rfl rfl rfl rfl b2_4 (Nat.le_of_ble_eq_true rfl)) rfl rfl ?_
  intro _ w12 Z12
  have c12 := Z12.ch; have z12 := Z12.size
  have b2_12 := Bk.put Z12
  refine VO.nil (VQ.then_code (VC.ret (VQ.retc rfl rfl Tryz.isAgg84 Tryz.sizeOf84 rfl (b2_12.all' rfl) (Ret.mk ?_))))
  have hi' : i = o.kids.length := by omega
  subst hi'
  have kw_12 := kw_4.to c12 (by first | exact fun _ _ _ _ => id | (intro q h1 h2 hx h3; omega))
  have hk := kw_12
  rw [List.take_length] at hk
  have ow_12 := ow_4.to c12 (by first | exact fun _ _ _ _ => id | (intro q h1 h2 hx h3; omega))
  have CH_12 : Ch (No) w w12 := CH_4.then c12 (by intro q h1 h2; rcases h2 with h2 | h2 <;> first | exact h2 | (exfalso; omega) | omega)
  have yl := ow_12.lt; have zz := CH_12.size
  exact ⟨_, _, rfl, ((hk.weak (fun q h => ⟨by omega, by omega⟩)).rd (ow_12.sl.weak (fun q h => ⟨by omega, by omega⟩)) kmax), CH_12⟩
set_option maxRecDepth 100000 in
theorem order_Direct (n : Int) (w : World) :
  Calls Tryz.prog 101 #[.int .i64 n] w (Ret (fun v w' => v = ordV (.mk 1 n []) none 0 ∧ Ch No w w')) := by
 refine calls_of_VC (args := [.int .i64 n]) Tryz.func101 rfl Tryz.ntmps101 rfl (VC.seq (VC.region (VO.wk (Wk.alloc Tryz.zeroValue84) rfl rfl rfl ?_)))
 rintro _ w1 ⟨p1, rfl, N1⟩
 have c1 := N1.ch
 have e1 := N1.p; have z1 := N1.size
 have b2 := Bk.new N1
 refine VO.nil (VQ.then_code (VC.seq (VC.region (VO.mv (Rn.move rfl) rfl rfl rfl (VO.mv (Rn.build rfl (bld84_0_1w2 rfl)) rfl rfl rfl (VO.wk0 (Wk.puts Tryz.sizeOf84 rfl rfl rfl rfl b2 (Nat.le_of_ble_eq_true rfl)) rfl rfl ?_))))))
 intro _ w2 Z2
 have c2 := Z2.ch; have z2 := Z2.size
 have b2_2 := Bk.put Z2
 refine VO.nil (VQ.then_code (VC.ret (VQ.retc rfl rfl Tryz.isAgg84 Tryz.sizeOf84 rfl (b2_2.all' rfl) (Ret.mk ?_))))
 have cc_0_2 : Ch No w w2 := (Ch.then (E := No) c1 c2 (by intro q h1 h2; rcases h2 with h2 | h2 <;> first | exact h2 | (exfalso; omega)))
 have CH_2 := (Ch.refl (No) w).and cc_0_2
 exact ⟨rfl, CH_2⟩
set_option maxRecDepth 100000 in
theorem order_Fly (n : Int) (w : World) :
  Calls Tryz.prog 103 #[.int .i64 n] w (Ret (fun v w' => v = ordV (.mk 2 n []) none 0 ∧ Ch No w w')) := by
 refine calls_of_VC (args := [.int .i64 n]) Tryz.func103 rfl Tryz.ntmps103 rfl (VC.seq (VC.region (VO.wk (Wk.alloc Tryz.zeroValue84) rfl rfl rfl ?_)))
 rintro _ w1 ⟨p1, rfl, N1⟩
 have c1 := N1.ch
 have e1 := N1.p; have z1 := N1.size
 have b2 := Bk.new N1
 refine VO.nil (VQ.then_code (VC.seq (VC.region (VO.mv (Rn.move rfl) rfl rfl rfl (VO.mv (Rn.build rfl (bld84_0_1w2 rfl)) rfl rfl rfl (VO.wk0 (Wk.puts Tryz.sizeOf84 rfl rfl rfl rfl b2 (Nat.le_of_ble_eq_true rfl)) rfl rfl ?_))))))
 intro _ w2 Z2
 have c2 := Z2.ch; have z2 := Z2.size
 have b2_2 := Bk.put Z2
 refine VO.nil (VQ.then_code (VC.ret (VQ.retc rfl rfl Tryz.isAgg84 Tryz.sizeOf84 rfl (b2_2.all' rfl) (Ret.mk ?_))))
 have cc_0_2 : Ch No w w2 := (Ch.then (E := No) c1 c2 (by intro q h1 h2; rcases h2 with h2 | h2 <;> first | exact h2 | (exfalso; omega)))
 have CH_2 := (Ch.refl (No) w).and cc_0_2
 exact ⟨rfl, CH_2⟩
set_option maxRecDepth 100000 in
theorem order_Times (a b : Ord) (A B : Option Addr) (c e : Nat) (lo hi lo2 hi2 : Nat) (w : World) (kd : RdK (In lo hi) w A a.kids) (hh : hi ≤ w.heap.size) (kb : RdK (In lo2 hi2) w B b.kids) (hh2 : hi2 ≤ w.heap.size) :
  Calls Tryz.prog 74 #[ordV a A c, ordV b B e] w (Ret (fun v w' => ∃ C f, v = ordV (.mk 3 0 [a, b]) C f ∧ RdK (In w.heap.size w'.heap.size) w' C [a, b] ∧ Ch No w w')) := by
 refine calls_of_VC (args := [ordV a A c, ordV b B e]) Tryz.func74 rfl Tryz.ntmps74 rfl (VC.seq (VC.region (VO.wk (Wk.box rfl) rfl rfl rfl ?_)))
 rintro _ w1 ⟨p1, rfl, N1⟩
 have c1 := N1.ch
 have e1 := N1.p; have z1 := N1.size
 have b2 := Bk.new N1
 refine VO.wk (Wk.box rfl) rfl rfl rfl ?_
 rintro _ w2 ⟨p2, rfl, N2⟩
 have c2 := N2.ch
 have e2 := N2.p; have z2 := N2.size
 have b3 := Bk.new N2
 refine VO.wk (Wk.alloc Tryz.zeroValue84) rfl rfl rfl ?_
 rintro _ w3 ⟨p3, rfl, N3⟩
 have c3 := N3.ch
 have e3 := N3.p; have z3 := N3.size
 have b4 := Bk.new N3
 refine VO.nil (VQ.then_code (VC.seq (VC.draws 6 [(0, true), (2, true), (1, false), (3, false), (4, false), (5, true)] (fun w1 w' => Ch (No) w1 w') mixed (by kernel_rfl) (fun _ _ => Ch.refl _ _) ?_)))
 intro w4 D4
 have c4 := Ch.of_drew D4; have z4 := c4.size
 have b2_4 := b2.keep (c2.trans (c3.trans c4))
 have b3_4 := b3.keep (c3.trans c4)
 have b4_4 := b4.keep c4
 refine VH.mv (fun w' hS => Rn.loads Tryz.isAgg84 Tryz.sizeOf84 rfl rfl ((b2_4.keep hS).all' rfl)) rfl rfl rfl rfl (VH.mv (fun w' hS => Rn.loads Tryz.isAgg84 Tryz.sizeOf84 rfl rfl ((b3_4.keep hS).all' rfl)) rfl rfl rfl rfl ?_)
 have kd_4 := kd.keep (c1.trans (c2.trans (c3.trans c4)))
 refine VH.wk (Wk.call Tryz.call107 rfl (order_copied _ _ _ _ _ _ _ (Nat.lt_succ_self _) kd_4 (by omega))) rfl rfl rfl rfl ?_
 rintro _ w5 ⟨nA5, nc5, rfl, kn5, c5⟩
 have z5 := c5.size
 have RD_5 := (Ch.refl (No) w4).and c5
 refine ⟨RD_5, ?_⟩
 have kb_5 := kb.keep (c1.trans (c2.trans (c3.trans (c4.trans c5))))
 refine VH.wk (Wk.call Tryz.call107 rfl (order_copied _ _ _ _ _ _ _ (Nat.lt_succ_self _) kb_5 (by omega))) rfl rfl rfl rfl ?_
 rintro _ w6 ⟨nA6, nc6, rfl, kn6, c6⟩
 have z6 := c6.size
 have RD_6 := RD_5.and c6
 refine ⟨RD_6, ?_⟩
 refine VH.wk (Wk.lit Tryz.underlying82 inf84w2 (by decide) rfl rfl (by rfl) (by decide) (by decide) (by rfl)) rfl rfl rfl rfl ?_
 rintro _ w7 ⟨p7, rfl, N7⟩
 have c7 := N7.ch
 have e7 := N7.p; have z7 := N7.size
 have l9 := SlR.of_new (sz := 3) (l := 2) N7 rfl
 have l9o := Ow.of_new (sz := 3) (l := 2) N7 rfl (by decide)
 have RD_7 := RD_6.and c7
 refine ⟨RD_7, ?_⟩
 refine VH.mv (fun w' hS => Rn.build rfl (bld84_0_2w2 rfl)) rfl rfl rfl rfl (VH.done ?_)
 have b4_7 := b4_4.keep (c5.trans (c6.trans c7))
 refine VO.wk0 (Wk.puts Tryz.sizeOf84 rfl rfl rfl rfl b4_7 (Nat.le_of_ble_eq_true rfl)) rfl rfl ?_
 intro _ w8 Z8
 have c8 := Z8.ch; have z8 := Z8.size
 have b4_8 := Bk.put Z8
 refine VO.nil (VQ.noPanic (VQ.then_code (VC.ret (VQ.retc rfl rfl Tryz.isAgg84 Tryz.sizeOf84 rfl (b4_8.all' rfl) (Ret.mk ?_)))))
 have cc_0_8 : Ch No w w8 := (Ch.then (E := No) ((((((c1.and c2).and c3).and c4).and c5).and c6).and c7) c8 (by intro q h1 h2; rcases h2 with h2 | h2 <;> first | exact h2 | (exfalso; omega)))
 have CH_8 := (Ch.refl (No) w).and cc_0_8
 have zz := CH_8.size
 have ka_7 := kn5.keep (c6.trans c7)
 have ka_8 := ka_7.to c8 (by first | exact fun _ _ _ _ => id | (intro q h1 h2 hx h3; omega))
 have kc_7 := kn6.keep c7
 have kc_8 := kc_7.to c8 (by first | exact fun _ _ _ _ => id | (intro q h1 h2 hx h3; omega))
 have l9_8 := l9.to c8 (by first | exact fun _ _ _ _ => id | (intro q h1 h2 hx h3; omega))
 exact ⟨_, _, rfl, (((KidRow.nil _ _).snoc (o := a) rfl ((ka_8).weak (fun q h => ⟨by omega, by omega⟩))).snoc (o := b) rfl ((kc_8).weak (fun q h => ⟨by omega, by omega⟩))).rd ((l9_8).weak (fun q h => ⟨by omega, by omega⟩)) (by simp), CH_8⟩
set_option maxRecDepth 100000 in
theorem order_Blue (n : Int) (a : Ord) (A : Option Addr) (c : Nat) (lo hi : Nat) (w : World) (kd : RdK (In lo hi) w A a.kids) (hh : hi ≤ w.heap.size) :
  Calls Tryz.prog 78 #[.int .i64 n, ordV a A c] w (Ret (fun v w' => ∃ C f, v = ordV (.mk 4 n [a]) C f ∧ RdK (In w.heap.size w'.heap.size) w' C [a] ∧ Ch No w w')) := by
 refine calls_of_VC (args := [.int .i64 n, ordV a A c]) Tryz.func78 rfl Tryz.ntmps78 rfl (VC.seq (VC.region (VO.wk (Wk.box rfl) rfl rfl rfl ?_)))
 rintro _ w1 ⟨p1, rfl, N1⟩
 have c1 := N1.ch
 have e1 := N1.p; have z1 := N1.size
 have b3 := Bk.new N1
 refine VO.wk (Wk.alloc Tryz.zeroValue84) rfl rfl rfl ?_
 rintro _ w2 ⟨p2, rfl, N2⟩
 have c2 := N2.ch
 have e2 := N2.p; have z2 := N2.size
 have b4 := Bk.new N2
 refine VO.nil (VQ.then_code (VC.seq (VC.region (VO.mv (Rn.move rfl) rfl rfl rfl ?_))))
 have b3_2 := b3.keep c2
 refine VO.mv (Rn.loads Tryz.isAgg84 Tryz.sizeOf84 rfl rfl (b3_2.all' rfl)) rfl rfl rfl ?_
 have kd_2 := kd.keep (c1.trans c2)
 refine VO.wk (Wk.call Tryz.call107 rfl (order_copied _ _ _ _ _ _ _ (Nat.lt_succ_self _) kd_2 (by omega))) rfl rfl rfl ?_
 rintro _ w3 ⟨nA3, nc3, rfl, kn3, c3⟩
 have z3 := c3.size
 refine VO.wk (Wk.lit Tryz.underlying82 inf84w2 (by decide) rfl rfl (by rfl) (by decide) (by decide) (by rfl)) rfl rfl rfl ?_
 rintro _ w4 ⟨p4, rfl, N4⟩
 have c4 := N4.ch
 have e4 := N4.p; have z4 := N4.size
 have l8 := SlR.of_new (sz := 3) (l := 1) N4 rfl
 have l8o := Ow.of_new (sz := 3) (l := 1) N4 rfl (by decide)
 refine VO.mv (Rn.build rfl (bld84_0_1_2w2 rfl)) rfl rfl rfl ?_
 have b4_4 := b4.keep (c3.trans c4)
 refine VO.wk0 (Wk.puts Tryz.sizeOf84 rfl rfl rfl rfl b4_4 (Nat.le_of_ble_eq_true rfl)) rfl rfl ?_
 intro _ w5 Z5
 have c5 := Z5.ch; have z5 := Z5.size
 have b4_5 := Bk.put Z5
 refine VO.nil (VQ.then_code (VC.ret (VQ.retc rfl rfl Tryz.isAgg84 Tryz.sizeOf84 rfl (b4_5.all' rfl) (Ret.mk ?_))))
 have cc_0_5 : Ch No w w5 := (Ch.then (E := No) (((c1.and c2).and c3).and c4) c5 (by intro q h1 h2; rcases h2 with h2 | h2 <;> first | exact h2 | (exfalso; omega)))
 have CH_5 := (Ch.refl (No) w).and cc_0_5
 have zz := CH_5.size
 have ka_4 := kn3.keep c4
 have ka_5 := ka_4.to c5 (by first | exact fun _ _ _ _ => id | (intro q h1 h2 hx h3; omega))
 have l8_5 := l8.to c5 (by first | exact fun _ _ _ _ => id | (intro q h1 h2 hx h3; omega))
 exact ⟨_, _, rfl, ((KidRow.nil _ _).snoc (o := a) rfl ((ka_5).weak (fun q h => ⟨by omega, by omega⟩))).rd ((l8_5).weak (fun q h => ⟨by omega, by omega⟩)) (by simp), CH_5⟩
end Go.Tm
namespace Go.Tm
open Go.RowKit Go.Proofs
set_option maxRecDepth 100000 in
theorem walker_length (m : Nat) : ∀ (o : Ord) (A : Option Addr) (c : Nat) (lo hi q : Nat) (p d : Int) (w : World) (_ : SizeOf.sizeOf o < m) (_ : RdK (In lo hi) w A o.kids) (_ : hi ≤ w.heap.size) (_ : q < lo ∨ hi ≤ q) (_ : Bk w q #[.int .i64 p] 189) (_ : 0 ≤ p ∧ p ≤ 4096) (_ : 1 ≤ d ∧ d ≤ 17), Calls Tryz.prog 126 #[.pointer (some ⟨q, 0, none⟩), ordV o A c, .int .i64 d] w (Ret (fun v w' => v = .int .i64 (wl o p d).2 ∧ Bk w' q #[.int .i64 (wl o p d).1] 189 ∧ Ch (Is q) w w')) := by
 induction m with
 | zero => intros; omega
 | succ m ih =>
 intro o A c lo hi q p d w hs kd hh hq bq hp hd
 refine calls_of_VC (args := [.pointer (some ⟨q, 0, none⟩), ordV o A c, .int .i64 d]) Tryz.func126 rfl Tryz.ntmps126 rfl ?_
 have lq := bq.lt; have hk0 := kids_lt o
 refine VC.seq (VC.region (VO.wk (Wk.box rfl) rfl rfl rfl ?_))
 rintro _ w1 ⟨p1, rfl, N1⟩
 have c1 := N1.ch
 have e1 := N1.p; have z1 := N1.size
 have b4 := Bk.new N1
 refine VO.mv (Rn.assign rfl) rfl rfl rfl (VO.nil (VQ.then_code (VC.seq (VC.region (VO.mv (Rn.move rfl) rfl rfl rfl (VO.mv (Rn.nilCheck rfl) rfl rfl rfl (VO.mv (Rn.field Tryz.underlying189 rfl Tryz.sizeOf3 rfl rfl rfl) rfl rfl rfl ?_)))))))
 have bq_1 := bq.keep c1
 refine VO.mv (Rn.load Tryz.isAgg3 rfl (bq_1.cell rfl)) rfl rfl rfl ?_
 refine VO.mv (Rn.add rfl rfl (by rw [IntKind.wrap_i64]; omega)) rfl rfl rfl ?_
 refine VO.mv (Rn.nilCheck rfl) rfl rfl rfl (VO.mv (Rn.field Tryz.underlying189 rfl Tryz.sizeOf3 rfl rfl rfl) rfl rfl rfl (VO.wk0 (Wk.put Tryz.sizeOf3 rfl rfl rfl rfl bq_1 rfl) rfl rfl ?_))
 intro _ w2 Z2
 have c2 := Z2.ch; have z2 := Z2.size
 have bq_2 := Bk.put Z2
 refine VO.nil (VQ.then_code (VC.seq (VC.seq (VC.region (VO.mv (Rn.move rfl) rfl rfl rfl (VO.mv (Rn.nilCheck rfl) rfl rfl rfl (VO.mv (Rn.field Tryz.underlying189 rfl Tryz.sizeOf3 rfl rfl rfl) rfl rfl rfl ?_)))))))
 refine VO.mv (Rn.load Tryz.isAgg3 rfl (bq_2.cell rfl)) rfl rfl rfl (VO.mv (Rn.gtr rfl rfl) rfl rfl rfl (VO.mv (Rn.move rfl) rfl rfl rfl ?_))
 refine VO.orJoin (b := _) 3 21 24 rfl (fun hc1 Jhc1 => by
   refine VO.skip rfl rfl rfl (VO.skip rfl rfl rfl (VO.mv (Rn.pick_true rfl rfl) rfl rfl rfl ?_))
   exact (VO.fg rfl (VO.fg rfl Jhc1))) (fun hc1 Jhc1 => by
   try simp only [Bool.and_eq_true, Bool.or_eq_true, Bool.not_eq_true', Bool.not_eq_false', Bool.and_eq_false_iff, Bool.or_eq_false_iff, decide_eq_true_eq, decide_eq_false_iff_not] at hc1
   refine VO.mv (Rn.move rfl) rfl rfl rfl (VO.mv (Rn.gtr rfl rfl) rfl rfl rfl (VO.mv (Rn.pick_false rfl rfl) rfl rfl rfl ?_))
   exact (VO.fg rfl (VO.fg rfl Jhc1))) ?_
 refine VO.nil (VQ.then_code (VC.cond rfl (fun hc2 => ?_) (fun hc2 => ?_)))
 ·
  try simp only [Bool.and_eq_true, Bool.or_eq_true, Bool.not_eq_true', Bool.not_eq_false', Bool.and_eq_false_iff, Bool.or_eq_false_iff, decide_eq_true_eq, decide_eq_false_iff_not] at hc2
  have hx : p + 1 > 4096 ∨ d > 16 := by omega
  refine VC.seq (VC.region (VO.mv (Rn.assign rfl) rfl rfl rfl (VO.nil (VQ.then_code (VC.ret (VQ.then_ret (VQ.ret1 rfl rfl ?_)))))))
  refine Ret.mk ?_
  rw [wl_full hx]
  have CH_1 := (Ch.refl (Is q) w).and c1
  have CH_2 : Ch (Is q) w w2 := CH_1.then c2 (by intro q h1 h2; rcases h2 with h2 | h2 <;> first | exact h2 | (exfalso; omega) | omega)
  exact ⟨rfl, bq_2, CH_2⟩
 ·
  try simp only [Bool.and_eq_true, Bool.or_eq_true, Bool.not_eq_true', Bool.not_eq_false', Bool.and_eq_false_iff, Bool.or_eq_false_iff, decide_eq_true_eq, decide_eq_false_iff_not] at hc2
  have hx : ¬ (p + 1 > 4096 ∨ d > 16) := by omega
  refine VC.skip (VQ.then_code (VC.seq (VC.block (VC.seq (VC.region (VO.mv (Rn.field Tryz.underlying84 rfl Tryz.sizeOf3 rfl rfl rfl) rfl rfl rfl ?_))))))
  have b4_2 := b4.to c2 (by first | exact id | omega)
  refine VO.mv (Rn.load Tryz.isAgg3 rfl (b4_2.cell rfl)) rfl rfl rfl (VO.mv (Rn.eql rfl rfl) rfl rfl rfl (VO.mv (Rn.move rfl) rfl rfl rfl ?_))
  refine VO.andJoin (b := _) 5 29 34 rfl (fun hc3 Jhc3 => by
    try simp only [Bool.and_eq_true, Bool.or_eq_true, Bool.not_eq_true', Bool.not_eq_false', Bool.and_eq_false_iff, Bool.or_eq_false_iff, decide_eq_true_eq, decide_eq_false_iff_not] at hc3
    refine VO.mv (Rn.field Tryz.underlying84 rfl Tryz.sizeOf82 rfl rfl rfl) rfl rfl rfl (VO.mv (Rn.load Tryz.isAgg82 rfl (b4_2.cell rfl)) rfl rfl rfl (VO.mv (Rn.len Tryz.underlying82 rfl) rfl rfl rfl (VO.mv (Rn.eql rfl rfl) rfl rfl rfl (VO.mv (Rn.pick_true rfl rfl) rfl rfl rfl ?_))))
    exact (VO.fg rfl (VO.fg rfl (VO.fg rfl (VO.fg rfl Jhc3))))) (fun hc3 Jhc3 => by
    refine VO.skip rfl rfl rfl (VO.skip rfl rfl rfl (VO.skip rfl rfl rfl (VO.skip rfl rfl rfl (VO.mv (Rn.pick_false rfl rfl) rfl rfl rfl ?_))))
    exact (VO.fg rfl (VO.fg rfl (VO.fg rfl (VO.fg rfl Jhc3))))) ?_
  refine VO.mv (Rn.move rfl) rfl rfl rfl ?_
  refine VO.andJoin (b := _) 4 35 39 rfl (fun hc4 Jhc4 => by
    try simp only [Bool.and_eq_true, Bool.or_eq_true, Bool.not_eq_true', Bool.not_eq_false', Bool.and_eq_false_iff, Bool.or_eq_false_iff, decide_eq_true_eq, decide_eq_false_iff_not] at hc4
    refine VO.mv (Rn.field Tryz.underlying84 rfl Tryz.sizeOf3 rfl rfl rfl) rfl rfl rfl (VO.mv (Rn.load Tryz.isAgg3 rfl (b4_2.cell rfl)) rfl rfl rfl (VO.mv (Rn.geq rfl rfl) rfl rfl rfl (VO.mv (Rn.pick_true rfl rfl) rfl rfl rfl ?_)))
    exact (VO.fg rfl (VO.fg rfl (VO.fg rfl Jhc4)))) (fun hc4 Jhc4 => by
    refine VO.skip rfl rfl rfl (VO.skip rfl rfl rfl (VO.skip rfl rfl rfl (VO.mv (Rn.pick_false rfl rfl) rfl rfl rfl ?_)))
    exact (VO.fg rfl (VO.fg rfl (VO.fg rfl Jhc4)))) ?_
  refine VO.mv (Rn.move rfl) rfl rfl rfl ?_
  refine VO.andJoin (b := _) 4 40 44 rfl (fun hc5 Jhc5 => by
    try simp only [Bool.and_eq_true, Bool.or_eq_true, Bool.not_eq_true', Bool.not_eq_false', Bool.and_eq_false_iff, Bool.or_eq_false_iff, decide_eq_true_eq, decide_eq_false_iff_not] at hc5
    refine VO.mv (Rn.field Tryz.underlying84 rfl Tryz.sizeOf3 rfl rfl rfl) rfl rfl rfl (VO.mv (Rn.load Tryz.isAgg3 rfl (b4_2.cell rfl)) rfl rfl rfl (VO.mv (Rn.leq rfl rfl) rfl rfl rfl (VO.mv (Rn.pick_true rfl rfl) rfl rfl rfl ?_)))
    exact (VO.fg rfl (VO.fg rfl (VO.fg rfl Jhc5)))) (fun hc5 Jhc5 => by
    refine VO.skip rfl rfl rfl (VO.skip rfl rfl rfl (VO.skip rfl rfl rfl (VO.mv (Rn.pick_false rfl rfl) rfl rfl rfl ?_)))
    exact (VO.fg rfl (VO.fg rfl (VO.fg rfl Jhc5)))) ?_
  refine VO.mv (Rn.assign rfl) rfl rfl rfl (VO.nil (VQ.then_code (VC.cond rfl (fun hc6 => ?_) (fun hc6 => ?_))))
  ·
   try simp only [Bool.and_eq_true, Bool.or_eq_true, Bool.not_eq_true', Bool.not_eq_false', Bool.and_eq_false_iff, Bool.or_eq_false_iff, decide_eq_true_eq, decide_eq_false_iff_not] at hc6
   refine VC.seq (VC.region (VO.mv (Rn.field Tryz.underlying84 rfl Tryz.sizeOf3 rfl rfl rfl) rfl rfl rfl (VO.mv (Rn.load Tryz.isAgg3 rfl (b4_2.cell rfl)) rfl rfl rfl (VO.mv (Rn.assign rfl) rfl rfl rfl (VO.nil (VQ.then_code (VC.ret ?_)))))))
   refine VQ.block_ret (VQ.then_ret (VQ.ret1 rfl rfl (Ret.mk ?_)))
   rw [wl_leaf hx (kids0 hc6.1.1.2), if_pos (by omega)]
   have CH_1 := (Ch.refl (Is q) w).and c1
   have CH_2 : Ch (Is q) w w2 := CH_1.then c2 (by intro q h1 h2; rcases h2 with h2 | h2 <;> first | exact h2 | (exfalso; omega) | omega)
   exact ⟨rfl, bq_2, CH_2⟩
  ·
   try simp only [Bool.and_eq_true, Bool.or_eq_true, Bool.not_eq_true', Bool.not_eq_false', Bool.and_eq_false_iff, Bool.or_eq_false_iff, decide_eq_true_eq, decide_eq_false_iff_not] at hc6
   refine VC.seq (VC.region (VO.mv (Rn.field Tryz.underlying84 rfl Tryz.sizeOf3 rfl rfl rfl) rfl rfl rfl (VO.mv (Rn.load Tryz.isAgg3 rfl (b4_2.cell rfl)) rfl rfl rfl (VO.mv (Rn.eql rfl rfl) rfl rfl rfl (VO.mv (Rn.move rfl) rfl rfl rfl ?_)))))
   refine VO.andJoin (b := _) 5 51 56 rfl (fun hc7 Jhc7 => by
     try simp only [Bool.and_eq_true, Bool.or_eq_true, Bool.not_eq_true', Bool.not_eq_false', Bool.and_eq_false_iff, Bool.or_eq_false_iff, decide_eq_true_eq, decide_eq_false_iff_not] at hc7
     refine VO.mv (Rn.field Tryz.underlying84 rfl Tryz.sizeOf82 rfl rfl rfl) rfl rfl rfl (VO.mv (Rn.load Tryz.isAgg82 rfl (b4_2.cell rfl)) rfl rfl rfl (VO.mv (Rn.len Tryz.underlying82 rfl) rfl rfl rfl (VO.mv (Rn.eql rfl rfl) rfl rfl rfl (VO.mv (Rn.pick_true rfl rfl) rfl rfl rfl ?_))))
     exact (VO.fg rfl (VO.fg rfl (VO.fg rfl (VO.fg rfl Jhc7))))) (fun hc7 Jhc7 => by
     refine VO.skip rfl rfl rfl (VO.skip rfl rfl rfl (VO.skip rfl rfl rfl (VO.skip rfl rfl rfl (VO.mv (Rn.pick_false rfl rfl) rfl rfl rfl ?_))))
     exact (VO.fg rfl (VO.fg rfl (VO.fg rfl (VO.fg rfl Jhc7))))) ?_
   refine VO.mv (Rn.move rfl) rfl rfl rfl ?_
   refine VO.andJoin (b := _) 4 57 61 rfl (fun hc8 Jhc8 => by
     try simp only [Bool.and_eq_true, Bool.or_eq_true, Bool.not_eq_true', Bool.not_eq_false', Bool.and_eq_false_iff, Bool.or_eq_false_iff, decide_eq_true_eq, decide_eq_false_iff_not] at hc8
     refine VO.mv (Rn.field Tryz.underlying84 rfl Tryz.sizeOf3 rfl rfl rfl) rfl rfl rfl (VO.mv (Rn.load Tryz.isAgg3 rfl (b4_2.cell rfl)) rfl rfl rfl (VO.mv (Rn.geq rfl rfl) rfl rfl rfl (VO.mv (Rn.pick_true rfl rfl) rfl rfl rfl ?_)))
     exact (VO.fg rfl (VO.fg rfl (VO.fg rfl Jhc8)))) (fun hc8 Jhc8 => by
     refine VO.skip rfl rfl rfl (VO.skip rfl rfl rfl (VO.skip rfl rfl rfl (VO.mv (Rn.pick_false rfl rfl) rfl rfl rfl ?_)))
     exact (VO.fg rfl (VO.fg rfl (VO.fg rfl Jhc8)))) ?_
   refine VO.mv (Rn.move rfl) rfl rfl rfl ?_
   refine VO.andJoin (b := _) 4 62 66 rfl (fun hc9 Jhc9 => by
     try simp only [Bool.and_eq_true, Bool.or_eq_true, Bool.not_eq_true', Bool.not_eq_false', Bool.and_eq_false_iff, Bool.or_eq_false_iff, decide_eq_true_eq, decide_eq_false_iff_not] at hc9
     refine VO.mv (Rn.field Tryz.underlying84 rfl Tryz.sizeOf3 rfl rfl rfl) rfl rfl rfl (VO.mv (Rn.load Tryz.isAgg3 rfl (b4_2.cell rfl)) rfl rfl rfl (VO.mv (Rn.leq rfl rfl) rfl rfl rfl (VO.mv (Rn.pick_true rfl rfl) rfl rfl rfl ?_)))
     exact (VO.fg rfl (VO.fg rfl (VO.fg rfl Jhc9)))) (fun hc9 Jhc9 => by
     refine VO.skip rfl rfl rfl (VO.skip rfl rfl rfl (VO.skip rfl rfl rfl (VO.mv (Rn.pick_false rfl rfl) rfl rfl rfl ?_)))
     exact (VO.fg rfl (VO.fg rfl (VO.fg rfl Jhc9)))) ?_
   refine VO.mv (Rn.assign rfl) rfl rfl rfl (VO.nil (VQ.then_code (VC.cond rfl (fun hc10 => ?_) (fun hc10 => ?_))))
   ·
    try simp only [Bool.and_eq_true, Bool.or_eq_true, Bool.not_eq_true', Bool.not_eq_false', Bool.and_eq_false_iff, Bool.or_eq_false_iff, decide_eq_true_eq, decide_eq_false_iff_not] at hc10
    refine VC.seq (VC.region (VO.mv (Rn.field Tryz.underlying84 rfl Tryz.sizeOf3 rfl rfl rfl) rfl rfl rfl (VO.mv (Rn.load Tryz.isAgg3 rfl (b4_2.cell rfl)) rfl rfl rfl (VO.mv (Rn.assign rfl) rfl rfl rfl (VO.nil (VQ.then_code (VC.ret ?_)))))))
    refine VQ.block_ret (VQ.then_ret (VQ.ret1 rfl rfl (Ret.mk ?_)))
    rw [wl_leaf hx (kids0 hc10.1.1.2), if_neg (by omega), if_pos (by omega)]
    have CH_1 := (Ch.refl (Is q) w).and c1
    have CH_2 : Ch (Is q) w w2 := CH_1.then c2 (by intro q h1 h2; rcases h2 with h2 | h2 <;> first | exact h2 | (exfalso; omega) | omega)
    exact ⟨rfl, bq_2, CH_2⟩
   ·
    try simp only [Bool.and_eq_true, Bool.or_eq_true, Bool.not_eq_true', Bool.not_eq_false', Bool.and_eq_false_iff, Bool.or_eq_false_iff, decide_eq_true_eq, decide_eq_false_iff_not] at hc10
    refine VC.seq (VC.region (VO.mv (Rn.field Tryz.underlying84 rfl Tryz.sizeOf3 rfl rfl rfl) rfl rfl rfl (VO.mv (Rn.load Tryz.isAgg3 rfl (b4_2.cell rfl)) rfl rfl rfl (VO.mv (Rn.eql rfl rfl) rfl rfl rfl (VO.mv (Rn.move rfl) rfl rfl rfl ?_)))))
    refine VO.andJoin (b := _) 5 73 78 rfl (fun hc11 Jhc11 => by
      try simp only [Bool.and_eq_true, Bool.or_eq_true, Bool.not_eq_true', Bool.not_eq_false', Bool.and_eq_false_iff, Bool.or_eq_false_iff, decide_eq_true_eq, decide_eq_false_iff_not] at hc11
      refine VO.mv (Rn.field Tryz.underlying84 rfl Tryz.sizeOf82 rfl rfl rfl) rfl rfl rfl (VO.mv (Rn.load Tryz.isAgg82 rfl (b4_2.cell rfl)) rfl rfl rfl (VO.mv (Rn.len Tryz.underlying82 rfl) rfl rfl rfl (VO.mv (Rn.eql rfl rfl) rfl rfl rfl (VO.mv (Rn.pick_true rfl rfl) rfl rfl rfl ?_))))
      exact (VO.fg rfl (VO.fg rfl (VO.fg rfl (VO.fg rfl Jhc11))))) (fun hc11 Jhc11 => by
      refine VO.skip rfl rfl rfl (VO.skip rfl rfl rfl (VO.skip rfl rfl rfl (VO.skip rfl rfl rfl (VO.mv (Rn.pick_false rfl rfl) rfl rfl rfl ?_))))
      exact (VO.fg rfl (VO.fg rfl (VO.fg rfl (VO.fg rfl Jhc11))))) ?_
    refine VO.mv (Rn.move rfl) rfl rfl rfl ?_
    refine VO.andJoin (b := _) 4 79 83 rfl (fun hc12 Jhc12 => by
      try simp only [Bool.and_eq_true, Bool.or_eq_true, Bool.not_eq_true', Bool.not_eq_false', Bool.and_eq_false_iff, Bool.or_eq_false_iff, decide_eq_true_eq, decide_eq_false_iff_not] at hc12
      refine VO.mv (Rn.field Tryz.underlying84 rfl Tryz.sizeOf3 rfl rfl rfl) rfl rfl rfl (VO.mv (Rn.load Tryz.isAgg3 rfl (b4_2.cell rfl)) rfl rfl rfl (VO.mv (Rn.eql rfl rfl) rfl rfl rfl (VO.mv (Rn.pick_true rfl rfl) rfl rfl rfl ?_)))
      exact (VO.fg rfl (VO.fg rfl (VO.fg rfl Jhc12)))) (fun hc12 Jhc12 => by
      refine VO.skip rfl rfl rfl (VO.skip rfl rfl rfl (VO.skip rfl rfl rfl (VO.mv (Rn.pick_false rfl rfl) rfl rfl rfl ?_)))
      exact (VO.fg rfl (VO.fg rfl (VO.fg rfl Jhc12)))) ?_
    refine VO.mv (Rn.assign rfl) rfl rfl rfl (VO.nil (VQ.then_code (VC.cond rfl (fun hc13 => ?_) (fun hc13 => ?_))))
    ·
     try simp only [Bool.and_eq_true, Bool.or_eq_true, Bool.not_eq_true', Bool.not_eq_false', Bool.and_eq_false_iff, Bool.or_eq_false_iff, decide_eq_true_eq, decide_eq_false_iff_not] at hc13
     refine VC.seq ?_
     obtain ⟨a, b, ha, hb, e⟩ := kids2 hc13.1.2
     have la := kid_lt ha; have lb := kid_lt hb
     have ia := wl_bd _ a (p + 1) (d + 1) (Nat.lt_succ_self _) (by omega) (by omega)
     have kd_1 := kd.keep c1
     have kd_2 := kd_1.to c2 (by first | exact fun _ _ _ _ => id | (intro q h1 h2 hx h3; omega))
     obtain ⟨kA, kc, ka, kr⟩ := kd_2.kid ha
     refine VC.region (VO.mv (Rn.move rfl) rfl rfl rfl (VO.mv (Rn.field Tryz.underlying84 rfl Tryz.sizeOf82 rfl rfl rfl) rfl rfl rfl (VO.mv (Rn.load Tryz.isAgg82 rfl (b4_2.cell rfl)) rfl rfl rfl (VO.mv (Rn.indexS Tryz.underlying82 Tryz.sizeOf84 rfl rfl (kd_2.ne (by omega)) (by omega) (by omega)) rfl rfl rfl (VO.mv (Rn.loads Tryz.isAgg84 Tryz.sizeOf84 rfl rfl ka.1) rfl rfl rfl (VO.mv (Rn.move rfl) rfl rfl rfl ?_))))))
     refine VO.mv (Rn.add rfl rfl (by rw [IntKind.wrap_i64]; omega)) rfl rfl rfl ?_
     refine VO.wk (Wk.call Tryz.call126 rfl (ih a _ _ _ _ _ (p + 1) (d + 1) _ (by omega) kr (by omega) (by omega) bq_2 (by omega) (by omega))) rfl rfl rfl ?_
     rintro _ w3 ⟨rfl, bq_3, c3⟩
     have z3 := c3.size
     refine VO.mv (Rn.assign rfl) rfl rfl rfl (VO.nil (VQ.then_code (VC.seq (VC.seq (VC.region (VO.mv (Rn.move rfl) rfl rfl rfl (VO.mv (Rn.lss rfl rfl) rfl rfl rfl ?_)))))))
     refine VO.nil (VQ.then_code (VC.cond_if rfl (fun hc14 => ?_) (fun hc14 => ?_)))
     ·
      refine VC.seq (VC.region (VO.mv (Rn.assign rfl) rfl rfl rfl (VO.nil (VQ.then_code (VC.ret (VQ.then_ret (VQ.block_ret ?_)))))))
      refine VQ.then_ret (VQ.ret1 rfl rfl (Ret.mk ?_))
      rw [wl_two hx e, if_pos (by omega), if_pos hc14]
      have CH_1 := (Ch.refl (Is q) w).and c1
      have CH_2 : Ch (Is q) w w2 := CH_1.then c2 (by intro q h1 h2; rcases h2 with h2 | h2 <;> first | exact h2 | (exfalso; omega) | omega)
      have CH_3 : Ch (Is q) w w3 := CH_2.then c3 (by intro q h1 h2; rcases h2 with h2 | h2 <;> first | exact h2 | (exfalso; omega) | omega)
      exact ⟨rfl, bq_3, CH_3⟩
     ·
      refine VC.skip (VQ.then_code (VC.seq ?_))
      have ib := wl_bd _ b (wl a (p + 1) (d + 1)).1 (d + 1) (Nat.lt_succ_self _) (by omega) (by omega)
      have kd_3 := kd_2.to c3 (by first | exact fun _ _ _ _ => id | (intro q h1 h2 hx h3; omega))
      obtain ⟨kB, kc2, kb, ks⟩ := kd_3.kid hb
      have mb := mul_bd ia.2.2.2.1 ia.2.2.2.2 ib.2.2.2.1 ib.2.2.2.2
      refine VC.region (VO.mv (Rn.move rfl) rfl rfl rfl (VO.mv (Rn.field Tryz.underlying84 rfl Tryz.sizeOf82 rfl rfl rfl) rfl rfl rfl ?_))
      have b4_3 := b4_2.to c3 (by first | exact id | omega)
      refine VO.mv (Rn.load Tryz.isAgg82 rfl (b4_3.cell rfl)) rfl rfl rfl (VO.mv (Rn.indexS Tryz.underlying82 Tryz.sizeOf84 rfl rfl (kd_3.ne (by omega)) (by omega) (by omega)) rfl rfl rfl (VO.mv (Rn.loads Tryz.isAgg84 Tryz.sizeOf84 rfl rfl kb.1) rfl rfl rfl (VO.mv (Rn.move rfl) rfl rfl rfl ?_)))
      refine VO.mv (Rn.add rfl rfl (by rw [IntKind.wrap_i64]; omega)) rfl rfl rfl ?_
      refine VO.wk (Wk.call Tryz.call126 rfl (ih b _ _ _ _ _ (wl a (p + 1) (d + 1)).1 (d + 1) _ (by omega) ks (by omega) (by omega) bq_3 (by omega) (by omega))) rfl rfl rfl ?_
      rintro _ w4 ⟨rfl, bq_4, c4⟩
      have z4 := c4.size
      refine VO.mv (Rn.assign rfl) rfl rfl rfl (VO.nil (VQ.then_code (VC.seq (VC.seq (VC.region (VO.mv (Rn.move rfl) rfl rfl rfl (VO.mv (Rn.lss rfl rfl) rfl rfl rfl ?_)))))))
      refine VO.mv (Rn.move rfl) rfl rfl rfl ?_
      refine VO.orJoin (b := _) 5 104 109 rfl (fun hc15 Jhc15 => by
        refine VO.skip rfl rfl rfl (VO.skip rfl rfl rfl (VO.skip rfl rfl rfl (VO.skip rfl rfl rfl (VO.mv (Rn.pick_true rfl rfl) rfl rfl rfl ?_))))
        exact (VO.fg rfl (VO.fg rfl (VO.fg rfl (VO.fg rfl Jhc15))))) (fun hc15 Jhc15 => by
        try simp only [Bool.and_eq_true, Bool.or_eq_true, Bool.not_eq_true', Bool.not_eq_false', Bool.and_eq_false_iff, Bool.or_eq_false_iff, decide_eq_true_eq, decide_eq_false_iff_not] at hc15
        refine VO.mv (Rn.move rfl) rfl rfl rfl (VO.mv (Rn.move rfl) rfl rfl rfl ?_)
        refine VO.mv (Rn.mul rfl rfl (by rw [IntKind.wrap_i64]; omega)) rfl rfl rfl ?_
        refine VO.mv (Rn.gtr rfl rfl) rfl rfl rfl (VO.mv (Rn.pick_false rfl rfl) rfl rfl rfl ?_)
        exact (VO.fg rfl (VO.fg rfl (VO.fg rfl (VO.fg rfl Jhc15))))) ?_
      refine VO.nil (VQ.then_code (VC.cond rfl (fun hc16 => ?_) (fun hc16 => ?_)))
      ·
       try simp only [Bool.and_eq_true, Bool.or_eq_true, Bool.not_eq_true', Bool.not_eq_false', Bool.and_eq_false_iff, Bool.or_eq_false_iff, decide_eq_true_eq, decide_eq_false_iff_not] at hc16
       have hy : (wl b (wl a (p + 1) (d + 1)).1 (d + 1)).2 < 2 ∨ (wl a (p + 1) (d + 1)).2 * (wl b (wl a (p + 1) (d + 1)).1 (d + 1)).2 > 16384 := by omega
       refine VC.seq (VC.region (VO.mv (Rn.assign rfl) rfl rfl rfl (VO.nil (VQ.then_code (VC.ret (VQ.then_ret (VQ.block_ret ?_)))))))
       refine VQ.then_ret (VQ.ret1 rfl rfl (Ret.mk ?_))
       rw [wl_two hx e, if_pos (by omega), if_neg hc14, if_pos hy]
       have CH_1 := (Ch.refl (Is q) w).and c1
       have CH_2 : Ch (Is q) w w2 := CH_1.then c2 (by intro q h1 h2; rcases h2 with h2 | h2 <;> first | exact h2 | (exfalso; omega) | omega)
       have CH_3 : Ch (Is q) w w3 := CH_2.then c3 (by intro q h1 h2; rcases h2 with h2 | h2 <;> first | exact h2 | (exfalso; omega) | omega)
       have CH_4 : Ch (Is q) w w4 := CH_3.then c4 (by intro q h1 h2; rcases h2 with h2 | h2 <;> first | exact h2 | (exfalso; omega) | omega)
       exact ⟨rfl, bq_4, CH_4⟩
      ·
       try simp only [Bool.and_eq_true, Bool.or_eq_true, Bool.not_eq_true', Bool.not_eq_false', Bool.and_eq_false_iff, Bool.or_eq_false_iff, decide_eq_true_eq, decide_eq_false_iff_not] at hc16
       have hy : ¬ ((wl b (wl a (p + 1) (d + 1)).1 (d + 1)).2 < 2 ∨ (wl a (p + 1) (d + 1)).2 * (wl b (wl a (p + 1) (d + 1)).1 (d + 1)).2 > 16384) := by omega
       refine VC.skip (VQ.then_code (VC.seq (VC.region (VO.mv (Rn.move rfl) rfl rfl rfl (VO.mv (Rn.move rfl) rfl rfl rfl ?_)))))
       refine VO.mv (Rn.mul rfl rfl (by rw [IntKind.wrap_i64]; omega)) rfl rfl rfl ?_
       refine VO.mv (Rn.assign rfl) rfl rfl rfl (VO.nil (VQ.then_code (VC.ret (VQ.block_ret (VQ.then_ret (VQ.ret1 rfl rfl (Ret.mk ?_)))))))
       rw [wl_two hx e, if_pos (by omega), if_neg hc14, if_neg hy]
       have CH_1 := (Ch.refl (Is q) w).and c1
       have CH_2 : Ch (Is q) w w2 := CH_1.then c2 (by intro q h1 h2; rcases h2 with h2 | h2 <;> first | exact h2 | (exfalso; omega) | omega)
       have CH_3 : Ch (Is q) w w3 := CH_2.then c3 (by intro q h1 h2; rcases h2 with h2 | h2 <;> first | exact h2 | (exfalso; omega) | omega)
       have CH_4 : Ch (Is q) w w4 := CH_3.then c4 (by intro q h1 h2; rcases h2 with h2 | h2 <;> first | exact h2 | (exfalso; omega) | omega)
       exact ⟨rfl, bq_4, CH_4⟩
    ·
     try simp only [Bool.and_eq_true, Bool.or_eq_true, Bool.not_eq_true', Bool.not_eq_false', Bool.and_eq_false_iff, Bool.or_eq_false_iff, decide_eq_true_eq, decide_eq_false_iff_not] at hc13
     refine VC.seq (VC.region (VO.mv (Rn.field Tryz.underlying84 rfl Tryz.sizeOf3 rfl rfl rfl) rfl rfl rfl (VO.mv (Rn.load Tryz.isAgg3 rfl (b4_2.cell rfl)) rfl rfl rfl (VO.mv (Rn.eql rfl rfl) rfl rfl rfl (VO.mv (Rn.move rfl) rfl rfl rfl ?_)))))
     refine VO.andJoin (b := _) 5 117 122 rfl (fun hc17 Jhc17 => by
       try simp only [Bool.and_eq_true, Bool.or_eq_true, Bool.not_eq_true', Bool.not_eq_false', Bool.and_eq_false_iff, Bool.or_eq_false_iff, decide_eq_true_eq, decide_eq_false_iff_not] at hc17
       refine VO.mv (Rn.field Tryz.underlying84 rfl Tryz.sizeOf82 rfl rfl rfl) rfl rfl rfl (VO.mv (Rn.load Tryz.isAgg82 rfl (b4_2.cell rfl)) rfl rfl rfl (VO.mv (Rn.len Tryz.underlying82 rfl) rfl rfl rfl (VO.mv (Rn.eql rfl rfl) rfl rfl rfl (VO.mv (Rn.pick_true rfl rfl) rfl rfl rfl ?_))))
       exact (VO.fg rfl (VO.fg rfl (VO.fg rfl (VO.fg rfl Jhc17))))) (fun hc17 Jhc17 => by
       refine VO.skip rfl rfl rfl (VO.skip rfl rfl rfl (VO.skip rfl rfl rfl (VO.skip rfl rfl rfl (VO.mv (Rn.pick_false rfl rfl) rfl rfl rfl ?_))))
       exact (VO.fg rfl (VO.fg rfl (VO.fg rfl (VO.fg rfl Jhc17))))) ?_
     refine VO.mv (Rn.move rfl) rfl rfl rfl ?_
     refine VO.andJoin (b := _) 4 123 127 rfl (fun hc18 Jhc18 => by
       try simp only [Bool.and_eq_true, Bool.or_eq_true, Bool.not_eq_true', Bool.not_eq_false', Bool.and_eq_false_iff, Bool.or_eq_false_iff, decide_eq_true_eq, decide_eq_false_iff_not] at hc18
       refine VO.mv (Rn.field Tryz.underlying84 rfl Tryz.sizeOf3 rfl rfl rfl) rfl rfl rfl (VO.mv (Rn.load Tryz.isAgg3 rfl (b4_2.cell rfl)) rfl rfl rfl (VO.mv (Rn.geq rfl rfl) rfl rfl rfl (VO.mv (Rn.pick_true rfl rfl) rfl rfl rfl ?_)))
       exact (VO.fg rfl (VO.fg rfl (VO.fg rfl Jhc18)))) (fun hc18 Jhc18 => by
       refine VO.skip rfl rfl rfl (VO.skip rfl rfl rfl (VO.skip rfl rfl rfl (VO.mv (Rn.pick_false rfl rfl) rfl rfl rfl ?_)))
       exact (VO.fg rfl (VO.fg rfl (VO.fg rfl Jhc18)))) ?_
     refine VO.mv (Rn.move rfl) rfl rfl rfl ?_
     refine VO.andJoin (b := _) 4 128 132 rfl (fun hc19 Jhc19 => by
       try simp only [Bool.and_eq_true, Bool.or_eq_true, Bool.not_eq_true', Bool.not_eq_false', Bool.and_eq_false_iff, Bool.or_eq_false_iff, decide_eq_true_eq, decide_eq_false_iff_not] at hc19
       refine VO.mv (Rn.field Tryz.underlying84 rfl Tryz.sizeOf3 rfl rfl rfl) rfl rfl rfl (VO.mv (Rn.load Tryz.isAgg3 rfl (b4_2.cell rfl)) rfl rfl rfl (VO.mv (Rn.leq rfl rfl) rfl rfl rfl (VO.mv (Rn.pick_true rfl rfl) rfl rfl rfl ?_)))
       exact (VO.fg rfl (VO.fg rfl (VO.fg rfl Jhc19)))) (fun hc19 Jhc19 => by
       refine VO.skip rfl rfl rfl (VO.skip rfl rfl rfl (VO.skip rfl rfl rfl (VO.mv (Rn.pick_false rfl rfl) rfl rfl rfl ?_)))
       exact (VO.fg rfl (VO.fg rfl (VO.fg rfl Jhc19)))) ?_
     refine VO.mv (Rn.assign rfl) rfl rfl rfl (VO.nil (VQ.then_code (VC.cond rfl (fun hc20 => ?_) (fun hc20 => ?_))))
     ·
      try simp only [Bool.and_eq_true, Bool.or_eq_true, Bool.not_eq_true', Bool.not_eq_false', Bool.and_eq_false_iff, Bool.or_eq_false_iff, decide_eq_true_eq, decide_eq_false_iff_not] at hc20
      refine VC.seq (VC.seq ?_)
      obtain ⟨a, ha, e⟩ := kids1 hc20.1.1.2
      have la := kid_lt ha
      have ia := wl_bd _ a (p + 1) (d + 1) (Nat.lt_succ_self _) (by omega) (by omega)
      have kd_1 := kd.keep c1
      have kd_2 := kd_1.to c2 (by first | exact fun _ _ _ _ => id | (intro q h1 h2 hx h3; omega))
      obtain ⟨kA, kc, ka, kr⟩ := kd_2.kid ha
      refine VC.draws 13 [(0, true), (1, true), (2, true), (3, true), (4, true), (5, true), (6, true), (8, true), (9, true), (10, true), (11, true), (7, false), (12, true)] (fun w1 w' => Ch (Is q) w1 w') mixed (by kernel_rfl) (fun _ _ => Ch.refl _ _) ?_
      intro w5 D5
      have c5 := Ch.of_drew D5; have z5 := c5.size
      have bq_5 := bq_2.keep c5
      have b4_5 := b4_2.keep c5
      have ka_5 := ka.keep c5
      refine VH.mv (fun w' hS => Rn.move rfl) rfl rfl rfl rfl (VH.mv (fun w' hS => Rn.field Tryz.underlying84 rfl Tryz.sizeOf82 rfl rfl rfl) rfl rfl rfl rfl (VH.mv (fun w' hS => Rn.load Tryz.isAgg82 rfl ((b4_5.to hS (by first | exact id | omega)).cell rfl)) rfl rfl rfl rfl ?_))
      have kd_5 := kd_2.keep c5
      refine VH.mv (fun w' hS => Rn.indexS Tryz.underlying82 Tryz.sizeOf84 rfl rfl (kd_5.ne (by omega)) (by omega) (by omega)) rfl rfl rfl rfl ?_
      refine VH.mv (fun w' hS => Rn.loads Tryz.isAgg84 Tryz.sizeOf84 rfl rfl (ka_5.to hS (by first | exact fun _ _ _ _ => id | (intro q h1 h2 hx h3; omega))).1) rfl rfl rfl rfl ?_
      refine VH.mv (fun w' hS => Rn.move rfl) rfl rfl rfl rfl ?_
      refine VH.mv (fun w' hS => Rn.add rfl rfl (by rw [IntKind.wrap_i64]; omega)) rfl rfl rfl rfl ?_
      refine VH.mv (fun w' hS => Rn.field Tryz.underlying84 rfl Tryz.sizeOf3 rfl rfl rfl) rfl rfl rfl rfl (VH.mv (fun w' hS => Rn.load Tryz.isAgg3 rfl ((b4_5.to hS (by first | exact id | omega)).cell rfl)) rfl rfl rfl rfl ?_)
      refine VH.mv (fun w' hS => Rn.mul rfl rfl (by rw [IntKind.wrap_i64]; omega)) rfl rfl rfl rfl ?_
      refine VH.mv (fun w' hS => Rn.sub rfl rfl (by rw [IntKind.wrap_i64]; omega)) rfl rfl rfl rfl ?_
      have kr_5 := kr.keep c5
      refine VH.wk (Wk.call Tryz.call126 rfl (ih a _ _ _ _ _ (p + 1) (d + 1) _ (by omega) kr_5 (by omega) (by omega) bq_5 (by omega) (by omega))) rfl rfl rfl rfl ?_
      rintro _ w6 ⟨rfl, bq_6, c6⟩
      have z6 := c6.size
      have RD_6 : Ch (Is q) w5 w6 := (Ch.refl (Is q) w5).then c6 (by intro q h1 h2; rcases h2 with h2 | h2 <;> first | exact h2 | (exfalso; omega) | omega)
      refine ⟨RD_6, ?_⟩
      refine VH.mv (fun w' hS => Rn.lss rfl rfl) rfl rfl rfl rfl (VH.done (VO.nil (VQ.noPanic (VQ.then_code (VC.cond_if rfl (fun hc21 => ?_) (fun hc21 => ?_))))))
      ·
       refine VC.seq (VC.region (VO.mv (Rn.assign rfl) rfl rfl rfl (VO.nil (VQ.then_code (VC.ret (VQ.then_ret (VQ.block_ret ?_)))))))
       refine VQ.then_ret (VQ.ret1 rfl rfl (Ret.mk ?_))
       rw [wl_one hx e, if_pos (by omega), if_pos hc21]
       have CH_1 := (Ch.refl (Is q) w).and c1
       have CH_2 : Ch (Is q) w w2 := CH_1.then c2 (by intro q h1 h2; rcases h2 with h2 | h2 <;> first | exact h2 | (exfalso; omega) | omega)
       have CH_5 := CH_2.and c5
       have CH_6 : Ch (Is q) w w6 := CH_5.then c6 (by intro q h1 h2; rcases h2 with h2 | h2 <;> first | exact h2 | (exfalso; omega) | omega)
       exact ⟨rfl, bq_6, CH_6⟩
      ·
       refine VC.skip (VQ.then_code (VC.seq (VC.region (VO.mv (Rn.field Tryz.underlying84 rfl Tryz.sizeOf3 rfl rfl rfl) rfl rfl rfl ?_))))
       have b4_6 := b4_5.to c6 (by first | exact id | omega)
       refine VO.mv (Rn.load Tryz.isAgg3 rfl (b4_6.cell rfl)) rfl rfl rfl (VO.mv (Rn.assign rfl) rfl rfl rfl (VO.nil (VQ.then_code (VC.ret (VQ.block_ret (VQ.then_ret (VQ.ret1 rfl rfl ?_)))))))
       refine Ret.mk ?_
       rw [wl_one hx e, if_pos (by omega), if_neg hc21]
       have CH_1 := (Ch.refl (Is q) w).and c1
       have CH_2 : Ch (Is q) w w2 := CH_1.then c2 (by intro q h1 h2; rcases h2 with h2 | h2 <;> first | exact h2 | (exfalso; omega) | omega)
       have CH_5 := CH_2.and c5
       have CH_6 : Ch (Is q) w w6 := CH_5.then c6 (by intro q h1 h2; rcases h2 with h2 | h2 <;> first | exact h2 | (exfalso; omega) | omega)
       exact ⟨rfl, bq_6, CH_6⟩
     ·
      try simp only [Bool.and_eq_true, Bool.or_eq_true, Bool.not_eq_true', Bool.not_eq_false', Bool.and_eq_false_iff, Bool.or_eq_false_iff, decide_eq_true_eq, decide_eq_false_iff_not] at hc20
      refine VC.skip (VQ.block_normal (VQ.then_code (VC.seq (VC.region (VO.mv (Rn.assign rfl) rfl rfl rfl (VO.nil (VQ.then_code ?_)))))))
      refine VC.ret (VQ.ret1 rfl rfl (Ret.mk ?_))
      rw [wl_none hx (by omega) (by omega) (by omega) (by omega)]
      have CH_1 := (Ch.refl (Is q) w).and c1
      have CH_2 : Ch (Is q) w w2 := CH_1.then c2 (by intro q h1 h2; rcases h2 with h2 | h2 <;> first | exact h2 | (exfalso; omega) | omega)
      exact ⟨rfl, bq_2, CH_2⟩
set_option maxRecDepth 100000 in
theorem order_Length (o : Ord) (A : Option Addr) (c : Nat) (lo hi : Nat) (w : World) (kd : RdK (In lo hi) w A o.kids) (hh : hi ≤ w.heap.size) :
  Calls Tryz.prog 105 #[ordV o A c] w (Ret (fun v w' => v = .int .i64 o.len ∧ Ch No w w')) := by
 refine calls_of_VC (args := [ordV o A c]) Tryz.func105 rfl Tryz.ntmps105 rfl (VC.seq (VC.region (VO.wk (Wk.box rfl) rfl rfl rfl ?_)))
 rintro _ w1 ⟨p1, rfl, N1⟩
 have c1 := N1.ch
 have e1 := N1.p; have z1 := N1.size
 have b1 := Bk.new N1
 refine VO.mv (Rn.assign rfl) rfl rfl rfl (VO.nil (VQ.then_code (VC.seq (VC.region (VO.wk (Wk.alloc Tryz.zeroValue189) rfl rfl rfl ?_)))))
 rintro _ w2 ⟨p2, rfl, N2⟩
 have c2 := N2.ch
 have e2 := N2.p; have z2 := N2.size
 have b3 := Bk.new N2
 have b1_2 := b1.keep c2
 refine VO.mv (Rn.loads Tryz.isAgg84 Tryz.sizeOf84 rfl rfl (b1_2.all' rfl)) rfl rfl rfl ?_
 have kd_2 := kd.keep (c1.trans c2)
 refine VO.wk (Wk.call Tryz.call126 rfl (walker_length _ o _ _ _ _ _ 0 1 _ (Nat.lt_succ_self _) kd_2 (by omega) (by omega) b3 (by omega) (by omega))) rfl rfl rfl ?_
 rintro _ w3 ⟨rfl, bz, c3⟩
 have z3 := c3.size
 refine VO.mv (Rn.assign rfl) rfl rfl rfl (VO.nil (VQ.then_code (VC.ret (VQ.ret1 rfl rfl (Ret.mk ?_)))))
 have CH_2 := (Ch.refl (No) w).and (c1.trans c2)
 have CH_3 : Ch (No) w w3 := CH_2.then c3 (by intro q h1 h2; rcases h2 with h2 | h2 <;> first | exact h2 | (exfalso; omega) | omega)
 exact ⟨rfl, CH_3⟩
end Go.Tm
namespace Go.Tm
def fwork (r : Int) : Int × Int := if r = 2 then (4, 0) else if r = 3 then (12, 4) else if r = 4 then (16, 0) else if r = 5 then (32, 16) else (0, 0)
def fw (r : Int) : Int := (fwork r).1 + (fwork r).2
theorem fwork_bd (r : Int) : 0 ≤ (fwork r).1 ∧ (fwork r).1 ≤ 32 ∧ 0 ≤ (fwork r).2 ∧ (fwork r).2 ≤ 16 := by
  unfold fwork; split <;> (try split) <;> (try split) <;> (try split) <;> simp
def plusGo (s : Int) : List Int → Int
  | [] => s
  | x :: t => if x > 4611686018427387904 - s then 4611686018427387905 else plusGo (s + x) t
theorem plusGo_bd : ∀ (l : List Int) (s : Int), s ≤ 4611686018427387904 → (∀ x ∈ l, -65536 ≤ x) → s - 65536 * l.length ≤ plusGo s l ∧ plusGo s l ≤ 4611686018427387905
  | [], s, h1, _ => by simp only [plusGo, List.length_nil]; omega
  | x :: t, s, h1, h => by
    have hx := h x List.mem_cons_self
    simp only [plusGo, List.length_cons]
    split
    · omega
    · have := plusGo_bd t (s + x) (by omega) fun y hy => h y (List.mem_cons_of_mem _ hy)
      omega
theorem plusGo_pos : ∀ (l : List Int) (s : Int), 0 ≤ s → s ≤ 4611686018427387904 → (∀ x ∈ l, 0 ≤ x) → 0 ≤ plusGo s l
  | [], s, h0, h1, _ => by simp only [plusGo]; omega
  | x :: t, s, h0, h1, h => by
    have hx := h x List.mem_cons_self
    simp only [plusGo]
    split
    · omega
    · exact plusGo_pos t (s + x) (by omega) (by omega) fun y hy => h y (List.mem_cons_of_mem _ hy)
theorem plusGo_drop {xs : List Int} {i : Nat} {s x : Int} (h : xs[i]? = some x) : plusGo s (xs.drop i) = if x > 4611686018427387904 - s then 4611686018427387905 else plusGo (s + x) (xs.drop (i + 1)) := by
  rw [List.drop_eq_getElem_cons (List.getElem?_eq_some_iff.1 h).1, (List.getElem?_eq_some_iff.1 h).2, plusGo]
def timesS (a b : Int) : Int := if a > 0 ∧ b > 4611686018427387904 / a then 4611686018427387905 else a * b
theorem times_bd {a b : Int} (ha : 0 ≤ a) (ha' : a ≤ 65536) (hb : -1 ≤ b) (h : ¬ (a > 0 ∧ b > 4611686018427387904 / a)) : -65536 ≤ a * b ∧ a * b ≤ 4611686018427387904 := by
  constructor
  · have := Int.mul_le_mul_of_nonneg_left hb ha
    omega
  · by_cases h0 : a = 0
    · subst h0; simp
    · have h1 : b ≤ 4611686018427387904 / a := by omega
      have h2 := Int.mul_le_mul_of_nonneg_left h1 ha
      exact Int.le_trans h2 (Int.mul_ediv_self_le h0)
theorem timesS_bd {a b : Int} (ha : 0 ≤ a) (ha' : a ≤ 65536) (hb : -1 ≤ b) : -65536 ≤ timesS a b ∧ timesS a b ≤ 4611686018427387905 := by
  unfold timesS
  split
  · omega
  · rename_i h; have := times_bd ha ha' hb h; omega
theorem timesS_pos {a b : Int} (ha : 0 ≤ a) (hb : 0 ≤ b) : 0 ≤ timesS a b := by
  unfold timesS
  split
  · omega
  · exact Int.mul_nonneg ha hb
def timesC (a b ca cb : Int) (fly : Bool) : Int :=
  if fly then plusGo 0 [timesS a cb, timesS b ca, 6 * (a - 1) * (b - 1)] else plusGo 0 [plusGo 0 [timesS a cb, timesS b ca, 6 * (a - 1) * (b - 1)], a * b]
def blueC (n m cm : Int) : Int := plusGo 0 [timesS 3 cm, 12 * n, 10 * m]
def lcost (k n : Int) : Int := if k = 1 then 8 * n * n else fw n
theorem six_bd {a b : Int} (h1 : 1 ≤ a) (h2 : a ≤ 65536) (h3 : 1 ≤ b) (h4 : b ≤ 65536) : 0 ≤ 6 * (a - 1) * (b - 1) ∧ 6 * (a - 1) * (b - 1) ≤ 25769803776 ∧ 0 ≤ a * b ∧ a * b ≤ 4294967296 := by
  have e1 := Int.mul_nonneg (show (0:Int) ≤ 6 * (a - 1) by omega) (show (0:Int) ≤ b - 1 by omega)
  have e2 := Int.mul_le_mul (show 6 * (a - 1) ≤ 393216 by omega) (show b - 1 ≤ 65536 by omega) (by omega) (by omega)
  have e3 := Int.mul_nonneg (show (0:Int) ≤ a by omega) (show (0:Int) ≤ b by omega)
  have e4 := Int.mul_le_mul h2 h4 (by omega) (show (0:Int) ≤ 65536 by omega)
  omega
theorem sq_bd {n : Int} (h0 : 0 ≤ n) (h1 : n ≤ 65536) : 0 ≤ 8 * n * n ∧ 8 * n * n ≤ 34359738368 := by
  have e1 := Int.mul_nonneg (show (0:Int) ≤ 8 * n by omega) h0
  have e2 := Int.mul_le_mul (show 8 * n ≤ 524288 by omega) h1 h0 (by omega)
  omega
theorem timesC_bd {a b ca cb : Int} {f : Bool} (h1 : 1 ≤ a) (h2 : a ≤ 65536) (h3 : 1 ≤ b) (h4 : b ≤ 65536) (h5 : 0 ≤ ca) (h6 : 0 ≤ cb) : 0 ≤ timesC a b ca cb f ∧ timesC a b ca cb f ≤ 4611686018427387905 := by
  have s := six_bd h1 h2 h3 h4
  have t1 := timesS_pos (show 0 ≤ a by omega) h6
  have t2 := timesS_pos (show 0 ≤ b by omega) h5
  have p := plusGo_pos [timesS a cb, timesS b ca, 6 * (a - 1) * (b - 1)] 0 (by omega) (by omega) (by simp; omega)
  have p' := plusGo_bd [timesS a cb, timesS b ca, 6 * (a - 1) * (b - 1)] 0 (by omega) (by simp; omega)
  unfold timesC
  split
  · exact ⟨p, p'.2⟩
  · exact ⟨plusGo_pos _ 0 (by omega) (by omega) (by simp; omega), (plusGo_bd _ 0 (by omega) (by simp; omega)).2⟩
theorem blueC_bd {n m cm : Int} (h1 : 1 ≤ n) (h2 : n ≤ 65536) (h3 : 1 ≤ m) (h4 : m ≤ 65536) (h5 : -1 ≤ cm) : 0 ≤ blueC n m cm ∧ blueC n m cm ≤ 4611686018427387905 := by
  refine ⟨?_, (plusGo_bd _ 0 (by omega) (by have t1 := timesS_bd (show (0:Int) ≤ 3 by omega) (by omega) h5; simp; omega)).2⟩
  by_cases hc : 0 ≤ cm
  · have t1 := timesS_pos (show (0:Int) ≤ 3 by omega) hc
    exact plusGo_pos _ 0 (by omega) (by omega) (by simp; omega)
  · have : cm = -1 := by omega
    subst this
    have e : timesS 3 (-1) = -3 := by decide
    unfold blueC
    rw [e]
    simp only [plusGo]
    rw [if_neg (by omega), if_neg (by omega), if_neg (by omega)]
    omega
theorem lcost_bd {k n : Int} (h1 : 0 ≤ n) (h2 : n ≤ 65536) : 0 ≤ lcost k n ∧ lcost k n ≤ 34359738368 := by
  have := sq_bd h1 h2
  have := fwork_bd n
  unfold lcost fw
  split <;> omega
end Go.Tm
namespace Go.Tm
open Go.RowKit Go.Proofs
set_option maxRecDepth 100000 in
theorem inf3w4 : Inf Tryz.prog 3 (.int .i64 0) 1 8 := ⟨Tryz.t3, Tryz.type3, rfl, rfl, rfl⟩
set_option maxRecDepth 100000 in
theorem fly_Work (r : Int) (w : World) :
  Calls Tryz.prog 125 #[.int .i64 r] w (Ret (fun v w' => v = .tuple #[.int .i64 (fwork r).1, .int .i64 (fwork r).2] ∧ w = w')) := by
 refine calls_of_VC (args := [.int .i64 r]) Tryz.func125 rfl Tryz.ntmps125 rfl (VC.seq (VC.region (VO.mv (Rn.assign rfl) rfl rfl rfl (VO.mv (Rn.assign rfl) rfl rfl rfl (VO.nil (VQ.then_code (VC.seq ?_)))))))
 refine VC.seq (VC.region (VO.mv (Rn.move rfl) rfl rfl rfl (VO.nil (VQ.then_code (VC.block (VC.seq (VC.region ?_)))))))
 refine VO.mv (Rn.eql rfl rfl) rfl rfl rfl (VO.mv (Rn.assign rfl) rfl rfl rfl (VO.nil (VQ.then_code (VC.cond_if rfl (fun hc1 => ?_) (fun hc1 => ?_)))))
 ·
  refine VC.seq (VC.region (VO.mv (Rn.assign rfl) rfl rfl rfl (VO.mv (Rn.assign rfl) rfl rfl rfl (VO.nil (VQ.then_code (VC.ret (VQ.block_ret ?_)))))))
  refine VQ.then_ret (VQ.ret2 rfl rfl rfl (Ret.mk ?_))
  refine ⟨?_, rfl⟩; unfold fwork; rw [if_pos hc1]
 ·
  refine VC.seq (VC.region (VO.mv (Rn.eql rfl rfl) rfl rfl rfl (VO.mv (Rn.assign rfl) rfl rfl rfl (VO.nil (VQ.then_code (VC.cond_if rfl (fun hc2 => ?_) (fun hc2 => ?_)))))))
  ·
   refine VC.seq (VC.region (VO.mv (Rn.assign rfl) rfl rfl rfl (VO.mv (Rn.assign rfl) rfl rfl rfl (VO.nil (VQ.then_code (VC.ret (VQ.block_ret ?_)))))))
   refine VQ.then_ret (VQ.ret2 rfl rfl rfl (Ret.mk ?_))
   refine ⟨?_, rfl⟩; unfold fwork; rw [if_neg hc1, if_pos hc2]
  ·
   refine VC.seq (VC.region (VO.mv (Rn.eql rfl rfl) rfl rfl rfl (VO.mv (Rn.assign rfl) rfl rfl rfl (VO.nil (VQ.then_code (VC.cond_if rfl (fun hc3 => ?_) (fun hc3 => ?_)))))))
   ·
    refine VC.seq (VC.region (VO.mv (Rn.assign rfl) rfl rfl rfl (VO.mv (Rn.assign rfl) rfl rfl rfl (VO.nil (VQ.then_code (VC.ret (VQ.block_ret ?_)))))))
    refine VQ.then_ret (VQ.ret2 rfl rfl rfl (Ret.mk ?_))
    refine ⟨?_, rfl⟩; unfold fwork; rw [if_neg hc1, if_neg hc2, if_pos hc3]
   ·
    refine VC.seq (VC.region (VO.mv (Rn.eql rfl rfl) rfl rfl rfl (VO.mv (Rn.assign rfl) rfl rfl rfl (VO.nil (VQ.then_code (VC.cond_if rfl (fun hc4 => ?_) (fun hc4 => ?_)))))))
    ·
     refine VC.seq (VC.region (VO.mv (Rn.assign rfl) rfl rfl rfl (VO.mv (Rn.assign rfl) rfl rfl rfl (VO.nil (VQ.then_code (VC.ret (VQ.block_ret ?_)))))))
     refine VQ.then_ret (VQ.ret2 rfl rfl rfl (Ret.mk ?_))
     refine ⟨?_, rfl⟩; unfold fwork; rw [if_neg hc1, if_neg hc2, if_neg hc3, if_pos hc4]
    ·
     refine VC.skip (VQ.block_normal (VQ.then_code (VC.seq (VC.region (VO.mv (Rn.assign rfl) rfl rfl rfl (VO.mv (Rn.assign rfl) rfl rfl rfl (VO.nil ?_)))))))
     refine VQ.then_code (VC.ret (VQ.ret2 rfl rfl rfl (Ret.mk ?_)))
     refine ⟨?_, rfl⟩; unfold fwork; rw [if_neg hc1, if_neg hc2, if_neg hc3, if_neg hc4]
set_option maxRecDepth 100000 in
theorem planner_work (r : Int) (w : World) :
  Calls Tryz.prog 104 #[.int .i64 r] w (Ret (fun v w' => v = .int .i64 (fw r) ∧ w = w')) := by
 have hb := fwork_bd r
 refine calls_of_VC (args := [.int .i64 r]) Tryz.func104 rfl Tryz.ntmps104 rfl (VC.seq (VC.region (VO.mv (Rn.assign rfl) rfl rfl rfl (VO.nil (VQ.then_code (VC.seq (VC.region ?_)))))))
 refine VO.mv (Rn.move rfl) rfl rfl rfl (VO.wk (Wk.call Tryz.call125 rfl (fly_Work _ _ )) rfl rfl rfl ?_)
 rintro _ _ ⟨rfl, rfl⟩
 refine VO.mv (Rn.move rfl) rfl rfl rfl (VO.mv (Rn.extract rfl rfl) rfl rfl rfl (VO.mv (Rn.extract rfl rfl) rfl rfl rfl (VO.mv (Rn.assign rfl) rfl rfl rfl (VO.mv (Rn.assign rfl) rfl rfl rfl (VO.nil (VQ.then_code (VC.seq ?_)))))))
 refine VC.region (VO.mv (Rn.move rfl) rfl rfl rfl (VO.mv (Rn.move rfl) rfl rfl rfl ?_))
 refine VO.mv (Rn.add rfl rfl (by rw [IntKind.wrap_i64]; omega)) rfl rfl rfl ?_
 refine VO.mv (Rn.assign rfl) rfl rfl rfl (VO.nil (VQ.then_code (VC.ret (VQ.ret1 rfl rfl (Ret.mk ?_)))))
 exact ⟨rfl, rfl⟩
set_option maxRecDepth 100000 in
theorem planner_times (a b : Int) (w : World) (ha : 0 ≤ a) (ha2 : a ≤ 65536) (hb : -1 ≤ b) (hb2 : b ≤ 9223372036854775807) :
  Calls Tryz.prog 109 #[.int .i64 a, .int .i64 b] w (Ret (fun v w' => v = .int .i64 (timesS a b) ∧ w = w')) := by
 refine calls_of_VC (args := [.int .i64 a, .int .i64 b]) Tryz.func109 rfl Tryz.ntmps109 rfl (VC.seq (VC.region (VO.mv (Rn.assign rfl) rfl rfl rfl (VO.nil (VQ.then_code (VC.seq (VC.seq ?_)))))))
 refine VC.region (VO.mv (Rn.move rfl) rfl rfl rfl (VO.mv (Rn.gtr rfl rfl) rfl rfl rfl (VO.mv (Rn.move rfl) rfl rfl rfl ?_)))
 refine VO.andJoin (b := _) 5 7 12 rfl (fun hc1 Jhc1 => by
   try simp only [Bool.and_eq_true, Bool.or_eq_true, Bool.not_eq_true', Bool.not_eq_false', Bool.and_eq_false_iff, Bool.or_eq_false_iff, decide_eq_true_eq, decide_eq_false_iff_not] at hc1
   refine VO.mv (Rn.move rfl) rfl rfl rfl (VO.mv (Rn.move rfl) rfl rfl rfl (VO.mv (Rn.quo0 rfl rfl (by omega) (by omega) (by omega)) rfl rfl rfl (VO.mv (Rn.gtr rfl rfl) rfl rfl rfl (VO.mv (Rn.pick_true rfl rfl) rfl rfl rfl ?_))))
   exact (VO.fg rfl (VO.fg rfl (VO.fg rfl (VO.fg rfl Jhc1))))) (fun hc1 Jhc1 => by
   refine VO.skip rfl rfl rfl (VO.skip rfl rfl rfl (VO.skip rfl rfl rfl (VO.skip rfl rfl rfl (VO.mv (Rn.pick_false rfl rfl) rfl rfl rfl ?_))))
   exact (VO.fg rfl (VO.fg rfl (VO.fg rfl (VO.fg rfl Jhc1))))) ?_
 refine VO.nil (VQ.then_code (VC.cond rfl (fun hc2 => ?_) (fun hc2 => ?_)))
 ·
  try simp only [Bool.and_eq_true, Bool.or_eq_true, Bool.not_eq_true', Bool.not_eq_false', Bool.and_eq_false_iff, Bool.or_eq_false_iff, decide_eq_true_eq, decide_eq_false_iff_not] at hc2
  refine VC.seq (VC.region (VO.mv (Rn.assign rfl) rfl rfl rfl (VO.nil (VQ.then_code (VC.ret (VQ.then_ret (VQ.ret1 rfl rfl ?_)))))))
  refine Ret.mk ?_
  refine ⟨?_, rfl⟩; unfold timesS; rw [if_pos hc2]
 ·
  try simp only [Bool.and_eq_true, Bool.or_eq_true, Bool.not_eq_true', Bool.not_eq_false', Bool.and_eq_false_iff, Bool.or_eq_false_iff, decide_eq_true_eq, decide_eq_false_iff_not] at hc2
  refine VC.skip (VQ.then_code (VC.seq (VC.region (VO.mv (Rn.move rfl) rfl rfl rfl (VO.mv (Rn.move rfl) rfl rfl rfl ?_)))))
  refine VO.mv (Rn.mul rfl rfl (by rw [IntKind.wrap_i64]; have := times_bd ha ha2 hb (by omega); omega)) rfl rfl rfl ?_
  refine VO.mv (Rn.assign rfl) rfl rfl rfl (VO.nil (VQ.then_code (VC.ret (VQ.ret1 rfl rfl (Ret.mk ?_)))))
  refine ⟨?_, rfl⟩; unfold timesS; rw [if_neg (fun h => by rcases hc2 with h2 | h2; exact h2 h.1; exact h2 h.2)]
set_option maxRecDepth 100000 in
theorem planner_plus (S : Nat → Prop) (xs : List Int) (A : Option Addr) (c : Nat) (w : World) (sl : SlR S w A xs.length 1 (xs.map (.int .i64 ·))) (hl : xs.length ≤ 100) (hx : ∀ x ∈ xs, -65536 ≤ x ∧ x ≤ 9223372036854775807) :
  Calls Tryz.prog 108 #[.slice A xs.length c] w (Ret (fun v w' => v = .int .i64 (plusGo 0 xs) ∧ w = w')) := by
 refine calls_of_VC (args := [.slice A xs.length c]) Tryz.func108 rfl Tryz.ntmps108 rfl (VC.seq (VC.region (VO.mv (Rn.assign rfl) rfl rfl rfl (VO.nil (VQ.then_code (VC.seq (VC.region ?_)))))))
 refine VO.mv (Rn.assign rfl) rfl rfl rfl (VO.nil (VQ.then_code (VC.seq (VC.seq (VC.region (VO.mv (Rn.move rfl) rfl rfl rfl (VO.mv (Rn.len Tryz.underlying69 rfl) rfl rfl rfl ?_)))))))
 refine VO.mv (Rn.move rfl) rfl rfl rfl (VO.nil (VQ.then_code (VC.block (VC.loopS (σ := Nat × Int) (fun (i, s) => [(3, .int .i64 s), (6, .slice A xs.length c), (7, .int .i64 xs.length), (8, .int .i64 i)]) (fun (i, s) w' => w = w' ∧ i ≤ xs.length ∧ -(65536 * (i : Int)) ≤ s ∧ s ≤ 4611686018427387904 ∧ plusGo 0 xs = plusGo s (xs.drop i)) (fun (i, s) => xs.length - i) (0, 0) ?_ ⟨rfl, rfl, rfl, rfl, trivial⟩ ?_))))
 · exact ⟨rfl, Nat.zero_le _, by simp, by omega, rfl⟩
 rintro ⟨i, s⟩ _ ⟨rfl, i1, s0, s1, hs⟩
 show VC _ _ _ _ [(3, .int .i64 s), (6, .slice A xs.length c), (7, .int .i64 xs.length), (8, .int .i64 i)] _
 refine VC.seq (VC.region (VO.mv (Rn.lss rfl rfl) rfl rfl rfl (VO.nil (VQ.then_code (VC.seq (VC.cond_if rfl (fun hc1 => ?_) (fun hc1 => ?_)))))))
 ·
  refine VC.skip (VQ.then_code (VC.seq (VC.block (VC.seq ?_))))
  have hxi : xs[i]? = some (xs.getD ((i : Int)).toNat 0) := by rw [Int.toNat_natCast, List.getD, List.getElem?_eq_getElem (by omega)]; rfl
  have hb := hx _ (List.mem_of_getElem? hxi)
  refine VC.region (VO.mv (Rn.indexS Tryz.underlying69 Tryz.sizeOf3 rfl rfl (sl.ne (by omega)) (by omega) (by omega)) rfl rfl rfl (VO.mv (Rn.load Tryz.isAgg3 rfl (sl.get 0 (by omega) (by omega))) rfl rfl rfl (VO.mv (Rn.assign rfl) rfl rfl rfl (VO.nil (VQ.then_code (VC.seq (VC.seq ?_)))))))
  refine VC.region (VO.mv (Rn.move rfl) rfl rfl rfl (VO.mv (Rn.move rfl) rfl rfl rfl ?_))
  refine VO.mv (Rn.sub rfl rfl (by rw [IntKind.wrap_i64]; omega)) rfl rfl rfl ?_
  refine VO.mv (Rn.gtr rfl rfl) rfl rfl rfl (VO.nil (VQ.then_code (VC.cond_if rfl (fun hc2 => ?_) (fun hc2 => ?_))))
  ·
   refine VC.seq (VC.region (VO.mv (Rn.assign rfl) rfl rfl rfl (VO.nil (VQ.then_code (VC.ret (VQ.then_ret (VQ.block_ret ?_)))))))
   refine VQ.then_ret (VQ.then_ret (VQ.block_ret (VQ.then_ret (VQ.ret1 rfl rfl (Ret.mk ?_)))))
   refine ⟨?_, rfl⟩; rw [hs, plusGo_drop hxi, if_pos hc2]
  ·
   refine VC.skip (VQ.then_code (VC.region (VO.mv (Rn.move rfl) rfl rfl rfl (VO.mv (Rn.move rfl) rfl rfl rfl ?_))))
   refine VO.mv (Rn.add rfl rfl (by rw [IntKind.wrap_i64]; omega)) rfl rfl rfl ?_
   refine VO.mv (Rn.assign rfl) rfl rfl rfl (VO.nil (VQ.block_normal (VQ.then_code (VC.region ?_))))
   refine VO.mv (Rn.add rfl rfl (by rw [IntKind.wrap_i64]; omega)) rfl rfl rfl ?_
   refine VO.mv (Rn.move rfl) rfl rfl rfl (VO.nil ?_)
   refine VQ.round (i + 1, s + xs.getD ((i : Int)).toNat 0) (by first | omega | (dsimp only; omega)) ?_ ⟨rfl, rfl, rfl, rfl, trivial⟩
   refine ⟨rfl, by omega, by omega, by omega, ?_⟩
   rw [hs, plusGo_drop hxi, if_neg hc2]
 ·
  refine VC.exit (VQ.then_exit (VQ.then_exit (VQ.block_exit (VQ.then_code (VC.seq (VC.region (VO.mv (Rn.move rfl) rfl rfl rfl ?_)))))))
  refine VO.mv (Rn.assign rfl) rfl rfl rfl (VO.nil (VQ.then_code (VC.ret (VQ.ret1 rfl rfl (Ret.mk ?_)))))
  refine ⟨?_, rfl⟩; have : i = xs.length := by omega
  subst this; rw [hs, List.drop_length]; rfl
set_option maxRecDepth 100000 in
theorem planner_timesCost (a b ca cb : Int) (f : Bool) (w : World) (h1 : 1 ≤ a) (h2 : a ≤ 65536) (h3 : 1 ≤ b) (h4 : b ≤ 65536) (h5 : 0 ≤ ca) (h6 : 0 ≤ cb) (h7 : ca ≤ 4611686018427387905) (h8 : cb ≤ 4611686018427387905) :
  Calls Tryz.prog 75 #[.int .i64 a, .int .i64 b, .int .i64 ca, .int .i64 cb, .bool f] w (Ret (fun v w' => v = .int .i64 (timesC a b ca cb f) ∧ Ch No w w')) := by
 have hs := six_bd h1 h2 h3 h4
 have t1 := timesS_bd (show 0 ≤ a by omega) h2 (show -1 ≤ cb by omega); have t2 := timesS_bd (show 0 ≤ b by omega) h4 (show -1 ≤ ca by omega)
 have pb := plusGo_bd [timesS a cb, timesS b ca, 6 * (a - 1) * (b - 1)] 0 (by omega) (by simp; omega)
 have pp := plusGo_pos [timesS a cb, timesS b ca, 6 * (a - 1) * (b - 1)] 0 (by omega) (by omega) (by have := timesS_pos (show 0 ≤ a by omega) h6; have := timesS_pos (show 0 ≤ b by omega) h5; simp; omega)
 refine calls_of_VC (args := [.int .i64 a, .int .i64 b, .int .i64 ca, .int .i64 cb, .bool f]) Tryz.func75 rfl Tryz.ntmps75 rfl (VC.seq (VC.region (VO.mv (Rn.assign rfl) rfl rfl rfl (VO.nil (VQ.then_code (VC.seq (VC.region ?_)))))))
 refine VO.mv (Rn.move rfl) rfl rfl rfl (VO.mv (Rn.move rfl) rfl rfl rfl (VO.wk (Wk.call Tryz.call109 rfl (planner_times _ _ _ (by omega) (by omega) (by omega) (by omega))) rfl rfl rfl ?_))
 rintro _ _ ⟨rfl, rfl⟩
 refine VO.mv (Rn.move rfl) rfl rfl rfl (VO.mv (Rn.move rfl) rfl rfl rfl (VO.wk (Wk.call Tryz.call109 rfl (planner_times _ _ _ (by omega) (by omega) (by omega) (by omega))) rfl rfl rfl ?_))
 rintro _ _ ⟨rfl, rfl⟩
 refine VO.mv (Rn.move rfl) rfl rfl rfl ?_
 refine VO.mv (Rn.sub rfl rfl (by rw [IntKind.wrap_i64]; omega)) rfl rfl rfl ?_
 refine VO.mv (Rn.mul rfl rfl (by rw [IntKind.wrap_i64]; omega)) rfl rfl rfl ?_
 refine VO.mv (Rn.move rfl) rfl rfl rfl ?_
 refine VO.mv (Rn.sub rfl rfl (by rw [IntKind.wrap_i64]; omega)) rfl rfl rfl ?_
 refine VO.mv (Rn.mul rfl rfl (by rw [IntKind.wrap_i64]; omega)) rfl rfl rfl ?_
 refine VO.wk (Wk.lit Tryz.underlying69 inf3w4 (by decide) rfl rfl (by rfl) (by decide) (by decide) (by rfl)) rfl rfl rfl ?_
 rintro _ w1 ⟨p1, rfl, N1⟩
 have c1 := N1.ch
 have e1 := N1.p; have z1 := N1.size
 have l24 := SlR.of_new (sz := 1) (l := 3) N1 rfl
 have l24o := Ow.of_new (sz := 1) (l := 3) N1 rfl (by decide)
 refine VO.wk (Wk.call Tryz.call108 rfl (planner_plus _ [timesS a cb, timesS b ca, 6 * (a - 1) * (b - 1)] _ _ _ l24 (by simp) (by simp; omega))) rfl rfl rfl ?_
 rintro _ _ ⟨rfl, rfl⟩
 refine VO.mv (Rn.assign rfl) rfl rfl rfl (VO.nil (VQ.then_code (VC.seq (VC.seq (VC.region (VO.mv (Rn.move rfl) rfl rfl rfl (VO.mv (Rn.not rfl) rfl rfl rfl ?_)))))))
 refine VO.nil (VQ.then_code (VC.cond rfl (fun hc1 => ?_) (fun hc1 => ?_)))
 ·
  try simp only [Bool.and_eq_true, Bool.or_eq_true, Bool.not_eq_true', Bool.not_eq_false', Bool.and_eq_false_iff, Bool.or_eq_false_iff, decide_eq_true_eq, decide_eq_false_iff_not] at hc1
  refine VC.region (VO.mv (Rn.move rfl) rfl rfl rfl (VO.mv (Rn.move rfl) rfl rfl rfl (VO.mv (Rn.move rfl) rfl rfl rfl ?_)))
  refine VO.mv (Rn.mul rfl rfl (by rw [IntKind.wrap_i64]; omega)) rfl rfl rfl ?_
  refine VO.wk (Wk.lit Tryz.underlying69 inf3w4 (by decide) rfl rfl (by rfl) (by decide) (by decide) (by rfl)) rfl rfl rfl ?_
  rintro _ w2 ⟨p2, rfl, N2⟩
  have c2 := N2.ch
  have e2 := N2.p; have z2 := N2.size
  have l32 := SlR.of_new (sz := 1) (l := 2) N2 rfl
  have l32o := Ow.of_new (sz := 1) (l := 2) N2 rfl (by decide)
  refine VO.wk (Wk.call Tryz.call108 rfl (planner_plus _ [plusGo 0 [timesS a cb, timesS b ca, 6 * (a - 1) * (b - 1)], a * b] _ _ _ l32 (by simp) (by simp; omega))) rfl rfl rfl ?_
  rintro _ _ ⟨rfl, rfl⟩
  refine VO.mv (Rn.assign rfl) rfl rfl rfl (VO.nil (VQ.then_code (VC.seq (VC.region (VO.mv (Rn.move rfl) rfl rfl rfl (VO.mv (Rn.assign rfl) rfl rfl rfl (VO.nil ?_)))))))
  refine VQ.then_code (VC.ret (VQ.ret1 rfl rfl (Ret.mk ?_)))
  have CH_2 := (Ch.refl (No) w).and (c1.trans c2)
  refine ⟨?_, CH_2⟩; unfold timesC; rw [if_neg (by simp [hc1])]
 ·
  try simp only [Bool.and_eq_true, Bool.or_eq_true, Bool.not_eq_true', Bool.not_eq_false', Bool.and_eq_false_iff, Bool.or_eq_false_iff, decide_eq_true_eq, decide_eq_false_iff_not] at hc1
  refine VC.skip (VQ.then_code (VC.seq (VC.region (VO.mv (Rn.move rfl) rfl rfl rfl (VO.mv (Rn.assign rfl) rfl rfl rfl (VO.nil (VQ.then_code ?_)))))))
  refine VC.ret (VQ.ret1 rfl rfl (Ret.mk ?_))
  have CH_1 := (Ch.refl (No) w).and c1
  refine ⟨?_, CH_1⟩; unfold timesC; rw [if_pos hc1]
set_option maxRecDepth 100000 in
theorem planner_blueCost (n m cm : Int) (w : World) (h1 : 0 ≤ n) (h2 : n ≤ 65536) (h3 : 0 ≤ m) (h4 : m ≤ 65536) (h5 : -1 ≤ cm) (h6 : cm ≤ 4611686018427387905) :
  Calls Tryz.prog 79 #[.int .i64 n, .int .i64 m, .int .i64 cm] w (Ret (fun v w' => v = .int .i64 (blueC n m cm) ∧ Ch No w w')) := by
 have t1 := timesS_bd (show (0 : Int) ≤ 3 by omega) (by omega) h5
 refine calls_of_VC (args := [.int .i64 n, .int .i64 m, .int .i64 cm]) Tryz.func79 rfl Tryz.ntmps79 rfl (VC.seq (VC.region (VO.mv (Rn.assign rfl) rfl rfl rfl (VO.nil (VQ.then_code (VC.seq (VC.region ?_)))))))
 refine VO.mv (Rn.move rfl) rfl rfl rfl (VO.wk (Wk.call Tryz.call109 rfl (planner_times _ _ _ (by omega) (by omega) (by omega) (by omega))) rfl rfl rfl ?_)
 rintro _ _ ⟨rfl, rfl⟩
 refine VO.mv (Rn.move rfl) rfl rfl rfl ?_
 refine VO.mv (Rn.mul rfl rfl (by rw [IntKind.wrap_i64]; omega)) rfl rfl rfl ?_
 refine VO.mv (Rn.move rfl) rfl rfl rfl ?_
 refine VO.mv (Rn.mul rfl rfl (by rw [IntKind.wrap_i64]; omega)) rfl rfl rfl ?_
 refine VO.wk (Wk.lit Tryz.underlying69 inf3w4 (by decide) rfl rfl (by rfl) (by decide) (by decide) (by rfl)) rfl rfl rfl ?_
 rintro _ w1 ⟨p1, rfl, N1⟩
 have c1 := N1.ch
 have e1 := N1.p; have z1 := N1.size
 have l13 := SlR.of_new (sz := 1) (l := 3) N1 rfl
 have l13o := Ow.of_new (sz := 1) (l := 3) N1 rfl (by decide)
 refine VO.wk (Wk.call Tryz.call108 rfl (planner_plus _ [timesS 3 cm, 12 * n, 10 * m] _ _ _ l13 (by simp) (by simp; omega))) rfl rfl rfl ?_
 rintro _ _ ⟨rfl, rfl⟩
 refine VO.mv (Rn.assign rfl) rfl rfl rfl (VO.nil (VQ.then_code (VC.ret (VQ.ret1 rfl rfl (Ret.mk ?_)))))
 have CH_1 := (Ch.refl (No) w).and c1
 exact ⟨rfl, CH_1⟩
set_option maxRecDepth 100000 in
theorem planner_cost (k n : Int) (A : Option Addr) (c : Nat) (w : World) (hk : k = 1 ∨ k = 2) (h1 : 0 ≤ n) (h2 : n ≤ 65536) :
  Calls Tryz.prog 72 #[.agg #[.int .i64 k, .int .i64 n, .slice A 0 c]] w (Ret (fun v w' => v = .int .i64 (lcost k n) ∧ Ch No w w')) := by
 have hs := sq_bd h1 h2
 refine calls_of_VC (args := [.agg #[.int .i64 k, .int .i64 n, .slice A 0 c]]) Tryz.func72 rfl Tryz.ntmps72 rfl (VC.seq (VC.region (VO.wk (Wk.box rfl) rfl rfl rfl ?_)))
 rintro _ w1 ⟨p1, rfl, N1⟩
 have c1 := N1.ch
 have e1 := N1.p; have z1 := N1.size
 have b1 := Bk.new N1
 refine VO.mv (Rn.assign rfl) rfl rfl rfl (VO.nil (VQ.then_code (VC.seq (VC.seq (VC.region (VO.mv (Rn.field Tryz.underlying84 rfl Tryz.sizeOf3 rfl rfl rfl) rfl rfl rfl (VO.mv (Rn.load Tryz.isAgg3 rfl (b1.cell rfl)) rfl rfl rfl ?_)))))))
 refine VO.nil (VQ.then_code (VC.block (VC.seq (VC.region (VO.mv (Rn.eql rfl rfl) rfl rfl rfl (VO.mv (Rn.assign rfl) rfl rfl rfl (VO.nil ?_)))))))
 refine VQ.then_code (VC.cond_if rfl (fun hc1 => ?_) (fun hc1 => ?_))
 ·
  refine VC.seq (VC.region (VO.mv (Rn.field Tryz.underlying84 rfl Tryz.sizeOf3 rfl rfl rfl) rfl rfl rfl (VO.mv (Rn.load Tryz.isAgg3 rfl (b1.cell rfl)) rfl rfl rfl ?_)))
  refine VO.mv (Rn.mul rfl rfl (by rw [IntKind.wrap_i64]; omega)) rfl rfl rfl ?_
  refine VO.mv (Rn.field Tryz.underlying84 rfl Tryz.sizeOf3 rfl rfl rfl) rfl rfl rfl (VO.mv (Rn.load Tryz.isAgg3 rfl (b1.cell rfl)) rfl rfl rfl ?_)
  refine VO.mv (Rn.mul rfl rfl (by rw [IntKind.wrap_i64]; omega)) rfl rfl rfl ?_
  refine VO.mv (Rn.assign rfl) rfl rfl rfl (VO.nil (VQ.then_code (VC.ret (VQ.block_ret (VQ.then_ret (VQ.ret1 rfl rfl (Ret.mk ?_)))))))
  have CH_1 := (Ch.refl (No) w).and c1
  refine ⟨?_, CH_1⟩; unfold lcost; rw [if_pos hc1]
 ·
  refine VC.seq (VC.region (VO.mv (Rn.eql rfl rfl) rfl rfl rfl (VO.mv (Rn.assign rfl) rfl rfl rfl (VO.nil (VQ.then_code (VC.cond_if rfl (fun hc2 => ?_) (fun hc2 => ?_)))))))
  ·
   refine VC.seq (VC.region (VO.mv (Rn.field Tryz.underlying84 rfl Tryz.sizeOf3 rfl rfl rfl) rfl rfl rfl (VO.mv (Rn.load Tryz.isAgg3 rfl (b1.cell rfl)) rfl rfl rfl (VO.wk (Wk.call Tryz.call104 rfl (planner_work _ _ )) rfl rfl rfl ?_))))
   rintro _ _ ⟨rfl, rfl⟩
   refine VO.mv (Rn.assign rfl) rfl rfl rfl (VO.nil (VQ.then_code (VC.ret (VQ.block_ret (VQ.then_ret (VQ.ret1 rfl rfl (Ret.mk ?_)))))))
   have CH_1 := (Ch.refl (No) w).and c1
   refine ⟨?_, CH_1⟩; unfold lcost; rw [if_neg hc1]
  ·
   exact absurd hk (by omega)
end Go.Tm
namespace Go.Tm
open Go.RowKit
def NoPO (Q : Exit → Act → World → Prop) : Exit → Act → World → Prop
  | .panic _, _, _ => False
  | .outgrown, _, _ => False
  | e, a, w => Q e a w
theorem NoPO.letsOut {Q : Exit → Act → World → Prop} : ¬ LetsOut (NoPO Q) := fun ⟨_, _, h⟩ => h
def notDef (o : Oper) : Bool := match o.op with
  | .defer _ => false
  | _ => true
theorem notDef_spec {o : Oper} (h : notDef o = true) : ∀ c, o.op ≠ .defer c := by
  intro c e
  simp [notDef, e] at h
section
variable {P : Program} {rr : Option Nat} {Q : Exit → Act → World → Prop} {ops : Array Oper}
theorem calls_fw {f : FuncId} {args : Array Value} {w : World} {R : Ending → World → Prop} {m : Nat} (h : Calls P f args w R) : CallsIn (Fw rr) m P f args w R := (callsIn_wide (n := m)).2 h
theorem rows_fw {row : String} {args : Array Value} {w : World} {R : Value → World → Prop} {m : Nat} (h : Rows P row args w R) : RowsIn (Fw rr) m P row args w R :=
  fun c cs _ => let ⟨v, w', r, s⟩ := h c cs; ⟨v, w', r, (stepsIn_wide (P := P)).2 s⟩
theorem op_fw {o : Oper} {a : Act} {w : World} {K K' : Act → World → Prop} (hd : notDef o = true) (hK : ∀ a w, K a w → K' a w) (h : o.wp P a w K (NoPO Q)) : o.wpIn (Fw rr) 0 P a w K' Q := by
  refine ⟨fun _ _ => trivial, ?_⟩
  rw [Oper.semAt_eq _ _ _ (notDef_spec hd)]
  unfold Oper.wp at h
  generalize (execOp a.eval o).run P w = res at h
  cases res with
  | ok x w' =>
    cases x <;> simp only [Oper.upon, Oper.uponIn] at h ⊢ <;> first
      | exact hK _ _ h
      | exact ⟨fun e => by simp [Fw, Fence.wide] at e, calls_fw (h.mono fun e w'' he => by cases e <;> first | exact hK _ _ he | exact he.elim | exact (NoPO.letsOut he).elim)⟩
      | exact ⟨fun e => by simp [Fw, Fence.wide] at e, rows_fw (h.mono fun _ _ he => hK _ _ he)⟩
      | exact h.elim
  | halt x w' => cases x <;> simp only [Oper.upon, Oper.uponIn] at h ⊢ <;> first | exact h.elim | exact h
theorem list_fw : ∀ (l : List Oper) (a : Act) (w : World), l.all notDef = true → wpList P ops (NoPO Q) l a w → wpListIn (Fw rr) 0 P ops Q l a w
  | [], _, _, _, h => h
  | o :: l, a, w, hd, h => by
    simp only [List.all_cons, Bool.and_eq_true] at hd
    simp only [wpList, wpListIn] at h ⊢
    split
    · rename_i hw
      rw [if_pos hw] at h
      rcases h with h | h
      · exact op_fw hd.1 (fun a w => list_fw l a w hd.2) h
      · exact (NoPO.letsOut h.2).elim
    · rename_i hw
      rw [if_neg hw] at h
      exact ⟨fun _ _ => trivial, list_fw l _ w hd.2 h⟩
theorem any_fw {md : Region.Mode} (hd : ops.toList.all notDef = true) : ∀ (fuel : Nat) (listed : Array Bool) (a : Act) (w : World), wpAny P md ops (NoPO Q) fuel listed a w → wpAnyIn (Fw rr) 0 P md ops Q fuel listed a w
  | 0, _, _, _, h => h
  | fuel + 1, listed, a, w, h => by
    refine ⟨h.1, fun i hi => ?_⟩
    have h2 := h.2 i hi
    unfold wpOp at h2
    unfold wpOpIn
    cases ho : ops[i]? with
    | none => rw [ho] at h2; exact any_fw hd fuel _ a w h2
    | some o =>
      rw [ho] at h2
      simp only at h2 ⊢
      have hdo : notDef o = true := List.all_eq_true.1 hd o (by have := Array.mem_of_getElem? ho; simpa using this)
      split
      · rename_i hw
        rw [if_pos hw] at h2
        rcases h2 with h2 | h2
        · exact op_fw hdo (fun a w => any_fw hd fuel _ a w) h2
        · exact (NoPO.letsOut h2.2).elim
      · rename_i hw
        rw [if_neg hw] at h2
        exact ⟨fun _ _ => trivial, any_fw hd fuel _ _ w h2⟩
end
section
variable {P : Program} {rr : Option Nat} {n : Fr} {Q : Exit → Act → World → Prop} {k : K} {w : World}
theorem VC.regionR {id : Nat} {l : List Oper} (hd : l.all notDef = true) (h : VO P n l.toArray (NoPO Q) l k w) : VC (r := rr) P n (.region id l.toArray false) Q k w := fun a ha => wpIn_region_lit (list_fw l a w hd (h a ha))
theorem VC.drawsR {id : Nat} {l : List Oper} (m : Nat) (order : List (Nat × Bool)) (S : World → World → Prop) (hm : P.follows .mixedOrders = true) (hd : l.all notDef = true) (hB : Region.orderOk .any l.toArray m order = true) (hS : ∀ w1, w1 = w.drew → S w1 w1)
    (h : ∀ w1, w1 = w.drew → VH P n l.toArray (NoPO Q) (S w1) (fun a' w' => wpList P l.toArray (NoPO Q) (l.drop m) a' w') order k w1) : VC (r := rr) P n (.region id l.toArray true) Q k w :=
  fun a ha => wpIn_region_any hm (any_fw (by simpa using hd) _ _ a _ (any_of_order m order (S w.drew) hB (fun _ _ _ _ _ h => h) (hS _ rfl) (h _ rfl a ha)))
theorem VQ.noPO (h : VQ n Q .normal k w) : VQ n (NoPO Q) .normal k w := h
end
section
variable {P : Program} {n : Fr} {ops : Array Oper} {Q : Exit → Act → World → Prop} {k : K} {w : World} {rest : List Oper} {o : Oper}
def VY (P : Program) (n : Fr) (ops : Array Oper) (Q : Exit → Act → World → Prop) (l : List Oper) (k : K) (w : World) : Prop := ∀ a, Fits n k a → wpListIn (Fw none) 0 P ops Q l a w
theorem VC.regionY {id : Nat} {l : List Oper} (h : VY P n l.toArray Q l k w) : VC (r := none) P n (.region id l.toArray false) Q k w := fun a ha => wpIn_region_lit (h a ha)
theorem VY.nil (h : VQ n Q .normal k w) : VY P n ops Q [] k w := fun a ha => h a ha
theorem VY.skip {d : Nat} (hd : o.dst = some d) (hg : guardOk ops k o.guard = some false) (hn : Nat.blt d n.sz = true) (h : VY P n ops Q rest ((d, undef) :: k) w) : VY P n ops Q (o :: rest) k w := by
  intro a ha
  unfold wpListIn
  rw [guardOk_wanted hg ha]
  simp only [Bool.false_eq_true, if_false]
  rw [hd]
  exact ⟨fun _ _ => trivial, h _ (ha.put hn _)⟩
theorem VY.mv {d : Nat} {v : Value} (hr : Rn P n k w o v) (hd : o.dst = some d) (hg : guardOk ops k o.guard = some true) (hn : Nat.blt d n.sz = true)
    (h : VY P n ops Q rest ((d, v) :: k) w) : VY P n ops Q (o :: rest) k w := by
  intro a ha
  unfold wpListIn
  rw [guardOk_wanted hg ha]
  simp only [if_true]
  refine ⟨fun _ _ => trivial, ?_⟩
  show Oper.uponIn _ _ _ _ _ _ _ ((Oper.semAt none a.eval o).run P w)
  rw [Oper.semAt_none, hr a ha, Oper.uponIn_value, hd]
  exact h _ (ha.put hn _)
theorem VY.split {b : Bool} {l : List Oper} (t : Nat) (hb : kget k t = some (.bool b)) (ht : b = true → VY P n ops Q l ((t, .bool true) :: k) w) (hf : b = false → VY P n ops Q l ((t, .bool false) :: k) w) : VY P n ops Q l k w := by
  intro a ha
  have h := ha.set hb
  cases b
  · exact hf rfl a h
  · exact ht rfl a h
theorem VY.split_if {p : Prop} [Decidable p] {l : List Oper} (t : Nat) (hb : kget k t = some (.bool (decide p))) (ht : p → VY P n ops Q l ((t, .bool true) :: k) w) (hf : ¬ p → VY P n ops Q l ((t, .bool false) :: k) w) : VY P n ops Q l k w :=
  VY.split t hb (fun h => ht (of_decide_eq_true h)) (fun h => hf (of_decide_eq_false h))
theorem VY.yield {d l : Nat} {x : Operand} {xs : List Operand} {vs : List Value} {ts : Array TypeId} {ty : TypeId} {pos : String} {aft : Array Edge} {g : Option (Nat × Bool)} {R : Ending → World → Prop}
    (hx : ev k x = some (.func (.yield l) #[] #[])) (hxs : evs k xs = some vs) (hy : YieldAt Fence.wide 0 P l vs.toArray w R) (hg : guardOk ops k g = some true) (hn : Nat.blt d n.sz = true)
    (h : ∀ e w', R e w' → ∃ b, e = .returned (.bool b) ∧ VY P n ops Q rest ((d, .bool b) :: k) w') :
    VY P n ops Q ({ dst := some d, op := .call { callee := .value x, args := xs.toArray, argTypes := ts }, type := ty, pos := pos, after := aft, guard := g } :: rest) k w := by
  intro a ha
  unfold wpListIn
  rw [guardOk_wanted (o := { dst := some d, op := .call { callee := .value x, args := xs.toArray, argTypes := ts }, type := ty, pos := pos, after := aft, guard := g }) hg ha]
  simp only [if_true]
  refine ⟨fun _ _ => trivial, ?_⟩
  obtain ⟨fn, tmps, assign, body, hr, hround⟩ := hy
  have he := ha.evals hxs
  have hrun : (execOp a.eval { dst := some d, op := .call { callee := .value x, args := xs.toArray, argTypes := ts }, type := ty, pos := pos, after := aft, guard := g }).run P w = .ok (.round l fn tmps assign body) w := by
    simp [execOp, resolve, ha.eval hx, Deferred.ofValue, invoke, he, hr]
  show Oper.uponIn _ _ _ _ _ _ _ ((Oper.semAt none a.eval _).run P w)
  rw [Oper.semAt_none, hrun, Oper.uponIn_round]
  refine ⟨fun e => by simp [Fw, Fence.wide] at e, RoundIn.mono hround ?_⟩
  intro e w' he'
  obtain ⟨b, rfl, hv⟩ := h e w' he'
  exact hv _ (ha.put hn _)
end
def Gn (B : Nat) (w w' : World) : Prop := Ch (fun q => B ≤ q ∧ ∃ o, w.heap[q]? = some o ∧ o.isCells = false) w w'
theorem Gn.of {B : Nat} {w w' : World} {row : Option Nat} (h : w.grownBy w' row) (hr : ∀ r, row = some r → B ≤ r ∧ ∃ o : Obj, w.heap[r]? = some o ∧ o.isCells = false) : Gn B w w' := by
  obtain ⟨h1, h2, h3, h4, h5⟩ := h
  refine ⟨h1, h2, h3, h4, fun q x hq hx => (h5 q (blk_lt hx) (fun e => hq (hr q e.symm))).trans hx⟩
theorem notC {w : World} {q B : Nat} (h : isC w q) : ¬ (B ≤ q ∧ ∃ o, w.heap[q]? = some o ∧ o.isCells = false) := by
  obtain ⟨cs, t, fr, h⟩ := h
  rintro ⟨_, o, h1, h2⟩
  rw [h] at h1
  injection h1 with h1
  subst h1
  cases h2
section
variable {B : Nat} {w w' : World} (g : Gn B w w')
include g
theorem Bk.toG {p : Nat} {cs : Array Value} {t : TypeId} (h : Bk w p cs t) : Bk w' p cs t := h.to g (notC ⟨_, _, _, h.blk⟩)
theorem SlR.toG {S : Nat → Prop} {A : Option Addr} {l sz : Nat} {cs : List Value} (h : SlR S w A l sz cs) : SlR S w' A l sz cs := h.to g fun _ _ _ hx => notC hx
theorem CaR.toG {S : Nat → Prop} {ad : Addr} {cs : List Value} (h : CaR S w ad cs) : CaR S w' ad cs := h.to g fun _ _ _ hx => notC hx
theorem RdK.toG {S : Nat → Prop} {A : Option Addr} {ks : List Ord} (h : RdK S w A ks) : RdK S w' A ks := h.to g fun _ _ _ hx => notC hx
theorem Ow.toG {r : Nat} {e : TypeId} {sz : Nat} {A : Option Addr} {l c : Nat} {cs : List Value} (h : Ow w r e sz A l c cs) : Ow w' r e sz A l c cs := h.to g fun _ _ _ hx => notC hx
theorem Ch.toG {D : Nat → Prop} {w0 : World} (h : Ch D w0 w) (hB : w0.heap.size ≤ B) : Ch D w0 w' := h.then g fun q hq h => h.elim id fun ⟨hb, _⟩ => absurd hq (by omega)
end
def KpB (p : Nat) (w w' : World) : Prop := ∀ x, w.heap[p]? = some x → w'.heap[p]? = some x
theorem KpB.trans {p : Nat} {A B C : World} (h : KpB p A B) (h' : KpB p B C) : KpB p A C := fun x hx => h' x (h x hx)
theorem KpB.putObj {p B : Nat} (hp : p < B) (W : World) (l : Nat) (o o' : Obj) (hl : B ≤ l) (_ : W.heap[l]? = some o) (_ : o.isCells = false) (_ : o.isWalk = false) : KpB p W (W.putObj l o') :=
  fun x hx => (World.putObj_heap_other (by omega)).trans hx
theorem KpB.of {p : Nat} {D : Nat → Prop} {w w' : World} (c : Ch D w w') (hd : ¬ D p) : KpB p w w' := fun x hx => c.old p x hd hx
theorem VC.rangeFunc {α : Type} {P : Program} {n : Fr} {Q : Exit → Act → World → Prop} {k : K} {w : World} {g : Operand} {p d id : Nat} {ty : TypeId} {pos : String} {aft : Array Edge} {body : Code} {gf : Nat} {lb : Array Value}
    (hg : ev k g = some (.func (.func gf) #[] lb)) (eg : ∀ args w, (callFunc gf args).run P w = .ok (.enter gf args) w)
    {enc : α → Value} {Kp : World → World → Prop} {S Sp : List α → Prop} {N : Nat} {w0 : World} (hseq : SeqStopsK Fence.wide 0 P gf lb (fun x => #[enc x]) Kp S Sp N w0)
    (hKt : ∀ {A B C : World}, Kp A B → Kp B C → Kp A C) (hKb : ∀ (W : World) (l : Nat) (o o' : Obj), w.heap.size ≤ l → W.heap[l]? = some o → o.isCells = false → o.isWalk = false → Kp W (W.putObj l o')) (hb0 : Below w0.heap.size w0 w)
    (hp : Nat.blt p n.sz = true) (hd : Nat.blt d n.sz = true)
    (I : List α → World → Prop) (Ix : Code → List α → World → Prop) (hI : OwnFrom w.heap.size I) (hIx : ∀ c, OwnFrom w.heap.size (Ix c)) (h0 : I [] w)
    (hbody : ∀ (l : Nat) (pre : List α) (x : α) (W : World), I pre W → pre.length < N → VC (r := some l) P ⟨n.sz, []⟩ body (ownPostG w.heap.size Kp I Ix (pre ++ [x]) W) ((d, enc x) :: (p, enc x) :: k) W)
    (hdone : ∀ (D : Nat) (xs : List α) (W : World), w.heap.size ≤ D → S xs → I xs W → W.heap[D]? = some (.deferred (some [])) → VQ ⟨n.sz, { target := .collected D, args := #[] } :: n.ds⟩ Q .normal k W)
    (hstop : ∀ (D : Nat) (c : Code) (pre : List α) (W : World), w.heap.size ≤ D → Sp pre → Ix c pre W → W.heap[D]? = some (.deferred (some [])) → VC (r := none) P ⟨n.sz, { target := .collected D, args := #[] } :: n.ds⟩ c Q k W) :
    VC (r := none) P n (.rangeFunc g #[p] (.region id #[{ dst := some d, op := .assign (.tmp p), type := ty, pos := pos, after := aft, guard := none }] false) body) Q k w := by
  intro a ha
  have hpn : p < n.sz := by simpa [Nat.blt_eq] using hp
  have hdn : d < n.sz := by simpa [Nat.blt_eq] using hd
  have key : ∀ m, (Code.rangeFunc g #[p] (.region id #[{ dst := some d, op := .assign (.tmp p), type := ty, pos := pos, after := aft, guard := none }] false) body).wpIn Fence.wide 1 P Q a w → (Code.rangeFunc g #[p] (.region id #[{ dst := some d, op := .assign (.tmp p), type := ty, pos := pos, after := aft, guard := none }] false) body).wpIn (Fw none) m P Q a w :=
    fun m h => (wpIn_wide (n := m)).2 (wpIn_wide.1 h)
  refine key 0 ?_
  have hfr : ∀ (x : α), Fits ⟨n.sz, []⟩ ((d, enc x) :: (p, enc x) :: k) { tmps := (a.tmps.setIfInBounds p (enc x)).setIfInBounds d (enc x), defers := [] } := by
    intro x
    have h1 : Fits ⟨n.sz, []⟩ k { tmps := a.tmps, defers := [] } := ⟨rfl, ha.size, ha.known⟩
    exact (h1.put (d := p) (by simpa using hp) (enc x)).put (d := d) (by simpa using hd) (enc x)
  refine wpIn_rangeFunc_ownG rfl (Nat.le_refl _) (ha.eval hg) trivial eg (n := 1) hseq hKt hKb hb0 (fun _ => rfl) I Ix hI hIx h0 (fun x => { tmps := (a.tmps.setIfInBounds p (enc x)).setIfInBounds d (enc x), defers := [] }) ?_ ?_ ?_ ?_
  · intro l x W K hK
    refine wpIn_region_lit (l := [_]) ?_
    simp only [wpListIn, Region.wanted, if_true]
    refine ⟨fun _ _ => trivial, ?_⟩
    rw [Oper.semAt_eq _ _ _ (by intro c e; cases e)]
    have hps : p < a.tmps.size := by rw [ha.size]; exact hpn
    simp [execOp, Oper.uponIn, Act.put, Act.eval, Exit.then, hps]
    exact hK
  · intro l pre x W hi hl
    exact hbody l pre x W hi hl _ (hfr x)
  · intro D xs W hD hS hi hk
    exact hdone D xs W hD hS hi hk _ ⟨by simp [ha.defers], ha.size, ha.known⟩
  · intro D c pre W hD hS hi hk
    exact wpIn_wide.2 (wpIn_none.1 (hstop D c pre W hD hS hi hk _ ⟨by simp [ha.defers], ha.size, ha.known⟩))
theorem calls_of_VCM {P : Program} {n : Nat} {f : FuncId} {fn : Func} {c : Code} {args : List Value} {w : World} {R : Ending → World → Prop} (hf : P.funcs[f]? = some fn) (hb : fn.body = some c) (hn : fn.ntmps = n)
  (hlen : Nat.ble args.length n = true) (h : VC (r := none) P ⟨n, []⟩ c (bodyPostM Fence.wide 0 P fn R) (kargs args 0) w) : Calls P f args.toArray w R := by
 refine callsIn_wide.1 (callsIn_of_wp_marks (n := 0) hf hb trivial (h _ ?_))
 have hl : args.length ≤ n := Nat.le_of_ble_eq_true hlen
 refine ⟨rfl, by simp [hn]; omega, fun i v hi => ?_⟩
 obtain ⟨_, h2⟩ := kargs_known args 0 i v hi
 rw [Nat.sub_zero] at h2
 have hlt : i < args.length := (List.getElem?_eq_some_iff.1 h2).1
 rw [Array.getElem?_append_left (by simpa using hlt)]
 simpa using h2
section
variable {P : Program} {m : Nat} {k : K} {w : World} {fn : Func} {R : Ending → World → Prop}
theorem VQ.toM (h : VQ ⟨m, []⟩ (bodyPost P fn R) .ret k w) : VQ ⟨m, []⟩ (bodyPostM Fence.wide 0 P fn R) .ret k w := by
  intro a ha
  obtain ⟨hd, hv⟩ := h a ha
  show LeavesInM _ _ _ _ _ _ a.defers _ _
  rw [hd]
  exact hv
theorem VQ.dropD {D : Nat} (hD : w.heap[D]? = some (.deferred (some []))) (h : ∀ w', w' = w.putObj D (.deferred none) → VQ ⟨m, []⟩ (bodyPostM Fence.wide 0 P fn R) .ret k w') : VQ ⟨m, [{ target := .collected D, args := #[] }]⟩ (bodyPostM Fence.wide 0 P fn R) .ret k w := by
  intro a ha
  have h1 := h _ rfl { a with defers := [] } ⟨rfl, ha.size, ha.known⟩
  show LeavesInM _ _ _ _ _ _ a.defers _ _
  rw [ha.defers]
  exact ⟨by simp, .inl ⟨_, _, rfl, run_takeDeferred hD, h1⟩⟩
theorem Gn.put {B D : Nat} {o : Obj} (hD : w.heap[D]? = some (.deferred (some []))) (hB : B ≤ D) : Gn B w (w.putObj D o) := Gn.of (grownBy_putObj' _ _ _) (fun r e => by cases e; exact ⟨hB, _, hD, rfl⟩)
end
structure Df (w : World) (D : Nat) : Prop where
  blk : w.heap[D]? = some (.deferred (some []))
theorem Df.to {w w' : World} {p : Nat} (h : Df w p) {D : Nat → Prop} (c : Ch D w w') (hd : ¬ D p) : Df w' p := ⟨c.old _ _ hd h.blk⟩
theorem Df.keep {w w' : World} {p : Nat} (h : Df w p) (c : Ch No w w') : Df w' p := h.to c id
theorem Df.lt {w : World} {p : Nat} (h : Df w p) : p < w.heap.size := blk_lt h.blk
theorem VQ.roundF {α : Type} {n : Fr} {k : K} {W w' : World} {B : Nat} {Kp : World → World → Prop} {I : List α → World → Prop} {Ix : Code → List α → World → Prop} {xs : List α} {D : Nat → Prop} (hc : Ch D W w') (hD : ∀ q, D q → q < B) (hk : Kp W w') (hI : I xs w') :
    VQ n (ownPostG B Kp I Ix xs W) .normal k w' := fun _ _ => ⟨⟨hc.size, fun q o hB hq _ => hc.old q o (fun h => by have := hD q h; omega) hq⟩, hk, hI⟩
end Go.Tm
namespace Go.Tm
def upGo (n : Int) : Nat → List Int
  | 0 => []
  | c + 1 => upGo n c ++ (if n % ((c : Int) + 1) = 0 then [(c : Int) + 1] else [])
def dnGo (n : Int) (e : Nat) : Nat → List Int
  | 0 => []
  | c + 1 => dnGo n e c ++ (if n % ((e : Int) - c) = 0 ∧ n / ((e : Int) - c) ≥ (e : Int) - c then [n / ((e : Int) - c)] else [])
def divsAt (n : Int) (e : Nat) : List Int := upGo n (e - 1) ++ dnGo n e e
def DivE (n : Int) (e : Nat) : Prop := 1 ≤ e ∧ (e = 1 ∨ ((e : Int) - 1) * ((e : Int) - 1) < n) ∧ n ≤ (e : Int) * e
theorem upGo_len (n : Int) : ∀ c, (upGo n c).length ≤ c
  | 0 => by simp [upGo]
  | c + 1 => by
    have := upGo_len n c
    simp only [upGo, List.length_append]
    split <;> simp <;> omega
theorem dnGo_len (n : Int) (e : Nat) : ∀ c, (dnGo n e c).length ≤ c
  | 0 => by simp [dnGo]
  | c + 1 => by
    have := dnGo_len n e c
    simp only [dnGo, List.length_append]
    split <;> simp <;> omega
theorem sq_lt {c : Nat} {n : Int} (h : (c : Int) * c < n) (hn : n ≤ 4294967296) : c < 65536 := by
  rcases Nat.lt_or_ge c 65536 with h1 | h1
  · exact h1
  · have := Int.mul_le_mul (show (65536 : Int) ≤ c by omega) (show (65536 : Int) ≤ c by omega) (by omega) (by omega)
    omega
theorem sq_le {c : Int} (h0 : 0 ≤ c) (h1 : c ≤ 65537) : 0 ≤ c * c ∧ c * c ≤ 4295098369 :=
  ⟨Int.mul_nonneg h0 h0, Int.le_trans (Int.mul_le_mul h1 h1 h0 (by omega)) (by decide)⟩
theorem quo_bd {n d : Int} (h0 : 0 ≤ n) (h1 : 1 ≤ d) : 0 ≤ n / d ∧ n / d ≤ n := ⟨Int.ediv_nonneg h0 (by omega), Int.ediv_le_self d h0⟩
theorem DivE.mk' {n : Int} {c : Nat} (hc : c = 0 ∨ (c : Int) * c < n) (h : ¬ ((c : Int) + 1) * ((c : Int) + 1) < n) : DivE n (c + 1) := by
  refine ⟨by omega, ?_, ?_⟩
  · rcases hc with rfl | hc
    · exact .inl rfl
    · right
      simpa using hc
  · simp only [Int.natCast_add, Int.natCast_one]
    omega
theorem divE_ok {n d : Int} (h1 : 1 ≤ n) (hd : 1 ≤ d) (h : n % d = 0) : 1 ≤ n / d ∧ n / d ≤ n ∧ n % (n / d) = 0 := by
  have e : n / d * d = n := Int.ediv_mul_cancel (Int.dvd_of_emod_eq_zero h)
  have h2 := quo_bd (show 0 ≤ n by omega) hd
  have h3 : n / d ≠ 0 := by intro e0; rw [e0] at e; omega
  refine ⟨by omega, h2.2, ?_⟩
  exact Int.emod_eq_zero_of_dvd ⟨d, e.symm⟩
end Go.Tm
