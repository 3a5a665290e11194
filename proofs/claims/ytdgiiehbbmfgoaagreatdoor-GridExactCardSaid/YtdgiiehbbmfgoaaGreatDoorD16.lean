/- Lemmas of this claim, joined by program. Walks of functions: grids turned, cloned, transformed in two dimensions. Conditions: each lemma names its own. -/
import Derived.Test.YtdgiiehbbmfgoaaGreatDoorD15
set_option linter.all false
namespace Go.Tm
open Go.RowKit Go.Proofs
theorem dm_bd {R C : Nat} (hR : 1 ≤ R ∧ R ≤ 4) (hC : 1 ≤ C ∧ C ≤ 4) (k : Nat) : 1 ≤ dm R C k ∧ dm R C k ≤ 4 := by unfold dm; split <;> assumption
theorem dm_mul (R C k : Nat) : dm R C k * dm C R k = R * C := by unfold dm; split; rfl; exact Nat.mul_comm C R
theorem dm_N3 {R C : Nat} (hR : N3 R) (hC : N3 C) (k : Nat) : N3 (dm R C k) := by unfold dm; split <;> assumption
theorem N3.bd {n : Nat} (h : N3 n) : 1 ≤ n ∧ n ≤ 4 := by have := h.h; omega
set_option maxRecDepth 100000 in
theorem inf53w68 : Inf Tryz.prog 53 (.complex .f64 0 0) 1 16 := ⟨Tryz.t53, Tryz.type53, rfl, rfl, rfl⟩
theorem bld52_0_1_2w68 {v0 v1 v2 : Value} (h : [v0, v1, v2].all Value.oneCell' = true) (w : World) : (Instr.build 52 ([(0, v0), (1, v1), (2, v2)] : List (Nat × Value)).toArray).run Tryz.prog w = .ok (.agg #[v0, v1, v2]) w := by
  simp only [List.all_cons, Bool.and_eq_true, List.all_nil, and_true] at h
  have hv0 := oneCell_cells (v := v0) (by simp_all)
  have hv1 := oneCell_cells (v := v1) (by simp_all)
  have hv2 := oneCell_cells (v := v2) (by simp_all)
  have h1 := fill_set (fun i => ([(0, 1), (1, 1), (2, 1)] : List (Nat × Nat))[i]?) [(0, v0), (1, v1), (2, v2)] [.int .i64 0, .int .i64 0, .slice none 0 0] (by simp [okF, agg_cells, hv0, hv1, hv2, Nat.beq, Nat.ble])
  simp [setF, agg_cells, hv0, hv1, hv2] at h1
  simp [Instr.build, Tryz.runUnderlying52, Tryz.zeroValue52, Tryz.sizeOf3, Tryz.sizeOf39, agg_cells, h1]
set_option maxHeartbeats 2000000 in
set_option maxRecDepth 100000 in
theorem grid_turned (SX : Nat → Prop) (R C NN : Nat) (A : Option Addr) (cap : Nat) (zs : List CB) (f g : Nat → Nat → Int) (w : World) (sx : SlR SX w A NN 1 (zs.map cxV)) (hX : ∀ q, SX q → q < w.heap.size) (hR : 1 ≤ R ∧ R ≤ 4) (hC : 1 ≤ C ∧ C ≤ 4) (hN : NN = R * C) (hz : GrU R C f g zs)  :
  Calls Tryz.prog 74 #[.agg #[.int .i64 R, .int .i64 C, .slice A NN cap]] w (Ret (fun v w' => ∃ q os, v = .agg #[.int .i64 C, .int .i64 R, .slice (some ⟨q, 0, none⟩) NN NN] ∧ CR 53 w' (q + 1) (some ⟨q, 0, none⟩) NN NN os ∧ GrU C R (fun j i => f i j) (fun j i => g i j) os ∧ w.heap.size ≤ q ∧ Ch No w w')) := by
 have hNb : NN ≤ 16 := by rw [hN]; exact Nat.mul_le_mul hR.2 hC.2
 have hN0 : 0 < NN := by rw [hN]; exact Nat.mul_pos hR.1 hC.1
 have hNm : (R : Int) * (C : Int) = (NN : Int) := by rw [hN, Int.natCast_mul]
 refine calls_of_VC (args := [.agg #[.int .i64 R, .int .i64 C, .slice A NN cap]]) Tryz.func74 rfl Tryz.ntmps74 rfl (VC.seq (VC.region (VO.wk (Wk.box rfl) rfl rfl rfl ?_)))
 rintro _ w1 ⟨p1, rfl, N1⟩
 have c1 := N1.ch
 have e1 := N1.p; have z1 := N1.size
 have b1 := Bk.new N1
 refine VO.wk (Wk.alloc Tryz.zeroValue52) rfl rfl rfl ?_
 rintro _ w2 ⟨p2, rfl, N2⟩
 have c2 := N2.ch
 have e2 := N2.p; have z2 := N2.size
 have b2 := Bk.new N2
 refine VO.nil (VQ.then_code (VC.seq (VC.drawsT 10 (.mv 0 (.mv 1 (.mv 2 (.mv 3 (.mv 4 (.mv 5 (.mv 6 (.two 7 (.mv 8 (.wk 9 .nil)) 9 (.wk 7 (.mv 8 .nil)))))))))) (fun w1 w' => Ch (No) w1 w') mixed (by kernel_rfl) (fun _ _ => Ch.refl _ _) ?_)))
 intro w3 D3
 have c3 := Ch.of_drew D3; have z3 := c3.size
 have sx_3 := sx.keep (c1.trans (c2.trans c3))
 have b1_3 := b1.keep (c2.trans c3)
 have b2_3 := b2.keep c3
 refine VT.mv (fun w' hS => Rn.field Tryz.underlying52 rfl Tryz.sizeOf3 rfl rfl rfl) rfl rfl rfl rfl (VT.mv (fun w' hS => Rn.load Tryz.isAgg3 rfl ((b1_3.keep hS).cell rfl)) rfl rfl rfl rfl (VT.mv (fun w' hS => Rn.field Tryz.underlying52 rfl Tryz.sizeOf3 rfl rfl rfl) rfl rfl rfl rfl (VT.mv (fun w' hS => Rn.load Tryz.isAgg3 rfl ((b1_3.keep hS).cell rfl)) rfl rfl rfl rfl (VT.mv (fun w' hS => Rn.field Tryz.underlying52 rfl Tryz.sizeOf39 rfl rfl rfl) rfl rfl rfl rfl (VT.mv (fun w' hS => Rn.load Tryz.isAgg39 rfl ((b1_3.keep hS).cell rfl)) rfl rfl rfl rfl (VT.mv (fun w' hS => Rn.len Tryz.underlying39 rfl) rfl rfl rfl rfl (VT.two ?_ ?_)))))))
 ·
  refine VT.wk (Wk.mkC Tryz.underlying39 inf53w68 rfl rfl (by omega) (by omega) (by omega)) rfl rfl rfl rfl ?_
  rintro _ w4 ⟨p4, rfl, o4, c4, e4, z4⟩
  have RD_4 := (Ch.refl (No) w3).and c4
  refine ⟨RD_4, ?_⟩
  refine VT.mv (fun w' hS => Rn.build rfl (bld52_0_1_2w68 rfl)) rfl rfl rfl rfl (VT.wk (Wk.alloc Tryz.zeroValue52) rfl rfl rfl rfl ?_)
  rintro _ w5 ⟨p5, rfl, N5⟩
  have c5 := N5.ch
  have e5 := N5.p; have z5 := N5.size
  have b3 := Bk.new N5
  have RD_5 := RD_4.and c5
  refine ⟨RD_5, ?_⟩
  refine VT.done (VO.wk0 (Wk.puts Tryz.sizeOf52 rfl rfl rfl rfl b3 (Nat.le_of_ble_eq_true rfl)) rfl rfl ?_)
  intro _ w6 Z6
  have c6 := Z6.ch; have z6 := Z6.size
  have b3_6 := Bk.put Z6
  refine VO.nil (VQ.noPanic (VQ.then_code (VC.seq (VC.seq (VC.region (VO.mv (Rn.field Tryz.underlying52 rfl Tryz.sizeOf3 rfl rfl rfl) rfl rfl rfl ?_))))))
  have cc_3_6 : Ch No w3 w6 := (Ch.then (E := No) (c4.and c5) c6 (by intro q h1 h2; rcases h2 with h2 | h2 <;> first | exact h2 | (exfalso; omega)))
  have b1_6 := b1_3.keep cc_3_6
  refine VO.mv (Rn.load Tryz.isAgg3 rfl (b1_6.cell rfl)) rfl rfl rfl (VO.mv (Rn.move rfl) rfl rfl rfl (VO.nil (VQ.then_code (VC.block ?_))))
  have sx_6 := sx_3.keep cc_3_6
  have b2_6 := b2_3.keep cc_3_6
  have cc_4_6 : Ch No w4 w6 := (Ch.then (E := No) c5 c6 (by intro q h1 h2; rcases h2 with h2 | h2 <;> first | exact h2 | (exfalso; omega)))
  have ou_6 := o4.keep cc_4_6
  have cc_0_6 : Ch No w w6 := (Ch.then (E := No) ((((c1.and c2).and c3).and c4).and c5) c6 (by intro q h1 h2; rcases h2 with h2 | h2 <;> first | exact h2 | (exfalso; omega)))
  have CH_6 := (Ch.refl (No) w).and cc_0_6
  refine VC.loopS (σ := Nat × List CB) (fun (i, os) => [(1, .pointer (some ⟨p1, 0, none⟩)), (2, .pointer (some ⟨p2, 0, none⟩)), (3, .pointer (some ⟨p5, 0, none⟩)), (16, .int .i64 R), (17, .int .i64 i)]) (fun (i, os) w' => i ≤ R ∧ TurU R C f g i 0 os ∧ w6.heap.size ≤ w'.heap.size ∧ SlR SX w' A NN 1 (zs.map cxV) ∧ Bk w' p1 #[.int .i64 R, .int .i64 C, .slice A NN cap] 52 ∧ Bk w' p2 #[.int .i64 0, .int .i64 0, .slice none 0 0] 52 ∧ Bk w' p5 #[.int .i64 C, .int .i64 R, .slice (some ⟨p4, 0, none⟩) NN NN] 52 ∧ CR 53 w' (p4 + 1) (some ⟨p4, 0, none⟩) NN NN os ∧ Ch (No) w w') (fun (i, os) => R - i) (0, List.replicate NN (0, 0)) ?_ ⟨rfl, rfl, rfl, rfl, rfl, trivial⟩ ?_
  · exact ⟨(by omega), (TurU.zero _ _ _ _ hN), (Nat.le_refl _), sx_6, b1_6, b2_6, b3_6, ou_6, CH_6⟩
  rintro ⟨i, os⟩ w7 ⟨hile, ht, hsz7, sx_7, b1_7, b2_7, b3_7, ou_7, CH_7⟩
  show VC _ _ _ _ [(1, .pointer (some ⟨p1, 0, none⟩)), (2, .pointer (some ⟨p2, 0, none⟩)), (3, .pointer (some ⟨p5, 0, none⟩)), (16, .int .i64 R), (17, .int .i64 i)] _
  refine VC.seq (VC.region (VO.mv (Rn.lss rfl rfl) rfl rfl rfl (VO.nil (VQ.then_code (VC.seq (VC.cond_if rfl (fun hc1 => ?_) (fun hc1 => ?_)))))))
  ·
   refine VC.skip (VQ.then_code (VC.seq (VC.block (VC.seq (VC.region (VO.mv (Rn.move rfl) rfl rfl rfl (VO.mv (Rn.assign rfl) rfl rfl rfl ?_)))))))
   refine VO.nil (VQ.then_code (VC.seq (VC.region (VO.mv (Rn.field Tryz.underlying52 rfl Tryz.sizeOf3 rfl rfl rfl) rfl rfl rfl (VO.mv (Rn.load Tryz.isAgg3 rfl (b1_7.cell rfl)) rfl rfl rfl (VO.mv (Rn.move rfl) rfl rfl rfl (VO.nil ?_)))))))
   refine VQ.then_code (VC.block (VC.loopS (σ := Nat × List CB) (fun (j, os2) => [(1, .pointer (some ⟨p1, 0, none⟩)), (2, .pointer (some ⟨p2, 0, none⟩)), (3, .pointer (some ⟨p5, 0, none⟩)), (4, .int .i64 i), (16, .int .i64 R), (17, .int .i64 i), (21, .int .i64 C), (22, .int .i64 j)]) (fun (j, os2) w' => j ≤ C ∧ TurU R C f g i j os2 ∧ w7.heap.size ≤ w'.heap.size ∧ SlR SX w' A NN 1 (zs.map cxV) ∧ Bk w' p1 #[.int .i64 R, .int .i64 C, .slice A NN cap] 52 ∧ Bk w' p2 #[.int .i64 0, .int .i64 0, .slice none 0 0] 52 ∧ Bk w' p5 #[.int .i64 C, .int .i64 R, .slice (some ⟨p4, 0, none⟩) NN NN] 52 ∧ CR 53 w' (p4 + 1) (some ⟨p4, 0, none⟩) NN NN os2 ∧ Ch (No) w w') (fun (j, os2) => C - j) (0, os) ?_ ⟨rfl, rfl, rfl, rfl, rfl, rfl, rfl, rfl, trivial⟩ ?_))
   · exact ⟨(by omega), ht, (Nat.le_refl _), sx_7, b1_7, b2_7, b3_7, ou_7, CH_7⟩
   rintro ⟨j, os2⟩ w8 ⟨hjle, ht2, hsz8, sx_8, b1_8, b2_8, b3_8, ou_8, CH_8⟩
   show VC _ _ _ _ [(1, .pointer (some ⟨p1, 0, none⟩)), (2, .pointer (some ⟨p2, 0, none⟩)), (3, .pointer (some ⟨p5, 0, none⟩)), (4, .int .i64 i), (16, .int .i64 R), (17, .int .i64 i), (21, .int .i64 C), (22, .int .i64 j)] _
   refine VC.seq (VC.region (VO.mv (Rn.lss rfl rfl) rfl rfl rfl (VO.nil (VQ.then_code (VC.seq (VC.cond_if rfl (fun hc2 => ?_) (fun hc2 => ?_)))))))
   ·
    refine VC.skip (VQ.then_code (VC.seq (VC.block (VC.seq (VC.region (VO.mv (Rn.move rfl) rfl rfl rfl (VO.mv (Rn.assign rfl) rfl rfl rfl ?_)))))))
    refine VO.nil (VQ.then_code ?_)
    have hi9 : i < R := by omega
    have hj9 : j < C := by omega
    obtain ⟨jR, hjR⟩ : ∃ m, m = j * R := ⟨_, rfl⟩
    have e1 : (j : Int) * (R : Int) = (jR : Int) := by rw [hjR, Int.natCast_mul]
    have l1 : jR + i < NN := by have := idx_lt hj9 hi9; rw [Nat.mul_comm C R] at this; omega
    obtain ⟨iC, hiC⟩ : ∃ m, m = i * C := ⟨_, rfl⟩
    have e2 : (i : Int) * (C : Int) = (iC : Int) := by rw [hiC, Int.natCast_mul]
    have l2 : iC + j < NN := by have := idx_lt hi9 hj9; omega
    have t1 : ((j : Int) * (R : Int) + (i : Int)).toNat = j * R + i := by omega
    have t2 : ((i : Int) * (C : Int) + (j : Int)).toNat = i * C + j := by omega
    refine VC.draws 19 [(0, true), (1, true), (2, true), (3, true), (4, true), (5, true), (6, true), (7, true), (8, true), (9, true), (10, true), (11, true), (12, true), (13, true), (14, true), (15, true), (16, true), (17, true), (18, true)] (fun w1 w' => Ch (No) w1 w') mixed (by kernel_rfl) (fun _ _ => Ch.refl _ _) ?_
    intro w9 D9
    have c9 := Ch.of_drew D9; have z9 := c9.size
    have sx_9 := sx_8.keep c9
    have b1_9 := b1_8.keep c9
    have b2_9 := b2_8.keep c9
    have ou_9 := ou_8.keep c9
    have b3_9 := b3_8.keep c9
    refine VH.mv (fun w' hS => Rn.field Tryz.underlying52 rfl Tryz.sizeOf39 rfl rfl rfl) rfl rfl rfl rfl (VH.mv (fun w' hS => Rn.load Tryz.isAgg39 rfl ((b3_9.keep hS).cell rfl)) rfl rfl rfl rfl (VH.mv (fun w' hS => Rn.move rfl) rfl rfl rfl rfl (VH.mv (fun w' hS => Rn.field Tryz.underlying52 rfl Tryz.sizeOf3 rfl rfl rfl) rfl rfl rfl rfl (VH.mv (fun w' hS => Rn.load Tryz.isAgg3 rfl ((b1_9.keep hS).cell rfl)) rfl rfl rfl rfl ?_))))
    refine VH.mv (fun w' hS => Rn.mul rfl rfl (by rw [IntKind.wrap_i64]; omega)) rfl rfl rfl rfl ?_
    refine VH.mv (fun w' hS => Rn.move rfl) rfl rfl rfl rfl ?_
    refine VH.mv (fun w' hS => Rn.add rfl rfl (by rw [IntKind.wrap_i64]; omega)) rfl rfl rfl rfl ?_
    refine VH.mv (fun w' hS => Rn.field Tryz.underlying52 rfl Tryz.sizeOf39 rfl rfl rfl) rfl rfl rfl rfl (VH.mv (fun w' hS => Rn.load Tryz.isAgg39 rfl ((b1_9.keep hS).cell rfl)) rfl rfl rfl rfl (VH.mv (fun w' hS => Rn.move rfl) rfl rfl rfl rfl (VH.mv (fun w' hS => Rn.field Tryz.underlying52 rfl Tryz.sizeOf3 rfl rfl rfl) rfl rfl rfl rfl (VH.mv (fun w' hS => Rn.load Tryz.isAgg3 rfl ((b1_9.keep hS).cell rfl)) rfl rfl rfl rfl ?_))))
    refine VH.mv (fun w' hS => Rn.mul rfl rfl (by rw [IntKind.wrap_i64]; omega)) rfl rfl rfl rfl ?_
    refine VH.mv (fun w' hS => Rn.move rfl) rfl rfl rfl rfl ?_
    refine VH.mv (fun w' hS => Rn.add rfl rfl (by rw [IntKind.wrap_i64]; omega)) rfl rfl rfl rfl ?_
    refine VH.mv (fun w' hS => Rn.indexS Tryz.underlying39 Tryz.sizeOf53 rfl rfl ((sx_9.keep hS).ne (by omega)) (by omega) (by omega)) rfl rfl rfl rfl (VH.mv (fun w' hS => Rn.load Tryz.isAgg53 rfl ((sx_9.keep hS).getC (by omega) (by omega))) rfl rfl rfl rfl (VH.mv (fun w' hS => Rn.indexS Tryz.underlying39 Tryz.sizeOf53 rfl rfl (ou_9.sl.ne (by omega)) (by omega) (by omega)) rfl rfl rfl rfl (VH.done (VO.wk0 (Wk.putC Tryz.sizeOf53 rfl rfl (by omega) ou_9) rfl rfl ?_))))
    rintro _ w10 ⟨o10, c10, z10⟩
    have y10 := o10.lt
    refine VO.nil (VQ.noPanic (VQ.block_normal (VQ.then_code (VC.region ?_))))
    refine VO.mv (Rn.add rfl rfl (by rw [IntKind.wrap_i64]; omega)) rfl rfl rfl ?_
    refine VO.mv (Rn.move rfl) rfl rfl rfl (VO.nil ?_)
    refine VQ.round (j + 1, os2.set (j * R + i) (zs.getD (i * C + j) (0, 0))) (by first | omega | (dsimp only; omega)) ?_ ⟨rfl, rfl, rfl, rfl, rfl, rfl, rfl, rfl, trivial⟩
    have sx_10 := sx_9.to c10 (by first | exact fun _ _ _ _ => id | (intro q h1 h2 hx h3; have := hX q h2; omega))
    have b1_10 := b1_9.to c10 (by first | exact id | omega)
    have b2_10 := b2_9.to c10 (by first | exact id | omega)
    have b3_10 := b3_9.to c10 (by first | exact id | omega)
    have CH_9 := CH_8.and c9
    have CH_10 : Ch (No) w w10 := CH_9.then c10 (by intro q h1 h2; rcases h2 with h2 | h2 <;> first | exact h2 | (exfalso; omega) | omega)
    exact ⟨(by omega), (ht2.step hi9 hj9 (hz.get i j hi9 hj9)), (by omega), sx_10, b1_10, b2_10, b3_10, (by have h9 := o10; rw [t1, t2] at h9; exact h9), CH_10⟩
   ·
    refine VC.exit (VQ.then_exit (VQ.then_exit (VQ.block_exit (VQ.block_normal (VQ.then_code (VC.region ?_))))))
    refine VO.mv (Rn.add rfl rfl (by rw [IntKind.wrap_i64]; omega)) rfl rfl rfl ?_
    refine VO.mv (Rn.move rfl) rfl rfl rfl (VO.nil ?_)
    refine VQ.round (i + 1, os2) (by first | omega | (dsimp only; omega)) ?_ ⟨rfl, rfl, rfl, rfl, rfl, trivial⟩
    exact ⟨(by omega), (by have h9 := ht2; rw [show j = C by omega] at h9; exact h9.next), (by omega), sx_8, b1_8, b2_8, b3_8, ou_8, CH_8⟩
  ·
   refine VC.exit (VQ.then_exit (VQ.then_exit (VQ.block_exit (VQ.then_code (VC.seq (VC.region (VO.mv (Rn.loads Tryz.isAgg52 Tryz.sizeOf52 rfl rfl (b3_7.all' rfl)) rfl rfl rfl ?_)))))))
   refine VO.wk0 (Wk.puts Tryz.sizeOf52 rfl rfl rfl rfl b2_7 (Nat.le_of_ble_eq_true rfl)) rfl rfl ?_
   intro _ w11 Z11
   have c11 := Z11.ch; have z11 := Z11.size
   have b2_11 := Bk.put Z11
   refine VO.nil (VQ.then_code (VC.ret (VQ.retc rfl rfl Tryz.isAgg52 Tryz.sizeOf52 rfl (b2_11.all' rfl) (Ret.mk ?_))))
   have ei : i = R := by omega
   rw [ei] at ht
   have ou_11 := ou_7.to c11 (by first | exact fun _ _ _ _ => id | (intro q h1 h2 hx h3; omega))
   have CH_11 : Ch (No) w w11 := CH_7.then c11 (by intro q h1 h2; rcases h2 with h2 | h2 <;> first | exact h2 | (exfalso; omega) | omega)
   exact ⟨_, os, rfl, ou_11, ht.all, by omega, CH_11⟩
 ·
  refine VT.wk (Wk.alloc Tryz.zeroValue52) rfl rfl rfl rfl ?_
  rintro _ w12 ⟨p12, rfl, N12⟩
  have c12 := N12.ch
  have e12 := N12.p; have z12 := N12.size
  have b3 := Bk.new N12
  have RD_12 := (Ch.refl (No) w3).and c12
  refine ⟨RD_12, ?_⟩
  refine VT.wk (Wk.mkC Tryz.underlying39 inf53w68 rfl rfl (by omega) (by omega) (by omega)) rfl rfl rfl rfl ?_
  rintro _ w13 ⟨p13, rfl, o13, c13, e13, z13⟩
  have RD_13 := RD_12.and c13
  refine ⟨RD_13, ?_⟩
  refine VT.mv (fun w' hS => Rn.build rfl (bld52_0_1_2w68 rfl)) rfl rfl rfl rfl (VT.done ?_)
  have b3_13 := b3.keep c13
  refine VO.wk0 (Wk.puts Tryz.sizeOf52 rfl rfl rfl rfl b3_13 (Nat.le_of_ble_eq_true rfl)) rfl rfl ?_
  intro _ w14 Z14
  have c14 := Z14.ch; have z14 := Z14.size
  have b3_14 := Bk.put Z14
  refine VO.nil (VQ.noPanic (VQ.then_code (VC.seq (VC.seq (VC.region (VO.mv (Rn.field Tryz.underlying52 rfl Tryz.sizeOf3 rfl rfl rfl) rfl rfl rfl ?_))))))
  have cc_3_14 : Ch No w3 w14 := (Ch.then (E := No) (c12.and c13) c14 (by intro q h1 h2; rcases h2 with h2 | h2 <;> first | exact h2 | (exfalso; omega)))
  have b1_14 := b1_3.keep cc_3_14
  refine VO.mv (Rn.load Tryz.isAgg3 rfl (b1_14.cell rfl)) rfl rfl rfl (VO.mv (Rn.move rfl) rfl rfl rfl (VO.nil (VQ.then_code (VC.block ?_))))
  have sx_14 := sx_3.keep cc_3_14
  have b2_14 := b2_3.keep cc_3_14
  have ou_14 := o13.to c14 (by first | exact fun _ _ _ _ => id | (intro q h1 h2 hx h3; omega))
  have cc_0_14 : Ch No w w14 := (Ch.then (E := No) ((((c1.and c2).and c3).and c12).and c13) c14 (by intro q h1 h2; rcases h2 with h2 | h2 <;> first | exact h2 | (exfalso; omega)))
  have CH_14 := (Ch.refl (No) w).and cc_0_14
  refine VC.loopS (σ := Nat × List CB) (fun (i, os) => [(1, .pointer (some ⟨p1, 0, none⟩)), (2, .pointer (some ⟨p2, 0, none⟩)), (3, .pointer (some ⟨p12, 0, none⟩)), (16, .int .i64 R), (17, .int .i64 i)]) (fun (i, os) w' => i ≤ R ∧ TurU R C f g i 0 os ∧ w14.heap.size ≤ w'.heap.size ∧ SlR SX w' A NN 1 (zs.map cxV) ∧ Bk w' p1 #[.int .i64 R, .int .i64 C, .slice A NN cap] 52 ∧ Bk w' p2 #[.int .i64 0, .int .i64 0, .slice none 0 0] 52 ∧ Bk w' p12 #[.int .i64 C, .int .i64 R, .slice (some ⟨p13, 0, none⟩) NN NN] 52 ∧ CR 53 w' (p13 + 1) (some ⟨p13, 0, none⟩) NN NN os ∧ Ch (No) w w') (fun (i, os) => R - i) (0, List.replicate NN (0, 0)) ?_ ⟨rfl, rfl, rfl, rfl, rfl, trivial⟩ ?_
  · exact ⟨(by omega), (TurU.zero _ _ _ _ hN), (Nat.le_refl _), sx_14, b1_14, b2_14, b3_14, ou_14, CH_14⟩
  rintro ⟨i, os⟩ w15 ⟨hile, ht, hsz15, sx_15, b1_15, b2_15, b3_15, ou_15, CH_15⟩
  show VC _ _ _ _ [(1, .pointer (some ⟨p1, 0, none⟩)), (2, .pointer (some ⟨p2, 0, none⟩)), (3, .pointer (some ⟨p12, 0, none⟩)), (16, .int .i64 R), (17, .int .i64 i)] _
  refine VC.seq (VC.region (VO.mv (Rn.lss rfl rfl) rfl rfl rfl (VO.nil (VQ.then_code (VC.seq (VC.cond_if rfl (fun hc3 => ?_) (fun hc3 => ?_)))))))
  ·
   refine VC.skip (VQ.then_code (VC.seq (VC.block (VC.seq (VC.region (VO.mv (Rn.move rfl) rfl rfl rfl (VO.mv (Rn.assign rfl) rfl rfl rfl ?_)))))))
   refine VO.nil (VQ.then_code (VC.seq (VC.region (VO.mv (Rn.field Tryz.underlying52 rfl Tryz.sizeOf3 rfl rfl rfl) rfl rfl rfl (VO.mv (Rn.load Tryz.isAgg3 rfl (b1_15.cell rfl)) rfl rfl rfl (VO.mv (Rn.move rfl) rfl rfl rfl (VO.nil ?_)))))))
   refine VQ.then_code (VC.block (VC.loopS (σ := Nat × List CB) (fun (j, os2) => [(1, .pointer (some ⟨p1, 0, none⟩)), (2, .pointer (some ⟨p2, 0, none⟩)), (3, .pointer (some ⟨p12, 0, none⟩)), (4, .int .i64 i), (16, .int .i64 R), (17, .int .i64 i), (21, .int .i64 C), (22, .int .i64 j)]) (fun (j, os2) w' => j ≤ C ∧ TurU R C f g i j os2 ∧ w15.heap.size ≤ w'.heap.size ∧ SlR SX w' A NN 1 (zs.map cxV) ∧ Bk w' p1 #[.int .i64 R, .int .i64 C, .slice A NN cap] 52 ∧ Bk w' p2 #[.int .i64 0, .int .i64 0, .slice none 0 0] 52 ∧ Bk w' p12 #[.int .i64 C, .int .i64 R, .slice (some ⟨p13, 0, none⟩) NN NN] 52 ∧ CR 53 w' (p13 + 1) (some ⟨p13, 0, none⟩) NN NN os2 ∧ Ch (No) w w') (fun (j, os2) => C - j) (0, os) ?_ ⟨rfl, rfl, rfl, rfl, rfl, rfl, rfl, rfl, trivial⟩ ?_))
   · exact ⟨(by omega), ht, (Nat.le_refl _), sx_15, b1_15, b2_15, b3_15, ou_15, CH_15⟩
   rintro ⟨j, os2⟩ w16 ⟨hjle, ht2, hsz16, sx_16, b1_16, b2_16, b3_16, ou_16, CH_16⟩
   show VC _ _ _ _ [(1, .pointer (some ⟨p1, 0, none⟩)), (2, .pointer (some ⟨p2, 0, none⟩)), (3, .pointer (some ⟨p12, 0, none⟩)), (4, .int .i64 i), (16, .int .i64 R), (17, .int .i64 i), (21, .int .i64 C), (22, .int .i64 j)] _
   refine VC.seq (VC.region (VO.mv (Rn.lss rfl rfl) rfl rfl rfl (VO.nil (VQ.then_code (VC.seq (VC.cond_if rfl (fun hc4 => ?_) (fun hc4 => ?_)))))))
   ·
    refine VC.skip (VQ.then_code (VC.seq (VC.block (VC.seq (VC.region (VO.mv (Rn.move rfl) rfl rfl rfl (VO.mv (Rn.assign rfl) rfl rfl rfl ?_)))))))
    refine VO.nil (VQ.then_code ?_)
    have hi9 : i < R := by omega
    have hj9 : j < C := by omega
    obtain ⟨jR, hjR⟩ : ∃ m, m = j * R := ⟨_, rfl⟩
    have e1 : (j : Int) * (R : Int) = (jR : Int) := by rw [hjR, Int.natCast_mul]
    have l1 : jR + i < NN := by have := idx_lt hj9 hi9; rw [Nat.mul_comm C R] at this; omega
    obtain ⟨iC, hiC⟩ : ∃ m, m = i * C := ⟨_, rfl⟩
    have e2 : (i : Int) * (C : Int) = (iC : Int) := by rw [hiC, Int.natCast_mul]
    have l2 : iC + j < NN := by have := idx_lt hi9 hj9; omega
    have t1 : ((j : Int) * (R : Int) + (i : Int)).toNat = j * R + i := by omega
    have t2 : ((i : Int) * (C : Int) + (j : Int)).toNat = i * C + j := by omega
    refine VC.draws 19 [(0, true), (1, true), (2, true), (3, true), (4, true), (5, true), (6, true), (7, true), (8, true), (9, true), (10, true), (11, true), (12, true), (13, true), (14, true), (15, true), (16, true), (17, true), (18, true)] (fun w1 w' => Ch (No) w1 w') mixed (by kernel_rfl) (fun _ _ => Ch.refl _ _) ?_
    intro w17 D17
    have c17 := Ch.of_drew D17; have z17 := c17.size
    have sx_17 := sx_16.keep c17
    have b1_17 := b1_16.keep c17
    have b2_17 := b2_16.keep c17
    have b3_17 := b3_16.keep c17
    have ou_17 := ou_16.keep c17
    refine VH.mv (fun w' hS => Rn.field Tryz.underlying52 rfl Tryz.sizeOf39 rfl rfl rfl) rfl rfl rfl rfl (VH.mv (fun w' hS => Rn.load Tryz.isAgg39 rfl ((b3_17.keep hS).cell rfl)) rfl rfl rfl rfl (VH.mv (fun w' hS => Rn.move rfl) rfl rfl rfl rfl (VH.mv (fun w' hS => Rn.field Tryz.underlying52 rfl Tryz.sizeOf3 rfl rfl rfl) rfl rfl rfl rfl (VH.mv (fun w' hS => Rn.load Tryz.isAgg3 rfl ((b1_17.keep hS).cell rfl)) rfl rfl rfl rfl ?_))))
    refine VH.mv (fun w' hS => Rn.mul rfl rfl (by rw [IntKind.wrap_i64]; omega)) rfl rfl rfl rfl ?_
    refine VH.mv (fun w' hS => Rn.move rfl) rfl rfl rfl rfl ?_
    refine VH.mv (fun w' hS => Rn.add rfl rfl (by rw [IntKind.wrap_i64]; omega)) rfl rfl rfl rfl ?_
    refine VH.mv (fun w' hS => Rn.field Tryz.underlying52 rfl Tryz.sizeOf39 rfl rfl rfl) rfl rfl rfl rfl (VH.mv (fun w' hS => Rn.load Tryz.isAgg39 rfl ((b1_17.keep hS).cell rfl)) rfl rfl rfl rfl (VH.mv (fun w' hS => Rn.move rfl) rfl rfl rfl rfl (VH.mv (fun w' hS => Rn.field Tryz.underlying52 rfl Tryz.sizeOf3 rfl rfl rfl) rfl rfl rfl rfl (VH.mv (fun w' hS => Rn.load Tryz.isAgg3 rfl ((b1_17.keep hS).cell rfl)) rfl rfl rfl rfl ?_))))
    refine VH.mv (fun w' hS => Rn.mul rfl rfl (by rw [IntKind.wrap_i64]; omega)) rfl rfl rfl rfl ?_
    refine VH.mv (fun w' hS => Rn.move rfl) rfl rfl rfl rfl ?_
    refine VH.mv (fun w' hS => Rn.add rfl rfl (by rw [IntKind.wrap_i64]; omega)) rfl rfl rfl rfl ?_
    refine VH.mv (fun w' hS => Rn.indexS Tryz.underlying39 Tryz.sizeOf53 rfl rfl ((sx_17.keep hS).ne (by omega)) (by omega) (by omega)) rfl rfl rfl rfl (VH.mv (fun w' hS => Rn.load Tryz.isAgg53 rfl ((sx_17.keep hS).getC (by omega) (by omega))) rfl rfl rfl rfl (VH.mv (fun w' hS => Rn.indexS Tryz.underlying39 Tryz.sizeOf53 rfl rfl (ou_17.sl.ne (by omega)) (by omega) (by omega)) rfl rfl rfl rfl (VH.done (VO.wk0 (Wk.putC Tryz.sizeOf53 rfl rfl (by omega) ou_17) rfl rfl ?_))))
    rintro _ w18 ⟨o18, c18, z18⟩
    have y18 := o18.lt
    refine VO.nil (VQ.noPanic (VQ.block_normal (VQ.then_code (VC.region ?_))))
    refine VO.mv (Rn.add rfl rfl (by rw [IntKind.wrap_i64]; omega)) rfl rfl rfl ?_
    refine VO.mv (Rn.move rfl) rfl rfl rfl (VO.nil ?_)
    refine VQ.round (j + 1, os2.set (j * R + i) (zs.getD (i * C + j) (0, 0))) (by first | omega | (dsimp only; omega)) ?_ ⟨rfl, rfl, rfl, rfl, rfl, rfl, rfl, rfl, trivial⟩
    have sx_18 := sx_17.to c18 (by first | exact fun _ _ _ _ => id | (intro q h1 h2 hx h3; have := hX q h2; omega))
    have b1_18 := b1_17.to c18 (by first | exact id | omega)
    have b2_18 := b2_17.to c18 (by first | exact id | omega)
    have b3_18 := b3_17.to c18 (by first | exact id | omega)
    have CH_17 := CH_16.and c17
    have CH_18 : Ch (No) w w18 := CH_17.then c18 (by intro q h1 h2; rcases h2 with h2 | h2 <;> first | exact h2 | (exfalso; omega) | omega)
    exact ⟨(by omega), (ht2.step hi9 hj9 (hz.get i j hi9 hj9)), (by omega), sx_18, b1_18, b2_18, b3_18, (by have h9 := o18; rw [t1, t2] at h9; exact h9), CH_18⟩
   ·
    refine VC.exit (VQ.then_exit (VQ.then_exit (VQ.block_exit (VQ.block_normal (VQ.then_code (VC.region ?_))))))
    refine VO.mv (Rn.add rfl rfl (by rw [IntKind.wrap_i64]; omega)) rfl rfl rfl ?_
    refine VO.mv (Rn.move rfl) rfl rfl rfl (VO.nil ?_)
    refine VQ.round (i + 1, os2) (by first | omega | (dsimp only; omega)) ?_ ⟨rfl, rfl, rfl, rfl, rfl, trivial⟩
    exact ⟨(by omega), (by have h9 := ht2; rw [show j = C by omega] at h9; exact h9.next), (by omega), sx_16, b1_16, b2_16, b3_16, ou_16, CH_16⟩
  ·
   refine VC.exit (VQ.then_exit (VQ.then_exit (VQ.block_exit (VQ.then_code (VC.seq (VC.region (VO.mv (Rn.loads Tryz.isAgg52 Tryz.sizeOf52 rfl rfl (b3_15.all' rfl)) rfl rfl rfl ?_)))))))
   refine VO.wk0 (Wk.puts Tryz.sizeOf52 rfl rfl rfl rfl b2_15 (Nat.le_of_ble_eq_true rfl)) rfl rfl ?_
   intro _ w19 Z19
   have c19 := Z19.ch; have z19 := Z19.size
   have b2_19 := Bk.put Z19
   refine VO.nil (VQ.then_code (VC.ret (VQ.retc rfl rfl Tryz.isAgg52 Tryz.sizeOf52 rfl (b2_19.all' rfl) (Ret.mk ?_))))
   have ei : i = R := by omega
   rw [ei] at ht
   have ou_19 := ou_15.to c19 (by first | exact fun _ _ _ _ => id | (intro q h1 h2 hx h3; omega))
   have CH_19 : Ch (No) w w19 := CH_15.then c19 (by intro q h1 h2; rcases h2 with h2 | h2 <;> first | exact h2 | (exfalso; omega) | omega)
   exact ⟨_, os, rfl, ou_19, ht.all, by omega, CH_19⟩
set_option maxRecDepth 100000 in
theorem slices_CloneC (SX : Nat → Prop) (X : Option Addr) (n xc : Nat) (zs : List CB) (w : World) (sx : SlR SX w X n 1 (zs.map cxV)) (hX : ∀ q, SX q → q < w.heap.size) (hn : 1 ≤ n ∧ n ≤ 1000000) :
  Calls Tryz.prog 77 #[.slice X n xc] w (Ret (fun v w' => ∃ r A k, v = .slice A n k ∧ CR 53 w' r A n k zs ∧ w.heap.size < r ∧ Ch No w w')) := by
 refine calls_of_VC (args := [.slice X n xc]) Tryz.func77 rfl Tryz.ntmps77 rfl (VC.seq (VC.region (VO.mv (Rn.assign rfl) rfl rfl rfl (VO.nil (VQ.then_code (VC.seq (VC.seq ?_)))))))
 refine VC.region (VO.mv (Rn.move rfl) rfl rfl rfl (VO.mv (Rn.slnilF Tryz.underlying39 rfl ((sx).ne (by omega))) rfl rfl rfl (VO.nil (VQ.then_code (VC.cond_false rfl (VC.skip (VQ.then_code ?_)))))))
 refine VC.seq (VC.region (VO.wk (Wk.lit0 Tryz.underlying39 inf53w68) rfl rfl rfl ?_))
 rintro _ w1 ⟨p1, rfl, N1⟩
 have c1 := N1.ch
 have e1 := N1.p; have z1 := N1.size
 have l5o := Ow.of_new (cs := []) (sz := 1) (l := 0) N1 rfl (by decide)
 refine VO.mv (Rn.move rfl) rfl rfl rfl ?_
 have sx_1 := sx.keep c1
 refine VO.wk (Wk.append (S := _) Tryz.underlying39 inf53w68 rfl (by decide) rfl rfl l5o sx_1 (cx_one _) (fun h => absurd h (by omega)) (by omega) (by simp only [maxLen]; omega)) rfl rfl rfl ?_
 rintro _ w2 ⟨r2, A2, k2, rfl, o2, c2, q2⟩
 have z2 := c2.size
 have y2 := o2.lt
 refine VO.mv (Rn.assign rfl) rfl rfl rfl (VO.nil (VQ.then_code (VC.ret (VQ.ret1 rfl rfl (Ret.mk ?_)))))
 have e9 : 0 + n = n := by omega
 have o9 := o2; rw [e9, List.nil_append] at o9
 have CH_1 := (Ch.refl (No) w).and c1
 have CH_2 : Ch (No) w w2 := CH_1.then c2 (by intro q h1 h2; rcases h2 with h2 | h2 <;> first | exact h2 | (exfalso; omega) | omega)
 exact ⟨_, _, _, congrArg (fun m => Value.slice A2 m k2) e9, o9, by omega, CH_2⟩
set_option maxHeartbeats 4000000 in
set_option maxRecDepth 100000 in
theorem grid_both0 (SX : Nat → Prop) (R C NN : Nat) (A : Option Addr) (cap : Nat) (zs : List CB) (fs gs : Nat → Nat → Nat → Int) (w : World) (sx : SlR SX w A NN 1 (zs.map cxV)) (hX : ∀ q, SX q → q < w.heap.size) (h3R : N3 R) (h3C : N3 C) (hN : NN = R * C) (hz : GrU R C (fs 0) (gs 0) zs) (hrel : ∀ k, k < 2 → ∀ i, FwdRel (dm C R k) (fs k i) (gs k i) (fun j => fs (k + 1) j i) (fun j => gs (k + 1) j i)) (st : StT w) (tab : TabB w.heap.size w) (hG : 12 ≤ w.heap.size) :
  Calls Tryz.prog 57 #[.agg #[.int .i64 R, .int .i64 C, .slice A NN cap], .func (.func 41) #[] #[]] w (Ret (fun v w' => ∃ r1 A1 c1 ws, v = .tuple #[.agg #[.int .i64 R, .int .i64 C, .slice A1 NN c1], .nilIface] ∧ CR 53 w' r1 A1 NN c1 ws ∧ GrU R C (fs 2) (gs 2) ws ∧ w.heap.size < r1 ∧ Ch No w w')) := by
 have hR := h3R.bd; have hC := h3C.bd
 have hNb : NN ≤ 16 := by rw [hN]; exact Nat.mul_le_mul hR.2 hC.2
 have hN0 : 0 < NN := by rw [hN]; exact Nat.mul_pos hR.1 hC.1
 have hNm : (R : Int) * (C : Int) = (NN : Int) := by rw [hN, Int.natCast_mul]
 refine calls_of_VC (args := [.agg #[.int .i64 R, .int .i64 C, .slice A NN cap], .func (.func 41) #[] #[]]) Tryz.func57 rfl Tryz.ntmps57 rfl (VC.seq (VC.region (VO.wk (Wk.box rfl) rfl rfl rfl ?_)))
 rintro _ w1 ⟨p1, rfl, N1⟩
 have c1 := N1.ch
 have e1 := N1.p; have z1 := N1.size
 have b2 := Bk.new N1
 refine VO.wk (Wk.box rfl) rfl rfl rfl ?_
 rintro _ w2 ⟨p2, rfl, N2⟩
 have c2 := N2.ch
 have e2 := N2.p; have z2 := N2.size
 have b3 := Bk.new N2
 refine VO.wk (Wk.alloc Tryz.zeroValue52) rfl rfl rfl ?_
 rintro _ w3 ⟨p3, rfl, N3⟩
 have c3 := N3.ch
 have e3 := N3.p; have z3 := N3.size
 have b4 := Bk.new N3
 refine VO.mv (Rn.assign rfl) rfl rfl rfl (VO.nil (VQ.then_code (VC.seq (VC.seq (VC.region ?_)))))
 have b2_3 := b2.keep (c2.trans c3)
 refine VO.mv (Rn.loads Tryz.isAgg52 Tryz.sizeOf52 rfl rfl (b2_3.all' rfl)) rfl rfl rfl (VO.wk (Wk.call Tryz.call55 rfl (grid_Check _ _ _ _ _ _ hR hC hN)) rfl rfl rfl ?_)
 rintro _ w4 ⟨rfl, c4⟩
 have z4 := c4.size
 refine VO.mv (Rn.assign rfl) rfl rfl rfl (VO.nil (VQ.then_code (VC.seq (VC.region (VO.mv (Rn.move rfl) rfl rfl rfl (VO.mv (Rn.nil_neq_nil Tryz.underlying29 rfl) rfl rfl rfl (VO.nil ?_)))))))
 refine VQ.then_code (VC.cond_false rfl (VC.skip (VQ.then_code (VC.cut (σ := Nat × Nat × Option Addr × Nat × List CB) (fun (p7, r0, A0, c0, ws0) => [(3, .pointer (some ⟨p2, 0, none⟩)), (4, .pointer (some ⟨p3, 0, none⟩)), (7, .pointer (some ⟨p7, 0, none⟩))]) (fun (p7, r0, A0, c0, ws0) w' => ws0 = zs ∧ w4.heap.size ≤ p7 ∧ w4.heap.size < r0 ∧ ¬ r0 = p7 + 1 ∧ Bk w' p7 #[.int .i64 R, .int .i64 C, .slice A0 NN c0] 52 ∧ CR 53 w' r0 A0 NN c0 ws0 ∧ Bk w' p2 #[.func (.func 41) #[] #[]] 85 ∧ Bk w' p3 #[.int .i64 0, .int .i64 0, .slice none 0 0] 52 ∧ StT w' ∧ TabB w.heap.size w' ∧ Ch No w w') ?_ ?_))))
 ·
  refine VC.drawsT 9 (.mv 0 (.mv 1 (.mv 2 (.mv 3 (.mv 4 (.mv 5 (.two 6 (.mv 7 (.wk 8 .nil)) 8 (.wk 6 (.mv 7 .nil))))))))) (fun w1 w' => Ch (No) w1 w') mixed (by kernel_rfl) (fun _ _ => Ch.refl _ _) ?_
  intro w5 D5
  have c5 := Ch.of_drew D5; have z5 := c5.size
  have sx_5 := sx.keep (c1.trans (c2.trans (c3.trans (c4.trans c5))))
  have b2_5 := b2_3.keep (c4.trans c5)
  have b3_5 := b3.keep (c3.trans (c4.trans c5))
  have b4_5 := b4.keep (c4.trans c5)
  refine VT.mv (fun w' hS => Rn.field Tryz.underlying52 rfl Tryz.sizeOf3 rfl rfl rfl) rfl rfl rfl rfl (VT.mv (fun w' hS => Rn.load Tryz.isAgg3 rfl ((b2_5.keep hS).cell rfl)) rfl rfl rfl rfl (VT.mv (fun w' hS => Rn.field Tryz.underlying52 rfl Tryz.sizeOf3 rfl rfl rfl) rfl rfl rfl rfl (VT.mv (fun w' hS => Rn.load Tryz.isAgg3 rfl ((b2_5.keep hS).cell rfl)) rfl rfl rfl rfl (VT.mv (fun w' hS => Rn.field Tryz.underlying52 rfl Tryz.sizeOf39 rfl rfl rfl) rfl rfl rfl rfl (VT.mv (fun w' hS => Rn.load Tryz.isAgg39 rfl ((b2_5.keep hS).cell rfl)) rfl rfl rfl rfl (VT.two ?_ ?_))))))
  ·
   refine VT.wk (Wk.call Tryz.call77 rfl (slices_CloneC _ _ NN _ zs _ sx_5 (fun q hq => by have := hX q hq; omega) (by omega))) rfl rfl rfl rfl ?_
   rintro _ w6 ⟨r6, A6, k6, rfl, cl6, yc6, c6⟩
   have yk6 := Ow.lt cl6
   have z6 := c6.size
   have RD_6 := (Ch.refl (No) w5).and c6
   refine ⟨RD_6, ?_⟩
   refine VT.mv (fun w' hS => Rn.build rfl (bld52_0_1_2w68 rfl)) rfl rfl rfl rfl (VT.wk (Wk.alloc Tryz.zeroValue52) rfl rfl rfl rfl ?_)
   rintro _ w7 ⟨p7, rfl, N7⟩
   have c7 := N7.ch
   have e7 := N7.p; have z7 := N7.size
   have b7 := Bk.new N7
   have RD_7 := RD_6.and c7
   refine ⟨RD_7, ?_⟩
   refine VT.done (VO.wk0 (Wk.puts Tryz.sizeOf52 rfl rfl rfl rfl b7 (Nat.le_of_ble_eq_true rfl)) rfl rfl ?_)
   intro _ w8 Z8
   have c8 := Z8.ch; have z8 := Z8.size
   have b7_8 := Bk.put Z8
   refine VO.nil (VQ.noPanic (VQ.cut (p7, r6, A6, k6, zs) ?_ ⟨rfl, rfl, rfl, trivial⟩))
   have cc_6_8 : Ch No w6 w8 := (Ch.then (E := No) c7 c8 (by intro q h1 h2; rcases h2 with h2 | h2 <;> first | exact h2 | (exfalso; omega)))
   have cl_8 := cl6.keep cc_6_8
   have cc_5_8 : Ch No w5 w8 := (Ch.then (E := No) (c6.and c7) c8 (by intro q h1 h2; rcases h2 with h2 | h2 <;> first | exact h2 | (exfalso; omega)))
   have b3_8 := b3_5.keep cc_5_8
   have b4_8 := b4_5.keep cc_5_8
   have cc_0_8 : Ch No w w8 := (Ch.then (E := No) ((((((c1.and c2).and c3).and c4).and c5).and c6).and c7) c8 (by intro q h1 h2; rcases h2 with h2 | h2 <;> first | exact h2 | (exfalso; omega)))
   have st_8 := st.keep cc_0_8
   have tab_8 := tab.keep cc_0_8
   have CH_8 := (Ch.refl (No) w).and cc_0_8
   exact ⟨rfl, by omega, by omega, by omega, b7_8, cl_8, b3_8, b4_8, st_8, tab_8, CH_8⟩
  ·
   refine VT.wk (Wk.alloc Tryz.zeroValue52) rfl rfl rfl rfl ?_
   rintro _ w9 ⟨p9, rfl, N9⟩
   have c9 := N9.ch
   have e9 := N9.p; have z9 := N9.size
   have b7 := Bk.new N9
   have RD_9 := (Ch.refl (No) w5).and c9
   refine ⟨RD_9, ?_⟩
   have sx_9 := sx_5.keep c9
   refine VT.wk (Wk.call Tryz.call77 rfl (slices_CloneC _ _ NN _ zs _ sx_9 (fun q hq => by have := hX q hq; omega) (by omega))) rfl rfl rfl rfl ?_
   rintro _ w10 ⟨r10, A10, k10, rfl, cl10, yc10, c10⟩
   have yk10 := Ow.lt cl10
   have z10 := c10.size
   have RD_10 := RD_9.and c10
   refine ⟨RD_10, ?_⟩
   refine VT.mv (fun w' hS => Rn.build rfl (bld52_0_1_2w68 rfl)) rfl rfl rfl rfl (VT.done ?_)
   have b7_10 := b7.keep c10
   refine VO.wk0 (Wk.puts Tryz.sizeOf52 rfl rfl rfl rfl b7_10 (Nat.le_of_ble_eq_true rfl)) rfl rfl ?_
   intro _ w11 Z11
   have c11 := Z11.ch; have z11 := Z11.size
   have b7_11 := Bk.put Z11
   refine VO.nil (VQ.noPanic (VQ.cut (p9, r10, A10, k10, zs) ?_ ⟨rfl, rfl, rfl, trivial⟩))
   have cl_11 := cl10.to c11 (by first | exact fun _ _ _ _ => id | (intro q h1 h2 hx h3; omega))
   have cc_5_11 : Ch No w5 w11 := (Ch.then (E := No) (c9.and c10) c11 (by intro q h1 h2; rcases h2 with h2 | h2 <;> first | exact h2 | (exfalso; omega)))
   have b3_11 := b3_5.keep cc_5_11
   have b4_11 := b4_5.keep cc_5_11
   have cc_0_11 : Ch No w w11 := (Ch.then (E := No) ((((((c1.and c2).and c3).and c4).and c5).and c9).and c10) c11 (by intro q h1 h2; rcases h2 with h2 | h2 <;> first | exact h2 | (exfalso; omega)))
   have st_11 := st.keep cc_0_11
   have tab_11 := tab.keep cc_0_11
   have CH_11 := (Ch.refl (No) w).and cc_0_11
   exact ⟨rfl, by omega, by omega, by omega, b7_11, cl_11, b3_11, b4_11, st_11, tab_11, CH_11⟩
 rintro ⟨p7, r0, A0, c0, ws0⟩ w12 ⟨hws, hp7, hr0, hrp0, b7_12, row_12, b3_12, b4_12, st_12, tab_12, CH_12⟩
 show VC _ _ _ _ [(3, .pointer (some ⟨p2, 0, none⟩)), (4, .pointer (some ⟨p3, 0, none⟩)), (7, .pointer (some ⟨p7, 0, none⟩))] _
 have z_12 := CH_12.size; have y7_12 := b7_12.lt; have yr_12 := Ow.lt row_12
 refine VC.seq (VC.seq (VC.region (VO.mv (Rn.move rfl) rfl rfl rfl (VO.nil (VQ.then_code (VC.block (VC.loopS (σ := Nat × Nat × Option Addr × Nat × List CB) (fun (k, r1, A1, c1, ws) => [(3, .pointer (some ⟨p2, 0, none⟩)), (4, .pointer (some ⟨p3, 0, none⟩)), (7, .pointer (some ⟨p7, 0, none⟩)), (25, .int .i64 k)]) (fun (k, r1, A1, c1, ws) w' => k ≤ 2 ∧ w.heap.size < r1 ∧ ¬ r1 = p7 + 1 ∧ p2 + 1 < r1 ∧ p3 + 1 < r1 ∧ GrU (dm R C k) (dm C R k) (fs k) (gs k) ws ∧ w12.heap.size ≤ w'.heap.size ∧ Bk w' p7 #[.int .i64 (dm R C k), .int .i64 (dm C R k), .slice A1 NN c1] 52 ∧ CR 53 w' r1 A1 NN c1 ws ∧ Bk w' p2 #[.func (.func 41) #[] #[]] 85 ∧ Bk w' p3 #[.int .i64 0, .int .i64 0, .slice none 0 0] 52 ∧ StT w' ∧ TabB w.heap.size w' ∧ Ch (No) w w') (fun (k, r1, A1, c1, ws) => 2 - k) (0, r0, A0, c0, ws0) ?_ ⟨rfl, rfl, rfl, rfl, trivial⟩ ?_)))))))
 · exact ⟨(by omega), (by omega), (by omega), (by omega), (by omega), (by rw [hws]; exact hz), (Nat.le_refl _), b7_12, row_12, b3_12, b4_12, st_12, tab_12, CH_12⟩
 rintro ⟨k, r1, A1, c1, ws⟩ w13 ⟨hk, hr1, hrp, hr3, hr4, hg, hsz13, b7_13, row_13, b3_13, b4_13, st_13, tab_13, CH_13⟩
 show VC _ _ _ _ [(3, .pointer (some ⟨p2, 0, none⟩)), (4, .pointer (some ⟨p3, 0, none⟩)), (7, .pointer (some ⟨p7, 0, none⟩)), (25, .int .i64 k)] _
 have yr9 := Ow.lt row_13
 refine VC.seq (VC.region (VO.mv (Rn.lss rfl rfl) rfl rfl rfl (VO.nil (VQ.then_code (VC.seq (VC.cond_if rfl (fun hc1 => ?_) (fun hc1 => ?_)))))))
 ·
  refine VC.skip (VQ.then_code (VC.seq (VC.block (VC.seq ?_))))
  have hk9 : k < 2 := by omega
  refine VC.region (VO.mv (Rn.field Tryz.underlying52 rfl Tryz.sizeOf3 rfl rfl rfl) rfl rfl rfl (VO.mv (Rn.load Tryz.isAgg3 rfl (b7_13.cell rfl)) rfl rfl rfl (VO.wk (Wk.call Tryz.call69 rfl (plan_NewL (dm C R k) (dm_N3 h3C h3R k).h _ st_13 ((tab_13).up (by omega)) (by omega))) rfl rfl rfl ?_)))
  rintro _ w14 ⟨pp, PP, rfl, pl14, hL, c14⟩
  have z14 := c14.size
  refine VO.mv (Rn.move rfl) rfl rfl rfl (VO.mv (Rn.extract rfl rfl) rfl rfl rfl (VO.mv (Rn.extract rfl rfl) rfl rfl rfl (VO.wk (Wk.alloc Tryz.zeroValue70) rfl rfl rfl ?_)))
  rintro _ w15 ⟨p15, rfl, N15⟩
  have c15 := N15.ch
  have e15 := N15.p; have z15 := N15.size
  have b8 := Bk.new N15
  refine VO.wk0 (Wk.put Tryz.sizeOf70 rfl rfl rfl rfl b8 rfl) rfl rfl ?_
  intro _ w16 Z16
  have c16 := Z16.ch; have z16 := Z16.size
  have b8_16 := Bk.put Z16
  refine VO.mv (Rn.assign rfl) rfl rfl rfl (VO.nil (VQ.then_code (VC.seq (VC.seq (VC.region (VO.mv (Rn.move rfl) rfl rfl rfl (VO.mv (Rn.nil_neq_nil Tryz.underlying29 rfl) rfl rfl rfl ?_)))))))
  refine VO.nil (VQ.then_code (VC.cond_false rfl (VC.skip (VQ.then_code (VC.seq (VC.seq (VC.region ?_)))))))
  have cc_13_16 : Ch No w13 w16 := (Ch.then (E := No) (c14.and c15) c16 (by intro q h1 h2; rcases h2 with h2 | h2 <;> first | exact h2 | (exfalso; omega)))
  have b7_16 := b7_13.keep cc_13_16
  refine VO.mv (Rn.loads Tryz.isAgg52 Tryz.sizeOf52 rfl rfl (b7_16.all' rfl)) rfl rfl rfl (VO.mv (Rn.func rfl rfl) rfl rfl rfl ?_)
  have b3_16 := b3_13.keep cc_13_16
  have cc_14_16 : Ch No w14 w16 := (Ch.then (E := No) c15 c16 (by intro q h1 h2; rcases h2 with h2 | h2 <;> first | exact h2 | (exfalso; omega)))
  have pl_16 := pl14.keep cc_14_16
  have row_16 := row_13.keep cc_13_16
  have st_16 := st_13.keep cc_13_16
  refine VO.wk (Wk.call Tryz.call78 rfl (grid_rows0 p2 p15 pp _ _ PP (dm R C k) (dm C R k) NN r1 A1 c1 ws (fs k) (gs k) (fun i j => fs (k + 1) j i) (fun i j => gs (k + 1) j i) _ b3_16 b8_16 pl_16 (by omega) hL row_16 (by omega) (by omega) (by omega) (by omega) (dm_bd hR hC k) (dm_bd hC hR k) (by rw [dm_mul]; exact hN) hg (hrel k hk9) st_16 (by omega))) rfl rfl rfl ?_
  rintro _ w17 ⟨wsR, rfl, row17, hgR, c17⟩
  have z17 := c17.size
  refine VO.mv (Rn.assign rfl) rfl rfl rfl (VO.nil (VQ.then_code (VC.seq (VC.region (VO.mv (Rn.move rfl) rfl rfl rfl (VO.mv (Rn.nil_neq_nil Tryz.underlying29 rfl) rfl rfl rfl (VO.nil ?_)))))))
  refine VQ.then_code (VC.cond_false rfl (VC.skip (VQ.then_code (VC.region ?_))))
  have b7_17 := b7_16.to c17 (by first | exact id | omega)
  refine VO.mv (Rn.loads Tryz.isAgg52 Tryz.sizeOf52 rfl rfl (b7_17.all' rfl)) rfl rfl rfl ?_
  refine VO.wk (Wk.call Tryz.call74 rfl (grid_turned _ (dm R C k) (dm C R k) NN _ _ _ _ _ _ (row17).sl (fun q hq => by omega) (dm_bd hR hC k) (dm_bd hC hR k) (by rw [dm_mul]; exact hN) hgR)) rfl rfl rfl ?_
  rintro _ w18 ⟨q18, osT, rfl, tu18, huT, e18, c18⟩
  have yt18 := Ow.lt tu18
  have z18 := c18.size
  have b7_18 := b7_17.keep c18
  refine VO.wk0 (Wk.puts Tryz.sizeOf52 rfl rfl rfl rfl b7_18 (Nat.le_of_ble_eq_true rfl)) rfl rfl ?_
  intro _ w19 Z19
  have c19 := Z19.ch; have z19 := Z19.size
  have b7_19 := Bk.put Z19
  refine VO.nil (VQ.block_normal (VQ.then_code (VC.region ?_)))
  refine VO.mv (Rn.add rfl rfl (by rw [IntKind.wrap_i64]; omega)) rfl rfl rfl ?_
  refine VO.mv (Rn.move rfl) rfl rfl rfl (VO.nil ?_)
  refine VQ.round (k + 1, (q18 + 1), (some ⟨q18, 0, none⟩), NN, osT) (by first | omega | (dsimp only; omega)) ?_ ⟨rfl, rfl, rfl, rfl, trivial⟩
  have tu_19 := tu18.to c19 (by first | exact fun _ _ _ _ => id | (intro q h1 h2 hx h3; omega))
  have b3_17 := b3_16.to c17 (by first | exact id | omega)
  have b3_18 := b3_17.keep c18
  have b3_19 := b3_18.to c19 (by first | exact id | omega)
  have b4_16 := b4_13.keep cc_13_16
  have b4_17 := b4_16.to c17 (by first | exact id | omega)
  have b4_18 := b4_17.keep c18
  have b4_19 := b4_18.to c19 (by first | exact id | omega)
  have st_17 := st_16.to c17 (by first | exact fun _ _ _ _ => id | (intro q h1 h2 hx h3; omega))
  have st_18 := st_17.keep c18
  have st_19 := st_18.to c19 (by first | exact fun _ _ _ _ => id | (intro q h1 h2 hx h3; omega))
  have tab_16 := tab_13.keep cc_13_16
  have tab_17 := tab_16.to c17 (by first | exact fun _ _ _ _ => id | (intro q h1 h2 hx h3; omega))
  have tab_18 := tab_17.keep c18
  have tab_19 := tab_18.to c19 (by first | exact fun _ _ _ _ => id | (intro q h1 h2 hx h3; omega))
  have CH_16 := CH_13.and cc_13_16
  have CH_17 : Ch (No) w w17 := CH_16.then c17 (by intro q h1 h2; rcases h2 with h2 | h2 <;> first | exact h2 | (exfalso; omega) | omega)
  have CH_18 := CH_17.and c18
  have CH_19 : Ch (No) w w19 := CH_18.then c19 (by intro q h1 h2; rcases h2 with h2 | h2 <;> first | exact h2 | (exfalso; omega) | omega)
  exact ⟨(by omega), (by omega), (by omega), (by omega), (by omega), (by rw [dm_succ, dm_succ]; exact huT), (by omega), (by have h9 := b7_19; rw [← dm_succ R C, ← dm_succ C R] at h9; exact h9), tu_19, b3_19, b4_19, st_19, tab_19, CH_19⟩
 ·
  refine VC.exit (VQ.then_exit (VQ.then_exit (VQ.block_exit (VQ.then_code (VC.seq (VC.region (VO.mv (Rn.loads Tryz.isAgg52 Tryz.sizeOf52 rfl rfl (b7_13.all' rfl)) rfl rfl rfl ?_)))))))
  refine VO.wk0 (Wk.puts Tryz.sizeOf52 rfl rfl rfl rfl b4_13 (Nat.le_of_ble_eq_true rfl)) rfl rfl ?_
  intro _ w20 Z20
  have c20 := Z20.ch; have z20 := Z20.size
  have b4_20 := Bk.put Z20
  refine VO.mv (Rn.assign rfl) rfl rfl rfl (VO.nil (VQ.then_code (VC.ret (VQ.retct rfl rfl Tryz.isAgg52 Tryz.sizeOf52 rfl (b4_20.all' rfl) rfl (Ret.mk ?_)))))
  have ek : k = 2 := by omega
  subst ek
  have row_20 := row_13.to c20 (by first | exact fun _ _ _ _ => id | (intro q h1 h2 hx h3; omega))
  have CH_20 : Ch (No) w w20 := CH_13.then c20 (by intro q h1 h2; rcases h2 with h2 | h2 <;> first | exact h2 | (exfalso; omega) | omega)
  exact ⟨r1, A1, c1, ws, rfl, row_20, hg, hr1, CH_20⟩
set_option maxHeartbeats 4000000 in
set_option maxRecDepth 100000 in
theorem grid_both1 (SX : Nat → Prop) (R C NN : Nat) (A : Option Addr) (cap : Nat) (zs : List CB) (fs gs : Nat → Nat → Nat → Int) (w : World) (sx : SlR SX w A NN 1 (zs.map cxV)) (hX : ∀ q, SX q → q < w.heap.size) (h3R : N3 R) (h3C : N3 C) (hN : NN = R * C) (hz : GrU R C (fs 0) (gs 0) zs) (hrel : ∀ k, k < 2 → ∀ i, InvRel (dm C R k) (fs k i) (gs k i) (fun j => fs (k + 1) j i) (fun j => gs (k + 1) j i)) (st : StT w) (tab : TabB w.heap.size w) (hG : 12 ≤ w.heap.size) :
  Calls Tryz.prog 57 #[.agg #[.int .i64 R, .int .i64 C, .slice A NN cap], .func (.func 43) #[] #[]] w (Ret (fun v w' => ∃ r1 A1 c1 ws, v = .tuple #[.agg #[.int .i64 R, .int .i64 C, .slice A1 NN c1], .nilIface] ∧ CR 53 w' r1 A1 NN c1 ws ∧ GrU R C (fs 2) (gs 2) ws ∧ w.heap.size < r1 ∧ Ch No w w')) := by
 have hR := h3R.bd; have hC := h3C.bd
 have hNb : NN ≤ 16 := by rw [hN]; exact Nat.mul_le_mul hR.2 hC.2
 have hN0 : 0 < NN := by rw [hN]; exact Nat.mul_pos hR.1 hC.1
 have hNm : (R : Int) * (C : Int) = (NN : Int) := by rw [hN, Int.natCast_mul]
 refine calls_of_VC (args := [.agg #[.int .i64 R, .int .i64 C, .slice A NN cap], .func (.func 43) #[] #[]]) Tryz.func57 rfl Tryz.ntmps57 rfl (VC.seq (VC.region (VO.wk (Wk.box rfl) rfl rfl rfl ?_)))
 rintro _ w1 ⟨p1, rfl, N1⟩
 have c1 := N1.ch
 have e1 := N1.p; have z1 := N1.size
 have b2 := Bk.new N1
 refine VO.wk (Wk.box rfl) rfl rfl rfl ?_
 rintro _ w2 ⟨p2, rfl, N2⟩
 have c2 := N2.ch
 have e2 := N2.p; have z2 := N2.size
 have b3 := Bk.new N2
 refine VO.wk (Wk.alloc Tryz.zeroValue52) rfl rfl rfl ?_
 rintro _ w3 ⟨p3, rfl, N3⟩
 have c3 := N3.ch
 have e3 := N3.p; have z3 := N3.size
 have b4 := Bk.new N3
 refine VO.mv (Rn.assign rfl) rfl rfl rfl (VO.nil (VQ.then_code (VC.seq (VC.seq (VC.region ?_)))))
 have b2_3 := b2.keep (c2.trans c3)
 refine VO.mv (Rn.loads Tryz.isAgg52 Tryz.sizeOf52 rfl rfl (b2_3.all' rfl)) rfl rfl rfl (VO.wk (Wk.call Tryz.call55 rfl (grid_Check _ _ _ _ _ _ hR hC hN)) rfl rfl rfl ?_)
 rintro _ w4 ⟨rfl, c4⟩
 have z4 := c4.size
 refine VO.mv (Rn.assign rfl) rfl rfl rfl (VO.nil (VQ.then_code (VC.seq (VC.region (VO.mv (Rn.move rfl) rfl rfl rfl (VO.mv (Rn.nil_neq_nil Tryz.underlying29 rfl) rfl rfl rfl (VO.nil ?_)))))))
 refine VQ.then_code (VC.cond_false rfl (VC.skip (VQ.then_code (VC.cut (σ := Nat × Nat × Option Addr × Nat × List CB) (fun (p7, r0, A0, c0, ws0) => [(3, .pointer (some ⟨p2, 0, none⟩)), (4, .pointer (some ⟨p3, 0, none⟩)), (7, .pointer (some ⟨p7, 0, none⟩))]) (fun (p7, r0, A0, c0, ws0) w' => ws0 = zs ∧ w4.heap.size ≤ p7 ∧ w4.heap.size < r0 ∧ ¬ r0 = p7 + 1 ∧ Bk w' p7 #[.int .i64 R, .int .i64 C, .slice A0 NN c0] 52 ∧ CR 53 w' r0 A0 NN c0 ws0 ∧ Bk w' p2 #[.func (.func 43) #[] #[]] 85 ∧ Bk w' p3 #[.int .i64 0, .int .i64 0, .slice none 0 0] 52 ∧ StT w' ∧ TabB w.heap.size w' ∧ Ch No w w') ?_ ?_))))
 ·
  refine VC.drawsT 9 (.mv 0 (.mv 1 (.mv 2 (.mv 3 (.mv 4 (.mv 5 (.two 6 (.mv 7 (.wk 8 .nil)) 8 (.wk 6 (.mv 7 .nil))))))))) (fun w1 w' => Ch (No) w1 w') mixed (by kernel_rfl) (fun _ _ => Ch.refl _ _) ?_
  intro w5 D5
  have c5 := Ch.of_drew D5; have z5 := c5.size
  have sx_5 := sx.keep (c1.trans (c2.trans (c3.trans (c4.trans c5))))
  have b2_5 := b2_3.keep (c4.trans c5)
  have b3_5 := b3.keep (c3.trans (c4.trans c5))
  have b4_5 := b4.keep (c4.trans c5)
  refine VT.mv (fun w' hS => Rn.field Tryz.underlying52 rfl Tryz.sizeOf3 rfl rfl rfl) rfl rfl rfl rfl (VT.mv (fun w' hS => Rn.load Tryz.isAgg3 rfl ((b2_5.keep hS).cell rfl)) rfl rfl rfl rfl (VT.mv (fun w' hS => Rn.field Tryz.underlying52 rfl Tryz.sizeOf3 rfl rfl rfl) rfl rfl rfl rfl (VT.mv (fun w' hS => Rn.load Tryz.isAgg3 rfl ((b2_5.keep hS).cell rfl)) rfl rfl rfl rfl (VT.mv (fun w' hS => Rn.field Tryz.underlying52 rfl Tryz.sizeOf39 rfl rfl rfl) rfl rfl rfl rfl (VT.mv (fun w' hS => Rn.load Tryz.isAgg39 rfl ((b2_5.keep hS).cell rfl)) rfl rfl rfl rfl (VT.two ?_ ?_))))))
  ·
   refine VT.wk (Wk.call Tryz.call77 rfl (slices_CloneC _ _ NN _ zs _ sx_5 (fun q hq => by have := hX q hq; omega) (by omega))) rfl rfl rfl rfl ?_
   rintro _ w6 ⟨r6, A6, k6, rfl, cl6, yc6, c6⟩
   have yk6 := Ow.lt cl6
   have z6 := c6.size
   have RD_6 := (Ch.refl (No) w5).and c6
   refine ⟨RD_6, ?_⟩
   refine VT.mv (fun w' hS => Rn.build rfl (bld52_0_1_2w68 rfl)) rfl rfl rfl rfl (VT.wk (Wk.alloc Tryz.zeroValue52) rfl rfl rfl rfl ?_)
   rintro _ w7 ⟨p7, rfl, N7⟩
   have c7 := N7.ch
   have e7 := N7.p; have z7 := N7.size
   have b7 := Bk.new N7
   have RD_7 := RD_6.and c7
   refine ⟨RD_7, ?_⟩
   refine VT.done (VO.wk0 (Wk.puts Tryz.sizeOf52 rfl rfl rfl rfl b7 (Nat.le_of_ble_eq_true rfl)) rfl rfl ?_)
   intro _ w8 Z8
   have c8 := Z8.ch; have z8 := Z8.size
   have b7_8 := Bk.put Z8
   refine VO.nil (VQ.noPanic (VQ.cut (p7, r6, A6, k6, zs) ?_ ⟨rfl, rfl, rfl, trivial⟩))
   have cc_6_8 : Ch No w6 w8 := (Ch.then (E := No) c7 c8 (by intro q h1 h2; rcases h2 with h2 | h2 <;> first | exact h2 | (exfalso; omega)))
   have cl_8 := cl6.keep cc_6_8
   have cc_5_8 : Ch No w5 w8 := (Ch.then (E := No) (c6.and c7) c8 (by intro q h1 h2; rcases h2 with h2 | h2 <;> first | exact h2 | (exfalso; omega)))
   have b3_8 := b3_5.keep cc_5_8
   have b4_8 := b4_5.keep cc_5_8
   have cc_0_8 : Ch No w w8 := (Ch.then (E := No) ((((((c1.and c2).and c3).and c4).and c5).and c6).and c7) c8 (by intro q h1 h2; rcases h2 with h2 | h2 <;> first | exact h2 | (exfalso; omega)))
   have st_8 := st.keep cc_0_8
   have tab_8 := tab.keep cc_0_8
   have CH_8 := (Ch.refl (No) w).and cc_0_8
   exact ⟨rfl, by omega, by omega, by omega, b7_8, cl_8, b3_8, b4_8, st_8, tab_8, CH_8⟩
  ·
   refine VT.wk (Wk.alloc Tryz.zeroValue52) rfl rfl rfl rfl ?_
   rintro _ w9 ⟨p9, rfl, N9⟩
   have c9 := N9.ch
   have e9 := N9.p; have z9 := N9.size
   have b7 := Bk.new N9
   have RD_9 := (Ch.refl (No) w5).and c9
   refine ⟨RD_9, ?_⟩
   have sx_9 := sx_5.keep c9
   refine VT.wk (Wk.call Tryz.call77 rfl (slices_CloneC _ _ NN _ zs _ sx_9 (fun q hq => by have := hX q hq; omega) (by omega))) rfl rfl rfl rfl ?_
   rintro _ w10 ⟨r10, A10, k10, rfl, cl10, yc10, c10⟩
   have yk10 := Ow.lt cl10
   have z10 := c10.size
   have RD_10 := RD_9.and c10
   refine ⟨RD_10, ?_⟩
   refine VT.mv (fun w' hS => Rn.build rfl (bld52_0_1_2w68 rfl)) rfl rfl rfl rfl (VT.done ?_)
   have b7_10 := b7.keep c10
   refine VO.wk0 (Wk.puts Tryz.sizeOf52 rfl rfl rfl rfl b7_10 (Nat.le_of_ble_eq_true rfl)) rfl rfl ?_
   intro _ w11 Z11
   have c11 := Z11.ch; have z11 := Z11.size
   have b7_11 := Bk.put Z11
   refine VO.nil (VQ.noPanic (VQ.cut (p9, r10, A10, k10, zs) ?_ ⟨rfl, rfl, rfl, trivial⟩))
   have cl_11 := cl10.to c11 (by first | exact fun _ _ _ _ => id | (intro q h1 h2 hx h3; omega))
   have cc_5_11 : Ch No w5 w11 := (Ch.then (E := No) (c9.and c10) c11 (by intro q h1 h2; rcases h2 with h2 | h2 <;> first | exact h2 | (exfalso; omega)))
   have b3_11 := b3_5.keep cc_5_11
   have b4_11 := b4_5.keep cc_5_11
   have cc_0_11 : Ch No w w11 := (Ch.then (E := No) ((((((c1.and c2).and c3).and c4).and c5).and c9).and c10) c11 (by intro q h1 h2; rcases h2 with h2 | h2 <;> first | exact h2 | (exfalso; omega)))
   have st_11 := st.keep cc_0_11
   have tab_11 := tab.keep cc_0_11
   have CH_11 := (Ch.refl (No) w).and cc_0_11
   exact ⟨rfl, by omega, by omega, by omega, b7_11, cl_11, b3_11, b4_11, st_11, tab_11, CH_11⟩
 rintro ⟨p7, r0, A0, c0, ws0⟩ w12 ⟨hws, hp7, hr0, hrp0, b7_12, row_12, b3_12, b4_12, st_12, tab_12, CH_12⟩
 show VC _ _ _ _ [(3, .pointer (some ⟨p2, 0, none⟩)), (4, .pointer (some ⟨p3, 0, none⟩)), (7, .pointer (some ⟨p7, 0, none⟩))] _
 have z_12 := CH_12.size; have y7_12 := b7_12.lt; have yr_12 := Ow.lt row_12
 refine VC.seq (VC.seq (VC.region (VO.mv (Rn.move rfl) rfl rfl rfl (VO.nil (VQ.then_code (VC.block (VC.loopS (σ := Nat × Nat × Option Addr × Nat × List CB) (fun (k, r1, A1, c1, ws) => [(3, .pointer (some ⟨p2, 0, none⟩)), (4, .pointer (some ⟨p3, 0, none⟩)), (7, .pointer (some ⟨p7, 0, none⟩)), (25, .int .i64 k)]) (fun (k, r1, A1, c1, ws) w' => k ≤ 2 ∧ w.heap.size < r1 ∧ ¬ r1 = p7 + 1 ∧ p2 + 1 < r1 ∧ p3 + 1 < r1 ∧ GrU (dm R C k) (dm C R k) (fs k) (gs k) ws ∧ w12.heap.size ≤ w'.heap.size ∧ Bk w' p7 #[.int .i64 (dm R C k), .int .i64 (dm C R k), .slice A1 NN c1] 52 ∧ CR 53 w' r1 A1 NN c1 ws ∧ Bk w' p2 #[.func (.func 43) #[] #[]] 85 ∧ Bk w' p3 #[.int .i64 0, .int .i64 0, .slice none 0 0] 52 ∧ StT w' ∧ TabB w.heap.size w' ∧ Ch (No) w w') (fun (k, r1, A1, c1, ws) => 2 - k) (0, r0, A0, c0, ws0) ?_ ⟨rfl, rfl, rfl, rfl, trivial⟩ ?_)))))))
 · exact ⟨(by omega), (by omega), (by omega), (by omega), (by omega), (by rw [hws]; exact hz), (Nat.le_refl _), b7_12, row_12, b3_12, b4_12, st_12, tab_12, CH_12⟩
 rintro ⟨k, r1, A1, c1, ws⟩ w13 ⟨hk, hr1, hrp, hr3, hr4, hg, hsz13, b7_13, row_13, b3_13, b4_13, st_13, tab_13, CH_13⟩
 show VC _ _ _ _ [(3, .pointer (some ⟨p2, 0, none⟩)), (4, .pointer (some ⟨p3, 0, none⟩)), (7, .pointer (some ⟨p7, 0, none⟩)), (25, .int .i64 k)] _
 have yr9 := Ow.lt row_13
 refine VC.seq (VC.region (VO.mv (Rn.lss rfl rfl) rfl rfl rfl (VO.nil (VQ.then_code (VC.seq (VC.cond_if rfl (fun hc1 => ?_) (fun hc1 => ?_)))))))
 ·
  refine VC.skip (VQ.then_code (VC.seq (VC.block (VC.seq ?_))))
  have hk9 : k < 2 := by omega
  refine VC.region (VO.mv (Rn.field Tryz.underlying52 rfl Tryz.sizeOf3 rfl rfl rfl) rfl rfl rfl (VO.mv (Rn.load Tryz.isAgg3 rfl (b7_13.cell rfl)) rfl rfl rfl (VO.wk (Wk.call Tryz.call69 rfl (plan_NewL (dm C R k) (dm_N3 h3C h3R k).h _ st_13 ((tab_13).up (by omega)) (by omega))) rfl rfl rfl ?_)))
  rintro _ w14 ⟨pp, PP, rfl, pl14, hL, c14⟩
  have z14 := c14.size
  refine VO.mv (Rn.move rfl) rfl rfl rfl (VO.mv (Rn.extract rfl rfl) rfl rfl rfl (VO.mv (Rn.extract rfl rfl) rfl rfl rfl (VO.wk (Wk.alloc Tryz.zeroValue70) rfl rfl rfl ?_)))
  rintro _ w15 ⟨p15, rfl, N15⟩
  have c15 := N15.ch
  have e15 := N15.p; have z15 := N15.size
  have b8 := Bk.new N15
  refine VO.wk0 (Wk.put Tryz.sizeOf70 rfl rfl rfl rfl b8 rfl) rfl rfl ?_
  intro _ w16 Z16
  have c16 := Z16.ch; have z16 := Z16.size
  have b8_16 := Bk.put Z16
  refine VO.mv (Rn.assign rfl) rfl rfl rfl (VO.nil (VQ.then_code (VC.seq (VC.seq (VC.region (VO.mv (Rn.move rfl) rfl rfl rfl (VO.mv (Rn.nil_neq_nil Tryz.underlying29 rfl) rfl rfl rfl ?_)))))))
  refine VO.nil (VQ.then_code (VC.cond_false rfl (VC.skip (VQ.then_code (VC.seq (VC.seq (VC.region ?_)))))))
  have cc_13_16 : Ch No w13 w16 := (Ch.then (E := No) (c14.and c15) c16 (by intro q h1 h2; rcases h2 with h2 | h2 <;> first | exact h2 | (exfalso; omega)))
  have b7_16 := b7_13.keep cc_13_16
  refine VO.mv (Rn.loads Tryz.isAgg52 Tryz.sizeOf52 rfl rfl (b7_16.all' rfl)) rfl rfl rfl (VO.mv (Rn.func rfl rfl) rfl rfl rfl ?_)
  have b3_16 := b3_13.keep cc_13_16
  have cc_14_16 : Ch No w14 w16 := (Ch.then (E := No) c15 c16 (by intro q h1 h2; rcases h2 with h2 | h2 <;> first | exact h2 | (exfalso; omega)))
  have pl_16 := pl14.keep cc_14_16
  have row_16 := row_13.keep cc_13_16
  have st_16 := st_13.keep cc_13_16
  refine VO.wk (Wk.call Tryz.call78 rfl (grid_rows1 p2 p15 pp _ _ PP (dm R C k) (dm C R k) NN r1 A1 c1 ws (fs k) (gs k) (fun i j => fs (k + 1) j i) (fun i j => gs (k + 1) j i) _ b3_16 b8_16 pl_16 (by omega) hL row_16 (by omega) (by omega) (by omega) (by omega) (dm_bd hR hC k) (dm_bd hC hR k) (by rw [dm_mul]; exact hN) hg (hrel k hk9) st_16 (by omega))) rfl rfl rfl ?_
  rintro _ w17 ⟨wsR, rfl, row17, hgR, c17⟩
  have z17 := c17.size
  refine VO.mv (Rn.assign rfl) rfl rfl rfl (VO.nil (VQ.then_code (VC.seq (VC.region (VO.mv (Rn.move rfl) rfl rfl rfl (VO.mv (Rn.nil_neq_nil Tryz.underlying29 rfl) rfl rfl rfl (VO.nil ?_)))))))
  refine VQ.then_code (VC.cond_false rfl (VC.skip (VQ.then_code (VC.region ?_))))
  have b7_17 := b7_16.to c17 (by first | exact id | omega)
  refine VO.mv (Rn.loads Tryz.isAgg52 Tryz.sizeOf52 rfl rfl (b7_17.all' rfl)) rfl rfl rfl ?_
  refine VO.wk (Wk.call Tryz.call74 rfl (grid_turned _ (dm R C k) (dm C R k) NN _ _ _ _ _ _ (row17).sl (fun q hq => by omega) (dm_bd hR hC k) (dm_bd hC hR k) (by rw [dm_mul]; exact hN) hgR)) rfl rfl rfl ?_
  rintro _ w18 ⟨q18, osT, rfl, tu18, huT, e18, c18⟩
  have yt18 := Ow.lt tu18
  have z18 := c18.size
  have b7_18 := b7_17.keep c18
  refine VO.wk0 (Wk.puts Tryz.sizeOf52 rfl rfl rfl rfl b7_18 (Nat.le_of_ble_eq_true rfl)) rfl rfl ?_
  intro _ w19 Z19
  have c19 := Z19.ch; have z19 := Z19.size
  have b7_19 := Bk.put Z19
  refine VO.nil (VQ.block_normal (VQ.then_code (VC.region ?_)))
  refine VO.mv (Rn.add rfl rfl (by rw [IntKind.wrap_i64]; omega)) rfl rfl rfl ?_
  refine VO.mv (Rn.move rfl) rfl rfl rfl (VO.nil ?_)
  refine VQ.round (k + 1, (q18 + 1), (some ⟨q18, 0, none⟩), NN, osT) (by first | omega | (dsimp only; omega)) ?_ ⟨rfl, rfl, rfl, rfl, trivial⟩
  have tu_19 := tu18.to c19 (by first | exact fun _ _ _ _ => id | (intro q h1 h2 hx h3; omega))
  have b3_17 := b3_16.to c17 (by first | exact id | omega)
  have b3_18 := b3_17.keep c18
  have b3_19 := b3_18.to c19 (by first | exact id | omega)
  have b4_16 := b4_13.keep cc_13_16
  have b4_17 := b4_16.to c17 (by first | exact id | omega)
  have b4_18 := b4_17.keep c18
  have b4_19 := b4_18.to c19 (by first | exact id | omega)
  have st_17 := st_16.to c17 (by first | exact fun _ _ _ _ => id | (intro q h1 h2 hx h3; omega))
  have st_18 := st_17.keep c18
  have st_19 := st_18.to c19 (by first | exact fun _ _ _ _ => id | (intro q h1 h2 hx h3; omega))
  have tab_16 := tab_13.keep cc_13_16
  have tab_17 := tab_16.to c17 (by first | exact fun _ _ _ _ => id | (intro q h1 h2 hx h3; omega))
  have tab_18 := tab_17.keep c18
  have tab_19 := tab_18.to c19 (by first | exact fun _ _ _ _ => id | (intro q h1 h2 hx h3; omega))
  have CH_16 := CH_13.and cc_13_16
  have CH_17 : Ch (No) w w17 := CH_16.then c17 (by intro q h1 h2; rcases h2 with h2 | h2 <;> first | exact h2 | (exfalso; omega) | omega)
  have CH_18 := CH_17.and c18
  have CH_19 : Ch (No) w w19 := CH_18.then c19 (by intro q h1 h2; rcases h2 with h2 | h2 <;> first | exact h2 | (exfalso; omega) | omega)
  exact ⟨(by omega), (by omega), (by omega), (by omega), (by omega), (by rw [dm_succ, dm_succ]; exact huT), (by omega), (by have h9 := b7_19; rw [← dm_succ R C, ← dm_succ C R] at h9; exact h9), tu_19, b3_19, b4_19, st_19, tab_19, CH_19⟩
 ·
  refine VC.exit (VQ.then_exit (VQ.then_exit (VQ.block_exit (VQ.then_code (VC.seq (VC.region (VO.mv (Rn.loads Tryz.isAgg52 Tryz.sizeOf52 rfl rfl (b7_13.all' rfl)) rfl rfl rfl ?_)))))))
  refine VO.wk0 (Wk.puts Tryz.sizeOf52 rfl rfl rfl rfl b4_13 (Nat.le_of_ble_eq_true rfl)) rfl rfl ?_
  intro _ w20 Z20
  have c20 := Z20.ch; have z20 := Z20.size
  have b4_20 := Bk.put Z20
  refine VO.mv (Rn.assign rfl) rfl rfl rfl (VO.nil (VQ.then_code (VC.ret (VQ.retct rfl rfl Tryz.isAgg52 Tryz.sizeOf52 rfl (b4_20.all' rfl) rfl (Ret.mk ?_)))))
  have ek : k = 2 := by omega
  subst ek
  have row_20 := row_13.to c20 (by first | exact fun _ _ _ _ => id | (intro q h1 h2 hx h3; omega))
  have CH_20 : Ch (No) w w20 := CH_13.then c20 (by intro q h1 h2; rcases h2 with h2 | h2 <;> first | exact h2 | (exfalso; omega) | omega)
  exact ⟨r1, A1, c1, ws, rfl, row_20, hg, hr1, CH_20⟩
set_option maxHeartbeats 1000000 in
set_option maxRecDepth 100000 in
theorem grid_Forward (SX : Nat → Prop) (R C NN : Nat) (A : Option Addr) (cap : Nat) (zs : List CB) (a b : Nat → Nat → Int) (w : World) (sx : SlR SX w A NN 1 (zs.map cxV)) (hX : ∀ q, SX q → q < w.heap.size) (h3R : N3 R) (h3C : N3 C) (hN : NN = R * C) (hab : B36 a b) (hz : GrU R C a b zs) (st : StT w) (tab : TabB w.heap.size w) (hG : 12 ≤ w.heap.size) :
  Calls Tryz.prog 25 #[.agg #[.int .i64 R, .int .i64 C, .slice A NN cap]] w (Ret (fun v w' => ∃ r1 A1 c1 ws, v = .tuple #[.agg #[.int .i64 R, .int .i64 C, .slice A1 NN c1], .nilIface] ∧ CR 53 w' r1 A1 NN c1 ws ∧ GrU R C (X2 R C a b) (Y2 R C a b) ws ∧ w.heap.size < r1 ∧ Ch No w w')) := by
 refine calls_of_VC (args := [.agg #[.int .i64 R, .int .i64 C, .slice A NN cap]]) Tryz.func25 rfl Tryz.ntmps25 rfl (VC.seq (VC.region (VO.wk (Wk.box rfl) rfl rfl rfl ?_)))
 rintro _ w1 ⟨p1, rfl, N1⟩
 have c1 := N1.ch
 have e1 := N1.p; have z1 := N1.size
 have b1 := Bk.new N1
 refine VO.wk (Wk.alloc Tryz.zeroValue52) rfl rfl rfl ?_
 rintro _ w2 ⟨p2, rfl, N2⟩
 have c2 := N2.ch
 have e2 := N2.p; have z2 := N2.size
 have b2 := Bk.new N2
 refine VO.mv (Rn.assign rfl) rfl rfl rfl (VO.nil (VQ.then_code (VC.seq (VC.region ?_))))
 have b1_2 := b1.keep c2
 refine VO.mv (Rn.loads Tryz.isAgg52 Tryz.sizeOf52 rfl rfl (b1_2.all' rfl)) rfl rfl rfl ?_
 have sx_2 := sx.keep (c1.trans c2)
 have st_2 := st.keep (c1.trans c2)
 have tab_2 := tab.keep (c1.trans c2)
 refine VO.wk (Wk.call Tryz.call57 rfl (grid_both0 _ R C NN _ _ _ (sel a (X1 C a b) (X2 R C a b)) (sel b (Y1 C a b) (Y2 R C a b)) _ sx_2 (fun q hq => by have := hX q hq; omega) h3R h3C hN hz (fun k hk i => fwd_rel h3R.bd.2 h3C.bd.2 hab k hk i) st_2 ((tab_2).up (by omega)) (by omega))) rfl rfl rfl ?_
 rintro _ w3 ⟨r3, A3, c3', os3, rfl, gr3, hg3, yg3, c3⟩
 have yw3 := Ow.lt gr3
 have z3 := c3.size
 refine VO.mv (Rn.extract rfl rfl) rfl rfl rfl (VO.mv (Rn.extract rfl rfl) rfl rfl rfl ?_)
 have b2_3 := b2.keep c3
 refine VO.wk0 (Wk.puts Tryz.sizeOf52 rfl rfl rfl rfl b2_3 (Nat.le_of_ble_eq_true rfl)) rfl rfl ?_
 intro _ w4 Z4
 have c4 := Z4.ch; have z4 := Z4.size
 have b2_4 := Bk.put Z4
 refine VO.mv (Rn.assign rfl) rfl rfl rfl (VO.nil (VQ.then_code (VC.ret (VQ.retct rfl rfl Tryz.isAgg52 Tryz.sizeOf52 rfl (b2_4.all' rfl) rfl (Ret.mk ?_)))))
 have gr3_4 := gr3.to c4 (by first | exact fun _ _ _ _ => id | (intro q h1 h2 hx h3; omega))
 have cc_0_4 : Ch No w w4 := (Ch.then (E := No) ((c1.and c2).and c3) c4 (by intro q h1 h2; rcases h2 with h2 | h2 <;> first | exact h2 | (exfalso; omega)))
 have CH_4 := (Ch.refl (No) w).and cc_0_4
 exact ⟨_, _, _, _, rfl, gr3_4, hg3, by omega, CH_4⟩
set_option maxHeartbeats 1000000 in
set_option maxRecDepth 100000 in
theorem grid_Inverse (SX : Nat → Prop) (R C NN : Nat) (A : Option Addr) (cap : Nat) (zs : List CB) (a b : Nat → Nat → Int) (w : World) (sx : SlR SX w A NN 1 (zs.map cxV)) (hX : ∀ q, SX q → q < w.heap.size) (h3R : N3 R) (h3C : N3 C) (hN : NN = R * C) (hab : B36 a b) (hz : GrU R C (X2 R C a b) (Y2 R C a b) zs) (st : StT w) (tab : TabB w.heap.size w) (hG : 12 ≤ w.heap.size) :
  Calls Tryz.prog 26 #[.agg #[.int .i64 R, .int .i64 C, .slice A NN cap]] w (Ret (fun v w' => ∃ r1 A1 c1 ws, v = .tuple #[.agg #[.int .i64 R, .int .i64 C, .slice A1 NN c1], .nilIface] ∧ CR 53 w' r1 A1 NN c1 ws ∧ GrU R C a b ws ∧ w.heap.size < r1 ∧ Ch No w w')) := by
 refine calls_of_VC (args := [.agg #[.int .i64 R, .int .i64 C, .slice A NN cap]]) Tryz.func26 rfl Tryz.ntmps26 rfl (VC.seq (VC.region (VO.wk (Wk.box rfl) rfl rfl rfl ?_)))
 rintro _ w1 ⟨p1, rfl, N1⟩
 have c1 := N1.ch
 have e1 := N1.p; have z1 := N1.size
 have b1 := Bk.new N1
 refine VO.wk (Wk.alloc Tryz.zeroValue52) rfl rfl rfl ?_
 rintro _ w2 ⟨p2, rfl, N2⟩
 have c2 := N2.ch
 have e2 := N2.p; have z2 := N2.size
 have b2 := Bk.new N2
 refine VO.mv (Rn.assign rfl) rfl rfl rfl (VO.nil (VQ.then_code (VC.seq (VC.region ?_))))
 have b1_2 := b1.keep c2
 refine VO.mv (Rn.loads Tryz.isAgg52 Tryz.sizeOf52 rfl rfl (b1_2.all' rfl)) rfl rfl rfl ?_
 have sx_2 := sx.keep (c1.trans c2)
 have st_2 := st.keep (c1.trans c2)
 have tab_2 := tab.keep (c1.trans c2)
 refine VO.wk (Wk.call Tryz.call57 rfl (grid_both1 _ R C NN _ _ _ (sel (X2 R C a b) (V1 R a b) a) (sel (Y2 R C a b) (W1 R a b) b) _ sx_2 (fun q hq => by have := hX q hq; omega) h3R h3C hN hz (fun k hk i => inv_rel h3R.bd.2 h3C.bd.2 hab k hk i) st_2 ((tab_2).up (by omega)) (by omega))) rfl rfl rfl ?_
 rintro _ w3 ⟨r3, A3, c3', os3, rfl, gr3, hg3, yg3, c3⟩
 have yw3 := Ow.lt gr3
 have z3 := c3.size
 refine VO.mv (Rn.extract rfl rfl) rfl rfl rfl (VO.mv (Rn.extract rfl rfl) rfl rfl rfl ?_)
 have b2_3 := b2.keep c3
 refine VO.wk0 (Wk.puts Tryz.sizeOf52 rfl rfl rfl rfl b2_3 (Nat.le_of_ble_eq_true rfl)) rfl rfl ?_
 intro _ w4 Z4
 have c4 := Z4.ch; have z4 := Z4.size
 have b2_4 := Bk.put Z4
 refine VO.mv (Rn.assign rfl) rfl rfl rfl (VO.nil (VQ.then_code (VC.ret (VQ.retct rfl rfl Tryz.isAgg52 Tryz.sizeOf52 rfl (b2_4.all' rfl) rfl (Ret.mk ?_)))))
 have gr3_4 := gr3.to c4 (by first | exact fun _ _ _ _ => id | (intro q h1 h2 hx h3; omega))
 have cc_0_4 : Ch No w w4 := (Ch.then (E := No) ((c1.and c2).and c3) c4 (by intro q h1 h2; rcases h2 with h2 | h2 <;> first | exact h2 | (exfalso; omega)))
 have CH_4 := (Ch.refl (No) w).and cc_0_4
 exact ⟨_, _, _, _, rfl, gr3_4, hg3, by omega, CH_4⟩
end Go.Tm
