/- Lemmas of this claim, joined by program. Walks of functions: whole numbers, exactly. Conditions: each lemma names its own. -/
import Derived.Test.YtkinecckopionaaGreatDoorA16
set_option linter.all false
namespace Go.Tm
open Go.RowKit Go.Proofs
abbrev fM (res : List Int) : Nat → Int := fun j => (res.getD j 0).tmod 1099511627777
abbrev fX (res ims : List Int) : Nat → CB := fun j => (FloatKind.f64.nearest (fM res j), FloatKind.f64.nearest (fM ims j))
theorem fM_bd (res ims : List Int) (j : Nat) : (-1099511627776 ≤ fM res j ∧ fM res j ≤ 1099511627776) ∧ -1099511627776 ≤ fM ims j ∧ fM ims j ≤ 1099511627776 := ⟨tm_bd _, tm_bd _⟩
theorem fX_in (res ims : List Int) (n : Nat) : WhL ((rowF n (fX res ims) n).map cx) n (fM res) (fM ims) := by
  refine ⟨by simp [rowF], fun k hk => ?_⟩
  rw [map_getD, rowF_get hk]
  have := fM_bd res ims k
  exact whC_int (sm_of (by omega) (by omega)) (sm_of (by omega) (by omega))
theorem uv0 {n k j : Nat} {us bs : Nat → Int} {u v : Int} (h : 4 * (j * k) / n % 4 = 0) (hu : (u, v) = uvL n k us bs j) : (u + us j, v + bs j) = uvL n k us bs (j + 1) := by
  show _ = uvS _ _ _ _ _ _; unfold uvS; rw [if_pos h, ← hu]
theorem uv1 {n k j : Nat} {us bs : Nat → Int} {u v : Int} (h : 4 * (j * k) / n % 4 = 1) (hu : (u, v) = uvL n k us bs j) : (u + bs j, v - us j) = uvL n k us bs (j + 1) := by
  show _ = uvS _ _ _ _ _ _; unfold uvS; rw [if_neg (by omega), if_pos h, ← hu]
theorem uv2 {n k j : Nat} {us bs : Nat → Int} {u v : Int} (h : 4 * (j * k) / n % 4 = 2) (hu : (u, v) = uvL n k us bs j) : (u - us j, v - bs j) = uvL n k us bs (j + 1) := by
  show _ = uvS _ _ _ _ _ _; unfold uvS; rw [if_neg (by omega), if_neg (by omega), if_pos h, ← hu]
theorem uv3 {n k j : Nat} {us bs : Nat → Int} {u v : Int} (h : 4 * (j * k) / n % 4 = 3) (hu : (u, v) = uvL n k us bs j) : (u - bs j, v + us j) = uvL n k us bs (j + 1) := by
  show _ = uvS _ _ _ _ _ _; unfold uvS; rw [if_neg (by omega), if_neg (by omega), if_neg (by omega), ← hu]
theorem uv_fst {n k j : Nat} {us bs : Nat → Int} {u v : Int} (hu : (u, v) = uvL n k us bs j) : u = (uvL n k us bs j).1 ∧ v = (uvL n k us bs j).2 := by rw [← hu]; exact ⟨rfl, rfl⟩
theorem fwd_out {n : Nat} {b : Bld} (hL : Leaf n b) {res ims : List Int} {zs : List CB} (hz : zs.map cx = fwdC b ((rowF n (fX res ims) n).map cx)) (k : Nat) (hk : k < n) : WhC (cx (zs.getD k (0, 0))) (uvL n k (fM res) (fM ims) n).1 (uvL n k (fM res) (fM ims) n).2 := by
  have := (fwd_leaf hL (fX_in res ims n) (fun j => by have := fM_bd res ims j; unfold B44; omega)).2 k hk
  rw [← hz, map_getD] at this
  exact this
theorem inv_out {n : Nat} {b : Bld} (hL : Leaf n b) {res ims : List Int} {zs ws : List CB} (hz : zs.map cx = fwdC b ((rowF n (fX res ims) n).map cx)) (hw : ws.map cx = invC b (zs.map cx)) (k : Nat) (hk : k < n) : ceq (ws.getD k (0, 0)) ((rowF n (fX res ims) n).getD k (0, 0)) = true := by
  have := (inv_leaf hL (fX_in res ims n) (fM_bd res ims)).2 k hk
  rw [← hz, ← hw, map_getD] at this
  have bd := fM_bd res ims k
  rw [rowF_get hk]
  exact ceq_true this (whC_int (sm_of (by omega) (by omega)) (sm_of (by omega) (by omega))) (sm_of (by omega) (by omega)) (sm_of (by omega) (by omega))
/-- A length of 1, 2 or 4 (omega does not look in). -/
structure N3 (n : Nat) : Prop where
  h : n = 1 ∨ n = 2 ∨ n = 4

set_option maxRecDepth 100000 in
theorem inf34w48 : Inf Tryz.prog 34 (.complex .f64 0 0) 1 16 := ⟨Tryz.t34, Tryz.type34, rfl, rfl, rfl⟩
theorem bld38_0_1w48 {v0 v1 : Value} (h : [v0, v1].all Value.oneCell' = true) (w : World) : (Instr.build 38 ([(0, v0), (1, v1)] : List (Nat × Value)).toArray).run Tryz.prog w = .ok (.agg #[v0, v1, .slice none 0 0]) w := by
  simp only [List.all_cons, Bool.and_eq_true, List.all_nil, and_true] at h
  have hv0 := oneCell_cells (v := v0) (by simp_all)
  have hv1 := oneCell_cells (v := v1) (by simp_all)
  have h1 := fill_set (fun i => ([(0, 1), (1, 1), (2, 1)] : List (Nat × Nat))[i]?) [(0, v0), (1, v1)] [.int .i64 0, .int .i64 0, .slice none 0 0] (by simp [okF, agg_cells, hv0, hv1, Nat.beq, Nat.ble])
  simp [setF, agg_cells, hv0, hv1] at h1
  simp [Instr.build, Tryz.runUnderlying38, Tryz.zeroValue38, Tryz.sizeOf3, Tryz.sizeOf36, agg_cells, h1]
set_option maxHeartbeats 4000000 in
set_option maxRecDepth 100000 in
theorem law_PlanExact (RS : Nat → Prop) (RA IA : Option Addr) (rl rc il ic : Nat) (res ims : List Int) (fly : Bool) (way : Int) (w : World) (sr : SlR RS w RA rl 1 (res.map IV)) (si : SlR RS w IA il 1 (ims.map IV)) (hRS : ∀ q, RS q → q < w.heap.size) (st : StT w) (tab : TabB w.heap.size w) (hG : 11 ≤ w.heap.size) :
    Calls Tryz.prog 4 #[.agg #[.slice RA rl rc, .slice IA il ic, .bool fly, .int .i64 way]] w (Ret (fun v w' => v = .bool true ∧ Ch No w w')) := by
  refine calls_of_VC (args := [.agg #[.slice RA rl rc, .slice IA il ic, .bool fly, .int .i64 way]]) Tryz.func4 rfl Tryz.ntmps4 rfl (VC.seq (VC.region (VO.wk (Wk.box rfl) rfl rfl rfl ?_)))
  rintro _ w1 ⟨p1, rfl, N1⟩
  have c1 := N1.ch
  have e1 := N1.p; have z1 := N1.size
  have b1 := Bk.new N1
  refine VO.mv (Rn.assign rfl) rfl rfl rfl (VO.nil (VQ.then_code (VC.seq (VC.draws 11 [(0, true), (1, true), (2, true), (3, true), (4, true), (5, true), (6, true), (7, true), (8, true), (9, true), (10, true)] (fun w1 w' => Ch (No) w1 w') mixed (by kernel_rfl) (fun _ _ => Ch.refl _ _) ?_))))
  intro w2 D2
  have c2 := Ch.of_drew D2; have z2 := c2.size
  have sr_2 := sr.keep (c1.trans c2)
  have si_2 := si.keep (c1.trans c2)
  have b1_2 := b1.keep c2
  refine VH.mv (fun w' hS => Rn.field Tryz.underlying32 rfl Tryz.sizeOf30 rfl rfl rfl) rfl rfl rfl rfl (VH.mv (fun w' hS => Rn.load Tryz.isAgg30 rfl ((b1_2.keep hS).cell rfl)) rfl rfl rfl rfl (VH.mv (fun w' hS => Rn.field Tryz.underlying32 rfl Tryz.sizeOf30 rfl rfl rfl) rfl rfl rfl rfl (VH.mv (fun w' hS => Rn.load Tryz.isAgg30 rfl ((b1_2.keep hS).cell rfl)) rfl rfl rfl rfl (VH.mv (fun w' hS => Rn.field Tryz.underlying32 rfl Tryz.sizeOf4 rfl rfl rfl) rfl rfl rfl rfl (VH.mv (fun w' hS => Rn.load Tryz.isAgg4 rfl ((b1_2.keep hS).cell rfl)) rfl rfl rfl rfl (VH.mv (fun w' hS => Rn.field Tryz.underlying32 rfl Tryz.sizeOf3 rfl rfl rfl) rfl rfl rfl rfl (VH.mv (fun w' hS => Rn.load Tryz.isAgg3 rfl ((b1_2.keep hS).cell rfl)) rfl rfl rfl rfl ?_)))))))
  refine VH.mv (fun w' hS => Rn.assign rfl) rfl rfl rfl rfl (VH.mv (fun w' hS => Rn.assign rfl) rfl rfl rfl rfl (VH.mv (fun w' hS => Rn.assign rfl) rfl rfl rfl rfl (VH.done (VO.mv (Rn.assign rfl) rfl rfl rfl (VO.nil (VQ.noPanic (VQ.then_code ?_)))))))
  refine VC.seq (VC.region ?_)
  have st_2 := st.keep (c1.trans c2)
  have tab_2 := tab.keep (c1.trans c2)
  refine VO.wk (Wk.call Tryz.call5 rfl (law_alive _ st_2 ((tab_2).up (by omega)) (by omega))) rfl rfl rfl ?_
  rintro _ w3 ⟨rfl, c3⟩
  have z3 := c3.size
  refine VO.mv (Rn.assign rfl) rfl rfl rfl (VO.nil (VQ.then_code (VC.seq (VC.seq (VC.region (VO.mv (Rn.move rfl) rfl rfl rfl (VO.mv (Rn.not rfl) rfl rfl rfl ?_)))))))
  refine VO.nil (VQ.then_code (VC.cond_false rfl (VC.skip (VQ.then_code (VC.seq (VC.region (VO.mv (Rn.assign rfl) rfl rfl rfl ?_)))))))
  refine VO.nil (VQ.then_code (VC.seq (VC.block ?_)))
  have sr_3 := sr_2.keep c3
  have si_3 := si_2.keep c3
  have st_3 := st_2.keep c3
  have tab_3 := tab_2.keep c3
  have CH_3 := (Ch.refl (No) w).and (c1.trans (c2.trans c3))
  refine VC.loopS (σ := Nat) (fun n => [(3, .slice RA rl rc), (4, .slice IA il ic), (5, .bool fly), (6, .int .i64 way), (8, .int .i64 n)]) (fun n w' => (n = 1 ∨ n = 2 ∨ n = 4) ∧ w3.heap.size ≤ w'.heap.size ∧ SlR RS w' RA rl 1 (res.map IV) ∧ SlR RS w' IA il 1 (ims.map IV) ∧ StT w' ∧ TabB w.heap.size w' ∧ Ch (No) w w') (fun n => 4 - n) 1 ?_ ⟨rfl, rfl, rfl, rfl, rfl, trivial⟩ ?_
  · exact ⟨(.inl rfl), (Nat.le_refl _), sr_3, si_3, st_3, tab_3, CH_3⟩
  rintro n w4 ⟨hn, hsz4, sr_4, si_4, st_4, tab_4, CH_4⟩
  show VC _ _ _ _ [(3, .slice RA rl rc), (4, .slice IA il ic), (5, .bool fly), (6, .int .i64 way), (8, .int .i64 n)] _
  refine VC.seq (VC.seq (VC.region (VO.mv (Rn.move rfl) rfl rfl rfl (VO.mv (Rn.lss rfl rfl) rfl rfl rfl (VO.mv (Rn.move rfl) rfl rfl rfl ?_)))))
  refine VO.andJoin (b := _) 6 35 41 rfl (fun hc1 Jhc1 => by
      try simp only [Bool.and_eq_true, Bool.or_eq_true, Bool.not_eq_true', Bool.not_eq_false', Bool.and_eq_false_iff, Bool.or_eq_false_iff, decide_eq_true_eq, decide_eq_false_iff_not] at hc1
      refine VO.mv (Rn.move rfl) rfl rfl rfl ?_
      refine VO.mv (Rn.mul rfl rfl (by rw [IntKind.wrap_i64]; omega)) rfl rfl rfl ?_
      refine VO.mv (Rn.move rfl) rfl rfl rfl (VO.mv (Rn.len Tryz.underlying30 rfl) rfl rfl rfl (VO.mv (Rn.leq rfl rfl) rfl rfl rfl (VO.mv (Rn.pick_true rfl rfl) rfl rfl rfl ?_)))
      exact (VO.fg rfl (VO.fg rfl (VO.fg rfl (VO.fg rfl (VO.fg rfl Jhc1)))))) (fun hc1 Jhc1 => by
      refine VO.skip rfl rfl rfl (VO.skip rfl rfl rfl (VO.skip rfl rfl rfl (VO.skip rfl rfl rfl (VO.skip rfl rfl rfl (VO.mv (Rn.pick_false rfl rfl) rfl rfl rfl ?_)))))
      exact (VO.fg rfl (VO.fg rfl (VO.fg rfl (VO.fg rfl (VO.fg rfl Jhc1)))))) ?_
  refine VO.nil (VQ.then_code (VC.cond rfl (fun hc2 => ?_) (fun hc2 => ?_)))
  · skip
    try simp only [Bool.and_eq_true, Bool.or_eq_true, Bool.not_eq_true', Bool.not_eq_false', Bool.and_eq_false_iff, Bool.or_eq_false_iff, decide_eq_true_eq, decide_eq_false_iff_not] at hc2
    refine VC.skip (VQ.then_code (VC.block (VC.region (VO.mv (Rn.move rfl) rfl rfl rfl ?_))))
    refine VO.mv (Rn.mul rfl rfl (by rw [IntKind.wrap_i64]; omega)) rfl rfl rfl ?_
    refine VO.mv (Rn.assign rfl) rfl rfl rfl (VO.nil (VQ.block_normal ?_))
    refine VQ.round (n * 2) (by first | omega | (dsimp only; omega)) ?_ ⟨rfl, rfl, rfl, rfl, rfl, trivial⟩
    exact ⟨(by omega), (by omega), sr_4, si_4, st_4, tab_4, CH_4⟩
  · skip
    try simp only [Bool.and_eq_true, Bool.or_eq_true, Bool.not_eq_true', Bool.not_eq_false', Bool.and_eq_false_iff, Bool.or_eq_false_iff, decide_eq_true_eq, decide_eq_false_iff_not] at hc2
    have hnb : 1 ≤ n ∧ n ≤ 4 := by omega
    have hn3 : N3 n := ⟨hn⟩
    clear hn hc2
    refine VC.exit (VQ.then_exit (VQ.then_exit (VQ.block_exit (VQ.then_code (VC.seq (VC.seq (VC.region ?_)))))))
    refine VO.mv (Rn.move rfl) rfl rfl rfl (VO.mv (Rn.len Tryz.underlying30 rfl) rfl rfl rfl (VO.mv (Rn.move rfl) rfl rfl rfl (VO.mv (Rn.lss rfl rfl) rfl rfl rfl (VO.mv (Rn.move rfl) rfl rfl rfl ?_))))
    refine VO.orJoin (b := _) 5 48 53 rfl (fun hc3 Jhc3 => by
        refine VO.skip rfl rfl rfl (VO.skip rfl rfl rfl (VO.skip rfl rfl rfl (VO.skip rfl rfl rfl (VO.mv (Rn.pick_true rfl rfl) rfl rfl rfl ?_))))
        exact (VO.fg rfl (VO.fg rfl (VO.fg rfl (VO.fg rfl Jhc3))))) (fun hc3 Jhc3 => by
        try simp only [Bool.and_eq_true, Bool.or_eq_true, Bool.not_eq_true', Bool.not_eq_false', Bool.and_eq_false_iff, Bool.or_eq_false_iff, decide_eq_true_eq, decide_eq_false_iff_not] at hc3
        refine VO.mv (Rn.move rfl) rfl rfl rfl (VO.mv (Rn.len Tryz.underlying30 rfl) rfl rfl rfl (VO.mv (Rn.move rfl) rfl rfl rfl (VO.mv (Rn.lss rfl rfl) rfl rfl rfl (VO.mv (Rn.pick_false rfl rfl) rfl rfl rfl ?_))))
        exact (VO.fg rfl (VO.fg rfl (VO.fg rfl (VO.fg rfl Jhc3))))) ?_
    refine VO.nil (VQ.then_code (VC.cond rfl (fun hc4 => ?_) (fun hc4 => ?_)))
    · skip
      try simp only [Bool.and_eq_true, Bool.or_eq_true, Bool.not_eq_true', Bool.not_eq_false', Bool.and_eq_false_iff, Bool.or_eq_false_iff, decide_eq_true_eq, decide_eq_false_iff_not] at hc4
      refine VC.seq (VC.region (VO.mv (Rn.assign rfl) rfl rfl rfl (VO.nil (VQ.then_code (VC.ret (VQ.then_ret (VQ.ret1 rfl rfl ?_)))))))
      refine Ret.mk ?_
      exact ⟨rfl, CH_4⟩
    · skip
      try simp only [Bool.and_eq_true, Bool.or_eq_true, Bool.not_eq_true', Bool.not_eq_false', Bool.and_eq_false_iff, Bool.or_eq_false_iff, decide_eq_true_eq, decide_eq_false_iff_not] at hc4
      have hb1 : n ≤ rl := by omega
      have hb2 : n ≤ il := by omega
      clear hc4
      refine VC.skip (VQ.then_code (VC.seq (VC.region (VO.mv (Rn.move rfl) rfl rfl rfl (VO.wk (Wk.mkC Tryz.underlying33 inf34w48 rfl rfl (by omega) (by omega) (by omega)) rfl rfl rfl ?_)))))
      rintro _ w5 ⟨p5, rfl, o5, c5, e5, z5⟩
      refine VO.mv (Rn.assign rfl) rfl rfl rfl (VO.nil (VQ.then_code (VC.seq (VC.region (VO.mv (Rn.move rfl) rfl rfl rfl (VO.wk (Wk.mkI Tryz.underlying30 infI64 rfl rfl (by omega) (by omega) (by omega) (fM res)) rfl rfl rfl ?_))))))
      rintro _ w6 ⟨p6, rfl, ra6, c6, e6, yy6⟩
      have z6 := c6.size
      refine VO.mv (Rn.assign rfl) rfl rfl rfl (VO.nil (VQ.then_code (VC.seq (VC.region (VO.mv (Rn.move rfl) rfl rfl rfl (VO.wk (Wk.mkI Tryz.underlying30 infI64 rfl rfl (by omega) (by omega) (by omega) (fM ims)) rfl rfl rfl ?_))))))
      rintro _ w7 ⟨p7, rfl, rb7, c7, e7, yy7⟩
      have z7 := c7.size
      refine VO.mv (Rn.assign rfl) rfl rfl rfl (VO.nil (VQ.then_code (VC.seq (VC.seq (VC.region (VO.mv (Rn.assign rfl) rfl rfl rfl (VO.nil ?_)))))))
      refine VQ.then_code (VC.block ?_)
      have rx_7 := o5.keep (c6.trans c7)
      have ra_7 := ra6.keep c7
      have sr_7 := sr_4.keep (c5.trans (c6.trans c7))
      have si_7 := si_4.keep (c5.trans (c6.trans c7))
      have st_7 := st_4.keep (c5.trans (c6.trans c7))
      have tab_7 := tab_4.keep (c5.trans (c6.trans c7))
      have CH_7 := CH_4.and (c5.trans (c6.trans c7))
      refine VC.loopS (σ := Nat) (fun j => [(3, .slice RA rl rc), (4, .slice IA il ic), (5, .bool fly), (6, .int .i64 way), (8, .int .i64 n), (9, .slice (some ⟨p5, 0, none⟩) n n), (10, .slice (some ⟨p6, 0, none⟩) n n), (11, .slice (some ⟨p7, 0, none⟩) n n), (12, .int .i64 j)]) (fun j w' => j ≤ n ∧ w7.heap.size ≤ w'.heap.size ∧ CR 34 w' (p5 + 1) (some ⟨p5, 0, none⟩) n n (rowF n (fX res ims) j) ∧ IR 2 w' (p6 + 1) (some ⟨p6, 0, none⟩) n n (rowI n (fM res) j) ∧ IR 2 w' (p7 + 1) (some ⟨p7, 0, none⟩) n n (rowI n (fM ims) j) ∧ SlR RS w' RA rl 1 (res.map IV) ∧ SlR RS w' IA il 1 (ims.map IV) ∧ StT w' ∧ TabB w.heap.size w' ∧ Ch (No) w w') (fun j => n - j) 0 ?_ ⟨rfl, rfl, rfl, rfl, rfl, rfl, rfl, rfl, rfl, trivial⟩ ?_
      · exact ⟨(by omega), (Nat.le_refl _), (by rw [rowF_zero]; exact rx_7), ra_7, rb7, sr_7, si_7, st_7, tab_7, CH_7⟩
      rintro j w8 ⟨hj, hsz8, rx_8, ra_8, rb_8, sr_8, si_8, st_8, tab_8, CH_8⟩
      show VC _ _ _ _ [(3, .slice RA rl rc), (4, .slice IA il ic), (5, .bool fly), (6, .int .i64 way), (8, .int .i64 n), (9, .slice (some ⟨p5, 0, none⟩) n n), (10, .slice (some ⟨p6, 0, none⟩) n n), (11, .slice (some ⟨p7, 0, none⟩) n n), (12, .int .i64 j)] _
      refine VC.seq (VC.seq (VC.region (VO.mv (Rn.move rfl) rfl rfl rfl (VO.mv (Rn.move rfl) rfl rfl rfl (VO.mv (Rn.lss rfl rfl) rfl rfl rfl (VO.nil (VQ.then_code ?_)))))))
      refine VC.cond_if rfl (fun hc5 => ?_) (fun hc5 => ?_)
      · skip
        refine VC.skip (VQ.then_code (VC.seq (VC.block (VC.seq (VC.region (VO.mv (Rn.move rfl) rfl rfl rfl (VO.mv (Rn.move rfl) rfl rfl rfl ?_)))))))
        refine VO.mv (Rn.move rfl) rfl rfl rfl (VO.mv (Rn.move rfl) rfl rfl rfl (VO.mv (Rn.indexS Tryz.underlying30 Tryz.sizeOf2 rfl rfl ((sr_8).ne (by omega)) (by omega) (by omega)) rfl rfl rfl (VO.mv (Rn.load Tryz.isAgg2 rfl ((sr_8).getI (by omega) (by omega))) rfl rfl rfl (VO.mv (Rn.rem rfl rfl (by decide)) rfl rfl rfl (VO.mv (Rn.indexS Tryz.underlying30 Tryz.sizeOf2 rfl rfl ((ra_8).sl.ne (by omega)) (by omega) (by omega)) rfl rfl rfl (VO.wk0 (Wk.putI Tryz.sizeOf2 rfl rfl ra_8 rfl rfl (by omega) (by omega)) rfl rfl ?_))))))
        rintro _ w9 ⟨ra9, c9, z9⟩
        have z9 := c9.size
        refine VO.nil (VQ.then_code (VC.seq (VC.region (VO.mv (Rn.move rfl) rfl rfl rfl (VO.mv (Rn.move rfl) rfl rfl rfl (VO.mv (Rn.move rfl) rfl rfl rfl (VO.mv (Rn.move rfl) rfl rfl rfl ?_)))))))
        have si_9 := si_8.to c9 (by first | exact fun _ _ _ _ => id | (intro q h1 h2 hx h3; have := hRS q h2; omega))
        refine VO.mv (Rn.indexS Tryz.underlying30 Tryz.sizeOf2 rfl rfl ((si_9).ne (by omega)) (by omega) (by omega)) rfl rfl rfl (VO.mv (Rn.load Tryz.isAgg2 rfl ((si_9).getI (by omega) (by omega))) rfl rfl rfl (VO.mv (Rn.rem rfl rfl (by decide)) rfl rfl rfl ?_))
        have rb_9 := rb_8.to c9 (by first | exact fun _ _ _ _ => id | (intro q h1 h2 hx h3; omega))
        refine VO.mv (Rn.indexS Tryz.underlying30 Tryz.sizeOf2 rfl rfl ((rb_9).sl.ne (by omega)) (by omega) (by omega)) rfl rfl rfl (VO.wk0 (Wk.putI Tryz.sizeOf2 rfl rfl rb_9 rfl rfl (by omega) (by omega)) rfl rfl ?_)
        rintro _ w10 ⟨rb10, c10, z10⟩
        have z10 := c10.size
        refine VO.nil (VQ.then_code (VC.draws 14 [(0, true), (1, true), (2, true), (3, true), (4, true), (5, true), (6, true), (7, true), (8, true), (9, true), (10, true), (11, true), (12, true), (13, true)] (fun w1 w' => Ch (No) w1 w') mixed (by kernel_rfl) (fun _ _ => Ch.refl _ _) ?_))
        intro w11 D11
        have c11 := Ch.of_drew D11; have z11 := c11.size
        have sr_9 := sr_8.to c9 (by first | exact fun _ _ _ _ => id | (intro q h1 h2 hx h3; have := hRS q h2; omega))
        have sr_10 := sr_9.to c10 (by first | exact fun _ _ _ _ => id | (intro q h1 h2 hx h3; have := hRS q h2; omega))
        have sr_11 := sr_10.keep c11
        have si_10 := si_9.to c10 (by first | exact fun _ _ _ _ => id | (intro q h1 h2 hx h3; have := hRS q h2; omega))
        have si_11 := si_10.keep c11
        have rx_9 := rx_8.to c9 (by first | exact fun _ _ _ _ => id | (intro q h1 h2 hx h3; omega))
        have rx_10 := rx_9.to c10 (by first | exact fun _ _ _ _ => id | (intro q h1 h2 hx h3; omega))
        have rx_11 := rx_10.keep c11
        have ra_10 := ra9.to c10 (by first | exact fun _ _ _ _ => id | (intro q h1 h2 hx h3; omega))
        have ra_11 := ra_10.keep c11
        have rb_11 := rb10.keep c11
        refine VH.mv (fun w' hS => Rn.move rfl) rfl rfl rfl rfl (VH.mv (fun w' hS => Rn.move rfl) rfl rfl rfl rfl (VH.mv (fun w' hS => Rn.move rfl) rfl rfl rfl rfl (VH.mv (fun w' hS => Rn.move rfl) rfl rfl rfl rfl (VH.mv (fun w' hS => Rn.indexS Tryz.underlying30 Tryz.sizeOf2 rfl rfl ((ra_11).sl.ne (by omega)) (by omega) (by omega)) rfl rfl rfl rfl (VH.mv (fun w' hS => Rn.load Tryz.isAgg2 rfl (((ra_11).keep hS).sl.getI (by omega) (by omega))) rfl rfl rfl rfl (VH.mv (fun w' hS => Rn.conv_if Tryz.underlying2 Tryz.underlying35 rfl) rfl rfl rfl rfl (VH.mv (fun w' hS => Rn.move rfl) rfl rfl rfl rfl ?_)))))))
        refine VH.mv (fun w' hS => Rn.move rfl) rfl rfl rfl rfl (VH.mv (fun w' hS => Rn.indexS Tryz.underlying30 Tryz.sizeOf2 rfl rfl ((rb_11).sl.ne (by omega)) (by omega) (by omega)) rfl rfl rfl rfl (VH.mv (fun w' hS => Rn.load Tryz.isAgg2 rfl (((rb_11).keep hS).sl.getI (by omega) (by omega))) rfl rfl rfl rfl (VH.mv (fun w' hS => Rn.conv_if Tryz.underlying2 Tryz.underlying35 rfl) rfl rfl rfl rfl (VH.mv (fun w' hS => Rn.complex rfl rfl) rfl rfl rfl rfl (VH.mv (fun w' hS => Rn.indexS Tryz.underlying33 Tryz.sizeOf34 rfl rfl ((rx_11.keep hS).sl.ne (by omega)) (by omega) (by omega)) rfl rfl rfl rfl (VH.done (VO.wk0 (Wk.putC Tryz.sizeOf34 rfl rfl (by omega) rx_11) rfl rfl ?_)))))))
        rintro _ w12 ⟨o12, c12, z12⟩
        have y12 := o12.lt
        refine VO.nil (VQ.noPanic (VQ.block_normal (VQ.then_code (VC.region (VO.mv (Rn.move rfl) rfl rfl rfl ?_)))))
        refine VO.mv (Rn.add rfl rfl (by rw [IntKind.wrap_i64]; omega)) rfl rfl rfl ?_
        refine VO.mv (Rn.assign rfl) rfl rfl rfl (VO.nil ?_)
        refine VQ.round (j + 1) (by first | omega | (dsimp only; omega)) ?_ ⟨rfl, rfl, rfl, rfl, rfl, rfl, rfl, rfl, rfl, trivial⟩
        have ra_12 := ra_11.to c12 (by first | exact fun _ _ _ _ => id | (intro q h1 h2 hx h3; omega))
        have rb_12 := rb_11.to c12 (by first | exact fun _ _ _ _ => id | (intro q h1 h2 hx h3; omega))
        have sr_12 := sr_11.to c12 (by first | exact fun _ _ _ _ => id | (intro q h1 h2 hx h3; have := hRS q h2; omega))
        have si_12 := si_11.to c12 (by first | exact fun _ _ _ _ => id | (intro q h1 h2 hx h3; have := hRS q h2; omega))
        have st_9 := st_8.to c9 (by first | exact fun _ _ _ _ => id | (intro q h1 h2 hx h3; omega))
        have st_10 := st_9.to c10 (by first | exact fun _ _ _ _ => id | (intro q h1 h2 hx h3; omega))
        have st_11 := st_10.keep c11
        have st_12 := st_11.to c12 (by first | exact fun _ _ _ _ => id | (intro q h1 h2 hx h3; omega))
        have tab_9 := tab_8.to c9 (by first | exact fun _ _ _ _ => id | (intro q h1 h2 hx h3; omega))
        have tab_10 := tab_9.to c10 (by first | exact fun _ _ _ _ => id | (intro q h1 h2 hx h3; omega))
        have tab_11 := tab_10.keep c11
        have tab_12 := tab_11.to c12 (by first | exact fun _ _ _ _ => id | (intro q h1 h2 hx h3; omega))
        have CH_9 : Ch (No) w w9 := CH_8.then c9 (by intro q h1 h2; rcases h2 with h2 | h2 <;> first | exact h2 | (exfalso; omega) | omega)
        have CH_10 : Ch (No) w w10 := CH_9.then c10 (by intro q h1 h2; rcases h2 with h2 | h2 <;> first | exact h2 | (exfalso; omega) | omega)
        have CH_11 := CH_10.and c11
        have CH_12 : Ch (No) w w12 := CH_11.then c12 (by intro q h1 h2; rcases h2 with h2 | h2 <;> first | exact h2 | (exfalso; omega) | omega)
        exact ⟨(by omega), (by omega), (by have := o12; rw [Int.toNat_natCast, rowI_get (by omega), rowI_get (by omega)] at this; rw [← rowF_set (by omega)]; exact this), ra_12, rb_12, sr_12, si_12, st_12, tab_12, CH_12⟩
      · skip
        obtain rfl : n = j := by omega
        refine VC.exit (VQ.then_exit (VQ.then_exit (VQ.block_exit (VQ.then_code (VC.seq (VC.region (VO.mv (Rn.move rfl) rfl rfl rfl ?_)))))))
        refine VO.mv (Rn.build rfl (bld38_0_1w48 rfl)) rfl rfl rfl (VO.wk (Wk.alloc Tryz.zeroValue38) rfl rfl rfl ?_)
        rintro _ w13 ⟨p13, rfl, N13⟩
        have c13 := N13.ch
        have e13 := N13.p; have z13 := N13.size
        have b13 := Bk.new N13
        refine VO.wk0 (Wk.puts Tryz.sizeOf38 rfl rfl rfl rfl b13 (Nat.le_of_ble_eq_true rfl)) rfl rfl ?_
        intro _ w14 Z14
        have c14 := Z14.ch; have z14 := Z14.size
        have b13_14 := Bk.put Z14
        refine VO.nil (VQ.then_code (VC.cut (σ := Int) (fun kd => [(3, .slice RA rl rc), (4, .slice IA il ic), (5, .bool fly), (6, .int .i64 way), (8, .int .i64 n), (9, .slice (some ⟨p5, 0, none⟩) n n), (10, .slice (some ⟨p6, 0, none⟩) n n), (11, .slice (some ⟨p7, 0, none⟩) n n), (13, .pointer (some ⟨p13, 0, none⟩))]) (fun kd w' => (kd = 1 ∨ (kd = 2 ∧ 1 < n)) ∧ Bk w' p13 #[.int .i64 kd, .int .i64 n, .slice none 0 0] 38 ∧ CR 34 w' (p5 + 1) (some ⟨p5, 0, none⟩) n n (rowF n (fX res ims) n) ∧ IR 2 w' (p6 + 1) (some ⟨p6, 0, none⟩) n n (rowI n (fM res) n) ∧ IR 2 w' (p7 + 1) (some ⟨p7, 0, none⟩) n n (rowI n (fM ims) n) ∧ SlR RS w' RA rl 1 (res.map IV) ∧ SlR RS w' IA il 1 (ims.map IV) ∧ StT w' ∧ TabB w.heap.size w' ∧ w14.heap.size ≤ w'.heap.size ∧ Ch No w w') ?_ ?_))
        · skip
          refine VC.seq (VC.region (VO.mv (Rn.move rfl) rfl rfl rfl (VO.mv (Rn.move rfl) rfl rfl rfl ?_)))
          refine VO.andJoin (b := _) 3 98 101 rfl (fun hc6 Jhc6 => by
              try simp only [Bool.and_eq_true, Bool.or_eq_true, Bool.not_eq_true', Bool.not_eq_false', Bool.and_eq_false_iff, Bool.or_eq_false_iff, decide_eq_true_eq, decide_eq_false_iff_not] at hc6
              refine VO.mv (Rn.move rfl) rfl rfl rfl (VO.mv (Rn.gtr rfl rfl) rfl rfl rfl (VO.mv (Rn.pick_true rfl rfl) rfl rfl rfl ?_))
              exact (VO.fg rfl (VO.fg rfl Jhc6))) (fun hc6 Jhc6 => by
              refine VO.skip rfl rfl rfl (VO.skip rfl rfl rfl (VO.mv (Rn.pick_false rfl rfl) rfl rfl rfl ?_))
              exact (VO.fg rfl (VO.fg rfl Jhc6))) ?_
          refine VO.nil (VQ.then_code (VC.cond rfl (fun hc7 => ?_) (fun hc7 => ?_)))
          · skip
            try simp only [Bool.and_eq_true, Bool.or_eq_true, Bool.not_eq_true', Bool.not_eq_false', Bool.and_eq_false_iff, Bool.or_eq_false_iff, decide_eq_true_eq, decide_eq_false_iff_not] at hc7
            refine VC.region (VO.mv (Rn.field Tryz.underlying38 rfl Tryz.sizeOf3 rfl rfl rfl) rfl rfl rfl (VO.wk0 (Wk.put Tryz.sizeOf3 rfl rfl rfl rfl b13_14 rfl) rfl rfl ?_))
            intro _ w15 Z15
            have c15 := Z15.ch; have z15 := Z15.size
            have b13_15 := Bk.put Z15
            refine VO.nil (VQ.cut 2 ?_ ⟨rfl, rfl, rfl, rfl, rfl, rfl, rfl, rfl, rfl, trivial⟩)
            have cc_8_15 : Ch No w8 w15 := (Ch.then (E := No) (Ch.then (E := No) c13 c14 (by intro q h1 h2; rcases h2 with h2 | h2 <;> first | exact h2 | (exfalso; omega))) c15 (by intro q h1 h2; rcases h2 with h2 | h2 <;> first | exact h2 | (exfalso; omega)))
            have rx_15 := rx_8.keep cc_8_15
            have ra_15 := ra_8.keep cc_8_15
            have rb_15 := rb_8.keep cc_8_15
            have sr_15 := sr_8.keep cc_8_15
            have si_15 := si_8.keep cc_8_15
            have st_15 := st_8.keep cc_8_15
            have tab_15 := tab_8.keep cc_8_15
            have CH_15 := CH_8.and cc_8_15
            exact ⟨.inr ⟨rfl, by omega⟩, b13_15, rx_15, ra_15, rb_15, sr_15, si_15, st_15, tab_15, by omega, CH_15⟩
          · skip
            try simp only [Bool.and_eq_true, Bool.or_eq_true, Bool.not_eq_true', Bool.not_eq_false', Bool.and_eq_false_iff, Bool.or_eq_false_iff, decide_eq_true_eq, decide_eq_false_iff_not] at hc7
            refine VC.skip (VQ.cut 1 ?_ ⟨rfl, rfl, rfl, rfl, rfl, rfl, rfl, rfl, rfl, trivial⟩)
            have cc_8_14 : Ch No w8 w14 := (Ch.then (E := No) c13 c14 (by intro q h1 h2; rcases h2 with h2 | h2 <;> first | exact h2 | (exfalso; omega)))
            have rx_14 := rx_8.keep cc_8_14
            have ra_14 := ra_8.keep cc_8_14
            have rb_14 := rb_8.keep cc_8_14
            have sr_14 := sr_8.keep cc_8_14
            have si_14 := si_8.keep cc_8_14
            have st_14 := st_8.keep cc_8_14
            have tab_14 := tab_8.keep cc_8_14
            have CH_14 := CH_8.and cc_8_14
            exact ⟨.inl rfl, b13_14, rx_14, ra_14, rb_14, sr_14, si_14, st_14, tab_14, by omega, CH_14⟩
        rintro kd w16 ⟨hkd, b13_16, rx_16, ra_16, rb_16, sr_16, si_16, st_16, tab_16, hszc, CH_16⟩
        show VC _ _ _ _ [(3, .slice RA rl rc), (4, .slice IA il ic), (5, .bool fly), (6, .int .i64 way), (8, .int .i64 n), (9, .slice (some ⟨p5, 0, none⟩) n n), (10, .slice (some ⟨p6, 0, none⟩) n n), (11, .slice (some ⟨p7, 0, none⟩) n n), (13, .pointer (some ⟨p13, 0, none⟩))] _
        refine VC.seq ?_
        have htm := tm2 way
        have hwy : ((way.tmod 2 + 2).tmod 2) = 0 ∨ ((way.tmod 2 + 2).tmod 2) = 1 := by rcases htm with h | h | h <;> rw [h] <;> decide
        refine VC.region (VO.mv (Rn.loads Tryz.isAgg38 Tryz.sizeOf38 rfl rfl (b13_16.all' rfl)) rfl rfl rfl (VO.mv (Rn.move rfl) rfl rfl rfl (VO.mv (Rn.rem rfl rfl (by decide)) rfl rfl rfl ?_)))
        refine VO.mv (Rn.add rfl rfl (by rw [IntKind.wrap_i64]; omega)) rfl rfl rfl ?_
        refine VO.mv (Rn.rem rfl rfl (by decide)) rfl rfl rfl (VO.wk (Wk.call Tryz.call8 rfl (plan_OfB kd n hn3.h hkd _ hwy _ st_16 ((tab_16).up (by omega)) (by omega))) rfl rfl rfl ?_)
        rintro _ w17 ⟨pp, PP, rfl, pl17, hL, c17⟩
        clear htm hwy hkd
        have z17 := c17.size
        refine VO.mv (Rn.move rfl) rfl rfl rfl (VO.mv (Rn.extract rfl rfl) rfl rfl rfl (VO.mv (Rn.extract rfl rfl) rfl rfl rfl (VO.mv (Rn.assign rfl) rfl rfl rfl (VO.mv (Rn.assign rfl) rfl rfl rfl (VO.nil (VQ.then_code (VC.seq ?_)))))))
        refine VC.seq (VC.region (VO.mv (Rn.move rfl) rfl rfl rfl (VO.mv (Rn.nil_neq_nil Tryz.underlying25 rfl) rfl rfl rfl (VO.mv (Rn.move rfl) rfl rfl rfl (VO.mv (Rn.move rfl) rfl rfl rfl (VO.mv (Rn.ptr_eql_nil Tryz.underlying23 rfl) rfl rfl rfl (VO.mv (Rn.pick_false rfl rfl) rfl rfl rfl ?_)))))))
        refine VO.nil (VQ.then_code (VC.cond_false rfl (VC.skip (VQ.then_code (VC.seq (VC.region (VO.mv (Rn.move rfl) rfl rfl rfl ?_)))))))
        refine VO.mv (Rn.move rfl) rfl rfl rfl ?_
        have rx_17 := rx_16.keep c17
        have st_17 := st_16.keep c17
        refine VO.wk (Wk.call Tryz.call9 rfl (p_Forward _ _ _ _ _ _ n _ _ _ (rx_17).sl (fun q hq => by omega) pl17 (by omega) _ hL.ok.ok hL.ok.okb hL.ok.ne (by rw [hL.ln]) st_17 (by omega) hL.ok.ac)) rfl rfl rfl ?_
        rintro _ w18 ⟨rO, AO, kO, zs, rfl, out18, hz, yo18, c18⟩
        have e4 : PP.b.ln.toNat = n := by rw [hL.ln]; rfl
        have hlo := Ow.lt out18
        have z18 := c18.size
        refine VO.mv (Rn.move rfl) rfl rfl rfl (VO.mv (Rn.extract rfl rfl) rfl rfl rfl (VO.mv (Rn.extract rfl rfl) rfl rfl rfl (VO.mv (Rn.assign rfl) rfl rfl rfl (VO.mv (Rn.assign rfl) rfl rfl rfl (VO.nil (VQ.then_code (VC.seq ?_)))))))
        refine VC.seq (VC.region (VO.mv (Rn.move rfl) rfl rfl rfl (VO.mv (Rn.nil_neq_nil Tryz.underlying25 rfl) rfl rfl rfl (VO.mv (Rn.move rfl) rfl rfl rfl (VO.mv (Rn.move rfl) rfl rfl rfl (VO.mv (Rn.len Tryz.underlying33 rfl) rfl rfl rfl (VO.mv (Rn.move rfl) rfl rfl rfl ?_)))))))
        refine VO.mv (Rn.neqF rfl rfl (by omega)) rfl rfl rfl (VO.mv (Rn.pick_false rfl rfl) rfl rfl rfl (VO.nil (VQ.then_code (VC.cond_false rfl (VC.skip (VQ.then_code (VC.seq ?_)))))))
        refine VC.seq (VC.region (VO.mv (Rn.assign rfl) rfl rfl rfl (VO.nil (VQ.then_code (VC.block ?_)))))
        have rx_18 := rx_17.keep c18
        have ra_18 := ra_16.keep (c17.trans c18)
        have rb_18 := rb_16.keep (c17.trans c18)
        have pl_18 := pl17.keep c18
        have st_18 := st_17.keep c18
        have CH_18 := CH_16.and (c17.trans c18)
        refine VC.loopS (σ := Nat) (fun k => [(8, .int .i64 n), (9, .slice (some ⟨p5, 0, none⟩) n n), (10, .slice (some ⟨p6, 0, none⟩) n n), (11, .slice (some ⟨p7, 0, none⟩) n n), (14, .pointer (some ⟨pp, 0, none⟩)), (16, .slice AO PP.b.ln.toNat kO), (17, .int .i64 k)]) (fun k w' => k ≤ n ∧ w18.heap.size ≤ w'.heap.size ∧ CR 34 w' (p5 + 1) (some ⟨p5, 0, none⟩) n n (rowF n (fX res ims) n) ∧ IR 2 w' (p6 + 1) (some ⟨p6, 0, none⟩) n n (rowI n (fM res) n) ∧ IR 2 w' (p7 + 1) (some ⟨p7, 0, none⟩) n n (rowI n (fM ims) n) ∧ CR 34 w' rO AO PP.b.ln.toNat kO zs ∧ PlnR w16.heap.size w17.heap.size w' pp PP ∧ StT w' ∧ Ch (No) w w') (fun k => n - k) 0 ?_ ⟨rfl, rfl, rfl, rfl, rfl, rfl, rfl, trivial⟩ ?_
        · exact ⟨(by omega), (Nat.le_refl _), rx_18, ra_18, rb_18, out18, pl_18, st_18, CH_18⟩
        rintro k w19 ⟨hk, hsz19, rx_19, ra_19, rb_19, out_19, pl_19, st_19, CH_19⟩
        show VC _ _ _ _ [(8, .int .i64 n), (9, .slice (some ⟨p5, 0, none⟩) n n), (10, .slice (some ⟨p6, 0, none⟩) n n), (11, .slice (some ⟨p7, 0, none⟩) n n), (14, .pointer (some ⟨pp, 0, none⟩)), (16, .slice AO PP.b.ln.toNat kO), (17, .int .i64 k)] _
        refine VC.seq (VC.seq (VC.region (VO.mv (Rn.move rfl) rfl rfl rfl (VO.mv (Rn.move rfl) rfl rfl rfl (VO.mv (Rn.lss rfl rfl) rfl rfl rfl (VO.nil (VQ.then_code ?_)))))))
        refine VC.cond_if rfl (fun hc8 => ?_) (fun hc8 => ?_)
        · skip
          refine VC.skip (VQ.then_code (VC.seq (VC.block (VC.seq (VC.region (VO.mv (Rn.assign rfl) rfl rfl rfl (VO.mv (Rn.assign rfl) rfl rfl rfl ?_)))))))
          refine VO.nil (VQ.then_code (VC.seq (VC.seq (VC.region (VO.mv (Rn.assign rfl) rfl rfl rfl (VO.nil (VQ.then_code ?_)))))))
          refine VC.block (VC.loopS (σ := Nat × Int × Int) (fun (j, u, v) => [(8, .int .i64 n), (9, .slice (some ⟨p5, 0, none⟩) n n), (10, .slice (some ⟨p6, 0, none⟩) n n), (11, .slice (some ⟨p7, 0, none⟩) n n), (14, .pointer (some ⟨pp, 0, none⟩)), (16, .slice AO PP.b.ln.toNat kO), (17, .int .i64 k), (18, .int .i64 u), (19, .int .i64 v), (20, .int .i64 j)]) (fun (j, u, v) w' => j ≤ n ∧ (u, v) = uvL n k (fM res) (fM ims) j ∧ w19.heap.size ≤ w'.heap.size ∧ CR 34 w' (p5 + 1) (some ⟨p5, 0, none⟩) n n (rowF n (fX res ims) n) ∧ IR 2 w' (p6 + 1) (some ⟨p6, 0, none⟩) n n (rowI n (fM res) n) ∧ IR 2 w' (p7 + 1) (some ⟨p7, 0, none⟩) n n (rowI n (fM ims) n) ∧ CR 34 w' rO AO PP.b.ln.toNat kO zs ∧ PlnR w16.heap.size w17.heap.size w' pp PP ∧ StT w' ∧ Ch (No) w w') (fun (j, u, v) => n - j) (0, 0, 0) ?_ ⟨rfl, rfl, rfl, rfl, rfl, rfl, rfl, rfl, rfl, rfl, trivial⟩ ?_)
          · exact ⟨(by omega), (by rfl), (Nat.le_refl _), rx_19, ra_19, rb_19, out_19, pl_19, st_19, CH_19⟩
          rintro ⟨j, u, v⟩ w20 ⟨hj, hu, hsz20, rx_20, ra_20, rb_20, out_20, pl_20, st_20, CH_20⟩
          show VC _ _ _ _ [(8, .int .i64 n), (9, .slice (some ⟨p5, 0, none⟩) n n), (10, .slice (some ⟨p6, 0, none⟩) n n), (11, .slice (some ⟨p7, 0, none⟩) n n), (14, .pointer (some ⟨pp, 0, none⟩)), (16, .slice AO PP.b.ln.toNat kO), (17, .int .i64 k), (18, .int .i64 u), (19, .int .i64 v), (20, .int .i64 j)] _
          have hjk : 4 * (j : Int) * (k : Int) = ((4 * (j * k) : Nat) : Int) := by push_cast; rw [Int.mul_assoc]
          have hjk2 : j * k ≤ 4 * 4 := Nat.mul_le_mul (by omega) (by omega)
          obtain ⟨Q, hQ⟩ : ∃ Q, 4 * (j * k) / n = Q := ⟨_, rfl⟩
          have hq : 4 * (j : Int) * (k : Int) / (n : Int) = (Q : Int) := by rw [hjk, ← hQ]; norm_cast
          have hbd := uv_bd (n := n) (k := k) (fM_bd res ims) j (by omega)
          obtain ⟨hu1, hv1⟩ := uv_fst hu
          have hfj := fM_bd res ims j
          refine VC.seq (VC.seq (VC.region (VO.mv (Rn.move rfl) rfl rfl rfl (VO.mv (Rn.move rfl) rfl rfl rfl (VO.mv (Rn.lss rfl rfl) rfl rfl rfl (VO.nil (VQ.then_code ?_)))))))
          refine VC.cond_if rfl (fun hc9 => ?_) (fun hc9 => ?_)
          · skip
            have hga : (rowI n (fM res) n).getD ((j : Int)).toNat 0 = fM res j := rowI_get (by omega)
            have hgb : (rowI n (fM ims) n).getD ((j : Int)).toNat 0 = fM ims j := rowI_get (by omega)
            refine VC.skip (VQ.then_code (VC.seq (VC.block (VC.seq (VC.region (VO.mv (Rn.move rfl) rfl rfl rfl ?_))))))
            refine VO.mv (Rn.mul rfl rfl (by rw [IntKind.wrap_i64]; omega)) rfl rfl rfl ?_
            refine VO.mv (Rn.move rfl) rfl rfl rfl ?_
            refine VO.mv (Rn.mul rfl rfl (by rw [IntKind.wrap_i64]; omega)) rfl rfl rfl ?_
            refine VO.mv (Rn.move rfl) rfl rfl rfl (VO.mv (Rn.quo0 rfl rfl (by omega) (by omega) (by omega)) rfl rfl rfl (VO.mv (Rn.rem0 rfl rfl (by omega) (by omega)) rfl rfl rfl (VO.nil (VQ.then_code (VC.block (VC.seq (VC.region ?_)))))))
            refine VO.mv (Rn.eql rfl rfl) rfl rfl rfl (VO.mv (Rn.assign rfl) rfl rfl rfl (VO.nil (VQ.then_code (VC.cond_if rfl (fun hc10 => ?_) (fun hc10 => ?_)))))
            · skip
              refine VC.seq (VC.region (VO.mv (Rn.move rfl) rfl rfl rfl (VO.mv (Rn.move rfl) rfl rfl rfl (VO.mv (Rn.move rfl) rfl rfl rfl (VO.mv (Rn.indexS Tryz.underlying30 Tryz.sizeOf2 rfl rfl ((ra_20).sl.ne (by omega)) (by omega) (by omega)) rfl rfl rfl (VO.mv (Rn.load Tryz.isAgg2 rfl (((ra_20)).sl.getI (by omega) (by omega))) rfl rfl rfl ?_))))))
              refine VO.mv (Rn.add rfl rfl (by rw [IntKind.wrap_i64]; omega)) rfl rfl rfl ?_
              refine VO.mv (Rn.assign rfl) rfl rfl rfl (VO.nil (VQ.then_code (VC.region (VO.mv (Rn.move rfl) rfl rfl rfl (VO.mv (Rn.move rfl) rfl rfl rfl (VO.mv (Rn.move rfl) rfl rfl rfl (VO.mv (Rn.indexS Tryz.underlying30 Tryz.sizeOf2 rfl rfl ((rb_20).sl.ne (by omega)) (by omega) (by omega)) rfl rfl rfl ?_)))))))
              refine VO.mv (Rn.load Tryz.isAgg2 rfl (((rb_20)).sl.getI (by omega) (by omega))) rfl rfl rfl ?_
              refine VO.mv (Rn.add rfl rfl (by rw [IntKind.wrap_i64]; omega)) rfl rfl rfl ?_
              refine VO.mv (Rn.assign rfl) rfl rfl rfl (VO.nil (VQ.block_normal (VQ.block_normal (VQ.then_code (VC.region (VO.mv (Rn.move rfl) rfl rfl rfl ?_))))))
              refine VO.mv (Rn.add rfl rfl (by rw [IntKind.wrap_i64]; omega)) rfl rfl rfl ?_
              refine VO.mv (Rn.assign rfl) rfl rfl rfl (VO.nil ?_)
              refine VQ.round (j + 1, _, _) (by first | omega | (dsimp only; omega)) ?_ ⟨rfl, rfl, rfl, rfl, rfl, rfl, rfl, rfl, rfl, rfl, trivial⟩
              exact ⟨by omega, (by rw [hga, hgb]; exact uv0 (by rw [hQ]; omega) hu), by omega, rx_20, ra_20, rb_20, out_20, pl_20, st_20, CH_20⟩
            · skip
              refine VC.seq (VC.region (VO.mv (Rn.eql rfl rfl) rfl rfl rfl (VO.mv (Rn.assign rfl) rfl rfl rfl (VO.nil (VQ.then_code (VC.cond_if rfl (fun hc11 => ?_) (fun hc11 => ?_)))))))
              · skip
                refine VC.seq (VC.region (VO.mv (Rn.move rfl) rfl rfl rfl (VO.mv (Rn.move rfl) rfl rfl rfl (VO.mv (Rn.move rfl) rfl rfl rfl (VO.mv (Rn.indexS Tryz.underlying30 Tryz.sizeOf2 rfl rfl ((rb_20).sl.ne (by omega)) (by omega) (by omega)) rfl rfl rfl (VO.mv (Rn.load Tryz.isAgg2 rfl (((rb_20)).sl.getI (by omega) (by omega))) rfl rfl rfl ?_))))))
                refine VO.mv (Rn.add rfl rfl (by rw [IntKind.wrap_i64]; omega)) rfl rfl rfl ?_
                refine VO.mv (Rn.assign rfl) rfl rfl rfl (VO.nil (VQ.then_code (VC.region (VO.mv (Rn.move rfl) rfl rfl rfl (VO.mv (Rn.move rfl) rfl rfl rfl (VO.mv (Rn.move rfl) rfl rfl rfl (VO.mv (Rn.indexS Tryz.underlying30 Tryz.sizeOf2 rfl rfl ((ra_20).sl.ne (by omega)) (by omega) (by omega)) rfl rfl rfl ?_)))))))
                refine VO.mv (Rn.load Tryz.isAgg2 rfl (((ra_20)).sl.getI (by omega) (by omega))) rfl rfl rfl ?_
                refine VO.mv (Rn.sub rfl rfl (by rw [IntKind.wrap_i64]; omega)) rfl rfl rfl ?_
                refine VO.mv (Rn.assign rfl) rfl rfl rfl (VO.nil (VQ.block_normal (VQ.block_normal (VQ.then_code (VC.region (VO.mv (Rn.move rfl) rfl rfl rfl ?_))))))
                refine VO.mv (Rn.add rfl rfl (by rw [IntKind.wrap_i64]; omega)) rfl rfl rfl ?_
                refine VO.mv (Rn.assign rfl) rfl rfl rfl (VO.nil ?_)
                refine VQ.round (j + 1, _, _) (by first | omega | (dsimp only; omega)) ?_ ⟨rfl, rfl, rfl, rfl, rfl, rfl, rfl, rfl, rfl, rfl, trivial⟩
                exact ⟨by omega, (by rw [hga, hgb]; exact uv1 (by rw [hQ]; omega) hu), by omega, rx_20, ra_20, rb_20, out_20, pl_20, st_20, CH_20⟩
              · skip
                refine VC.seq (VC.region (VO.mv (Rn.eql rfl rfl) rfl rfl rfl (VO.mv (Rn.assign rfl) rfl rfl rfl (VO.nil (VQ.then_code (VC.cond_if rfl (fun hc12 => ?_) (fun hc12 => ?_)))))))
                · skip
                  refine VC.seq (VC.region (VO.mv (Rn.move rfl) rfl rfl rfl (VO.mv (Rn.move rfl) rfl rfl rfl (VO.mv (Rn.move rfl) rfl rfl rfl (VO.mv (Rn.indexS Tryz.underlying30 Tryz.sizeOf2 rfl rfl ((ra_20).sl.ne (by omega)) (by omega) (by omega)) rfl rfl rfl (VO.mv (Rn.load Tryz.isAgg2 rfl (((ra_20)).sl.getI (by omega) (by omega))) rfl rfl rfl ?_))))))
                  refine VO.mv (Rn.sub rfl rfl (by rw [IntKind.wrap_i64]; omega)) rfl rfl rfl ?_
                  refine VO.mv (Rn.assign rfl) rfl rfl rfl (VO.nil (VQ.then_code (VC.region (VO.mv (Rn.move rfl) rfl rfl rfl (VO.mv (Rn.move rfl) rfl rfl rfl (VO.mv (Rn.move rfl) rfl rfl rfl (VO.mv (Rn.indexS Tryz.underlying30 Tryz.sizeOf2 rfl rfl ((rb_20).sl.ne (by omega)) (by omega) (by omega)) rfl rfl rfl ?_)))))))
                  refine VO.mv (Rn.load Tryz.isAgg2 rfl (((rb_20)).sl.getI (by omega) (by omega))) rfl rfl rfl ?_
                  refine VO.mv (Rn.sub rfl rfl (by rw [IntKind.wrap_i64]; omega)) rfl rfl rfl ?_
                  refine VO.mv (Rn.assign rfl) rfl rfl rfl (VO.nil (VQ.block_normal (VQ.block_normal (VQ.then_code (VC.region (VO.mv (Rn.move rfl) rfl rfl rfl ?_))))))
                  refine VO.mv (Rn.add rfl rfl (by rw [IntKind.wrap_i64]; omega)) rfl rfl rfl ?_
                  refine VO.mv (Rn.assign rfl) rfl rfl rfl (VO.nil ?_)
                  refine VQ.round (j + 1, _, _) (by first | omega | (dsimp only; omega)) ?_ ⟨rfl, rfl, rfl, rfl, rfl, rfl, rfl, rfl, rfl, rfl, trivial⟩
                  exact ⟨by omega, (by rw [hga, hgb]; exact uv2 (by rw [hQ]; omega) hu), by omega, rx_20, ra_20, rb_20, out_20, pl_20, st_20, CH_20⟩
                · skip
                  refine VC.seq (VC.region (VO.mv (Rn.eql rfl rfl) rfl rfl rfl (VO.mv (Rn.assign rfl) rfl rfl rfl (VO.nil (VQ.then_code (VC.cond_if rfl (fun hc13 => ?_) (fun hc13 => ?_)))))))
                  · skip
                    refine VC.seq (VC.region (VO.mv (Rn.move rfl) rfl rfl rfl (VO.mv (Rn.move rfl) rfl rfl rfl (VO.mv (Rn.move rfl) rfl rfl rfl (VO.mv (Rn.indexS Tryz.underlying30 Tryz.sizeOf2 rfl rfl ((rb_20).sl.ne (by omega)) (by omega) (by omega)) rfl rfl rfl (VO.mv (Rn.load Tryz.isAgg2 rfl (((rb_20)).sl.getI (by omega) (by omega))) rfl rfl rfl ?_))))))
                    refine VO.mv (Rn.sub rfl rfl (by rw [IntKind.wrap_i64]; omega)) rfl rfl rfl ?_
                    refine VO.mv (Rn.assign rfl) rfl rfl rfl (VO.nil (VQ.then_code (VC.region (VO.mv (Rn.move rfl) rfl rfl rfl (VO.mv (Rn.move rfl) rfl rfl rfl (VO.mv (Rn.move rfl) rfl rfl rfl (VO.mv (Rn.indexS Tryz.underlying30 Tryz.sizeOf2 rfl rfl ((ra_20).sl.ne (by omega)) (by omega) (by omega)) rfl rfl rfl ?_)))))))
                    refine VO.mv (Rn.load Tryz.isAgg2 rfl (((ra_20)).sl.getI (by omega) (by omega))) rfl rfl rfl ?_
                    refine VO.mv (Rn.add rfl rfl (by rw [IntKind.wrap_i64]; omega)) rfl rfl rfl ?_
                    refine VO.mv (Rn.assign rfl) rfl rfl rfl (VO.nil (VQ.block_normal (VQ.block_normal (VQ.then_code (VC.region (VO.mv (Rn.move rfl) rfl rfl rfl ?_))))))
                    refine VO.mv (Rn.add rfl rfl (by rw [IntKind.wrap_i64]; omega)) rfl rfl rfl ?_
                    refine VO.mv (Rn.assign rfl) rfl rfl rfl (VO.nil ?_)
                    refine VQ.round (j + 1, _, _) (by first | omega | (dsimp only; omega)) ?_ ⟨rfl, rfl, rfl, rfl, rfl, rfl, rfl, rfl, rfl, rfl, trivial⟩
                    exact ⟨by omega, (by rw [hga, hgb]; exact uv3 (by rw [hQ]; omega) hu), by omega, rx_20, ra_20, rb_20, out_20, pl_20, st_20, CH_20⟩
                  · skip
                    omega
          · skip
            obtain rfl : n = j := by omega
            obtain ⟨hu9, hv9⟩ := uv_fst hu
            have hk9 := fwd_out hL hz k (by omega)
            rw [← hu9, ← hv9] at hk9
            have hb9 := uv_bd (n := n) (k := k) (fM_bd res ims) n (by omega)
            refine VC.exit (VQ.then_exit (VQ.then_exit (VQ.block_exit (VQ.then_code (VC.seq (VC.region (VO.mv (Rn.move rfl) rfl rfl rfl ?_)))))))
            refine VO.mv (Rn.move rfl) rfl rfl rfl (VO.mv (Rn.indexS Tryz.underlying33 Tryz.sizeOf34 rfl rfl (out_20.sl.ne (by omega)) (by omega) (by omega)) rfl rfl rfl (VO.mv (Rn.load Tryz.isAgg34 rfl (out_20.sl.getC (by omega) (by omega))) rfl rfl rfl (VO.mv (Rn.real rfl) rfl rfl rfl (VO.mv (Rn.move rfl) rfl rfl rfl (VO.mv (Rn.conv_if Tryz.underlying2 Tryz.underlying35 rfl) rfl rfl rfl (VO.mv (Rn.fneqF rfl rfl (Wh.eq_true hk9.1 (Wh.cn_int (sm_of (by omega) (by omega))) (sm_of (by omega) (by omega)))) rfl rfl rfl (VO.mv (Rn.move rfl) rfl rfl rfl ?_)))))))
            refine VO.mv (Rn.move rfl) rfl rfl rfl (VO.mv (Rn.move rfl) rfl rfl rfl (VO.mv (Rn.indexS Tryz.underlying33 Tryz.sizeOf34 rfl rfl (out_20.sl.ne (by omega)) (by omega) (by omega)) rfl rfl rfl (VO.mv (Rn.load Tryz.isAgg34 rfl (out_20.sl.getC (by omega) (by omega))) rfl rfl rfl (VO.mv (Rn.imag rfl) rfl rfl rfl (VO.mv (Rn.move rfl) rfl rfl rfl (VO.mv (Rn.conv_if Tryz.underlying2 Tryz.underlying35 rfl) rfl rfl rfl (VO.mv (Rn.fneqF rfl rfl (Wh.eq_true hk9.2 (Wh.cn_int (sm_of (by omega) (by omega))) (sm_of (by omega) (by omega)))) rfl rfl rfl ?_)))))))
            refine VO.mv (Rn.pick_false rfl rfl) rfl rfl rfl (VO.nil (VQ.then_code (VC.cond_false rfl (VC.skip (VQ.block_normal (VQ.then_code (VC.region ?_)))))))
            refine VO.mv (Rn.move rfl) rfl rfl rfl ?_
            refine VO.mv (Rn.add rfl rfl (by rw [IntKind.wrap_i64]; omega)) rfl rfl rfl ?_
            refine VO.mv (Rn.assign rfl) rfl rfl rfl (VO.nil ?_)
            refine VQ.round (k + 1) (by first | omega | (dsimp only; omega)) ?_ ⟨rfl, rfl, rfl, rfl, rfl, rfl, rfl, trivial⟩
            exact ⟨(by omega), (by omega), rx_20, ra_20, rb_20, out_20, pl_20, st_20, CH_20⟩
        · skip
          refine VC.exit (VQ.then_exit (VQ.then_exit (VQ.block_exit (VQ.then_code (VC.seq (VC.region (VO.mv (Rn.move rfl) rfl rfl rfl ?_)))))))
          refine VO.mv (Rn.move rfl) rfl rfl rfl (VO.wk (Wk.call Tryz.call10 rfl (p_Inverse _ _ _ _ _ _ _ _ zs _ (out_19).sl (fun q hq => by omega) pl_19 (by omega) _ hL.ok.ok hL.ok.okb hL.ok.ne (by rw [e4, hL.ln]) st_19 (by omega) hL.ok.ac)) rfl rfl rfl ?_)
          rintro _ w21 ⟨rZ, AZ, kZ, ws, rfl, oz21, hw, yz21, c21⟩
          have z21 := c21.size
          refine VO.mv (Rn.move rfl) rfl rfl rfl (VO.mv (Rn.extract rfl rfl) rfl rfl rfl (VO.mv (Rn.extract rfl rfl) rfl rfl rfl (VO.mv (Rn.assign rfl) rfl rfl rfl (VO.mv (Rn.assign rfl) rfl rfl rfl (VO.nil (VQ.then_code (VC.seq ?_)))))))
          refine VC.region (VO.mv (Rn.move rfl) rfl rfl rfl (VO.mv (Rn.nil_eql_nil Tryz.underlying25 rfl) rfl rfl rfl (VO.mv (Rn.move rfl) rfl rfl rfl (VO.mv (Rn.move rfl) rfl rfl rfl (VO.mv (Rn.move rfl) rfl rfl rfl ?_)))))
          have rx_21 := rx_19.keep c21
          refine VO.wk (Wk.call Tryz.call11 rfl (law_equal _ _ _ _ _ _ _ _ ws (rowF n (fX res ims) n) _ oz21.sl rx_21.sl e4 (by omega) (fun k hk => inv_out hL hz hw k (by omega)))) rfl rfl rfl ?_
          rintro _ w22 ⟨rfl, c22⟩
          have z22 := c22.size
          refine VO.mv (Rn.pick_true rfl rfl) rfl rfl rfl (VO.mv (Rn.assign rfl) rfl rfl rfl (VO.nil (VQ.then_code (VC.ret (VQ.ret1 rfl rfl (Ret.mk ?_))))))
          have CH_22 := CH_19.and (c21.trans c22)
          exact ⟨rfl, CH_22⟩

end Go.Tm
