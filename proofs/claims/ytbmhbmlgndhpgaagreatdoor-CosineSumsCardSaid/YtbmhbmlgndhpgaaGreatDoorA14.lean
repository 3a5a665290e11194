/- Lemmas of this claim, joined by program. Walks of functions: machines made, loaded, read. Walks of functions: a plan's transforms. Arrays of floats in an own block; roots of unity in plain Lean: series, eighths of a turn, pairs. Rules for comparisons whose outcome is known; rows of whole numbers. Conditions: each lemma names its own. -/
import Derived.Test.YtbmhbmlgndhpgaaGreatDoorA13
import Derived.Test.YtbmhbmlgndhpgaaGreatDoorA12
set_option linter.all false
namespace Go.Tm
open Go.RowKit Go.Proofs
theorem CR.sub {e : TypeId} {w : World} {r : Nat} {A : Option Addr} {l c : Nat} {xs : List CB} (h : CR e w r A l c xs) {i j : Nat} (h1 : i ≤ j) (h2 : j ≤ l) (hc : l ≤ c) : SlR (At r) w (if c = i then A else A.map (·.add (i * 1))) (j - i) 1 (((xs.drop i).take (j - i)).map cxV) := by
  have := SlR.sub (Ow.sl h) h1 h2 hc
  rw [← List.map_drop, ← List.map_take] at this
  exact this
theorem Ow.r_pos {w : World} {r : Nat} {e : TypeId} {sz : Nat} {A : Option Addr} {l c : Nat} {cs : List Value} (h : Ow w r e sz A l c cs) (hl : 0 < l) : 0 < r := by
  obtain ⟨g, cur, _, rfl, _⟩ := Ow.open' h hl
  omega
theorem cx_one (l : List CB) : (l.map cxV).all Value.oneCell' = true := by
  rw [List.all_eq_true]
  intro v hv
  obtain ⟨z, _, rfl⟩ := List.mem_map.1 hv
  rfl
theorem encB_pos (b : Bld) : 0 < (encB b).length := by
  have := uintB_ne b.steps.length
  rw [encB, List.length_append, List.length_append]; omega
set_option maxRecDepth 100000 in
theorem inf50w44 : Inf Tryz.prog 50 (.complex .f64 0 0) 1 16 := ⟨Tryz.t50, Tryz.type50, rfl, rfl, rfl⟩
set_option maxRecDepth 100000 in
theorem inf119w44 : Inf Tryz.prog 119 (.agg #[.int .i64 0, .int .i64 0, .int .i64 0, .int .i64 0, .int .i64 0, .int .i64 0, .int .i64 0]) 7 56 := ⟨Tryz.t119, Tryz.type119, rfl, rfl, rfl⟩
theorem bld121_0_1_2_3w44 {v0_0 v0_1 v0_2 v0_3 v0_4 v1 v2 v3 : Value} (h : [v1, v2, v3].all Value.oneCell' = true) (w : World) : (Instr.build 121 ([(0, .agg #[v0_0, v0_1, v0_2, v0_3, v0_4]), (1, v1), (2, v2), (3, v3)] : List (Nat × Value)).toArray).run Tryz.prog w = .ok (.agg #[v0_0, v0_1, v0_2, v0_3, v0_4, v1, v2, v3, .int .i64 0, .int .i64 0, .int .i64 0, .slice none 0 0, .int .i64 0, .int .i64 0, .int .i64 0, .int .i64 0, .int .i64 0, .int .i64 0, .int .i64 0]) w := by
  simp only [List.all_cons, Bool.and_eq_true, List.all_nil, and_true] at h
  have hv1 := oneCell_cells (v := v1) (by simp_all)
  have hv2 := oneCell_cells (v := v2) (by simp_all)
  have hv3 := oneCell_cells (v := v3) (by simp_all)
  have h1 := fill_set (fun i => ([(0, 5), (5, 1), (6, 1), (7, 1), (8, 1), (9, 1), (10, 1), (11, 1), (12, 7)] : List (Nat × Nat))[i]?) [(0, .agg #[v0_0, v0_1, v0_2, v0_3, v0_4]), (1, v1), (2, v2), (3, v3)] [.int .i64 0, .int .i64 0, .int .i64 0, .int .i64 0, .slice none 0 0, .string ⟨#[]⟩, .slice none 0 0, .int .i64 0, .int .i64 0, .int .i64 0, .int .i64 0, .slice none 0 0, .int .i64 0, .int .i64 0, .int .i64 0, .int .i64 0, .int .i64 0, .int .i64 0, .int .i64 0] (by simp [okF, agg_cells, hv1, hv2, hv3, Nat.beq, Nat.ble])
  simp [setF, agg_cells, hv1, hv2, hv3] at h1
  simp [Instr.build, Tryz.runUnderlying121, Tryz.zeroValue121, Tryz.sizeOf3, Tryz.sizeOf9, Tryz.sizeOf49, Tryz.sizeOf93, Tryz.sizeOf119, agg_cells, h1]
set_option maxHeartbeats 2000000 in
set_option maxRecDepth 100000 in
theorem m_New (b : Bld) (N : Nat) (ok : PrgOk b N) (S : Nat → Prop) (A : Option Addr) (c : Nat) (w : World) (st : StT w) (sb : SlR S w A b.steps.length 7 (flatS b.steps)) (hG : 24 ≤ w.heap.size) (okb : okB b) (hSb : ∀ y, S y → y < w.heap.size) (hne : 1 ≤ b.steps.length) :
  Calls Tryz.prog 51 #[.agg #[.int .i64 b.ln, .int .i64 b.cl, .int .i64 b.i0, .int .i64 b.ou, .slice A b.steps.length c]] w (Ret (fun v w' => ∃ m r rs SA sc CA, v = .tuple #[.pointer (some ⟨m, 0, none⟩), .nilIface] ∧ MacR w' m r b N SA sc ⟨(encB b).toArray⟩ CA (cntS b.steps) 0 0 0 (List.replicate N (0, 0)) ∧ SlR (At rs) w' SA b.steps.length 7 (flatS b.steps) ∧ (w.heap.size ≤ m ∧ w.heap.size < r ∧ w.heap.size < rs ∧ ¬ rs = r ∧ ¬ rs = m + 1) ∧ Ch No w w')) := by
 have hln := ok.ln; have hn1 := ok.n1; have hi0 := ok.i0; have hou := ok.ou; have hlen := ok.len; have hact := ok.act; have hcl := ok.cl
 have hdl0 := cntS_drop_le ok.ok 0; rw [List.drop_zero] at hdl0
 have hep := encB_pos b
 refine calls_of_VC (args := [.agg #[.int .i64 b.ln, .int .i64 b.cl, .int .i64 b.i0, .int .i64 b.ou, .slice A b.steps.length c]]) Tryz.func51 rfl Tryz.ntmps51 rfl (VC.seq (VC.region (VO.wk (Wk.box rfl) rfl rfl rfl ?_)))
 rintro _ w1 ⟨p1, rfl, N1⟩
 have c1 := N1.ch
 have e1 := N1.p; have z1 := N1.size
 have b1 := Bk.new N1
 refine VO.mv (Rn.assign rfl) rfl rfl rfl (VO.mv (Rn.assign rfl) rfl rfl rfl (VO.nil (VQ.then_code (VC.seq (VC.region (VO.mv (Rn.loads Tryz.isAgg93 Tryz.sizeOf93 rfl rfl (b1.all' rfl)) rfl rfl rfl ?_))))))
 have st_1 := st.keep c1
 have sb_1 := sb.keep c1
 refine VO.wk (Wk.call Tryz.call65 rfl (c_Acts _ _ ok _ _ _ _ st_1 sb_1 (by omega))) rfl rfl rfl ?_
 rintro _ w2 ⟨rfl, c2⟩
 have z2 := c2.size
 refine VO.mv (Rn.move rfl) rfl rfl rfl (VO.mv (Rn.extract rfl rfl) rfl rfl rfl (VO.mv (Rn.extract rfl rfl) rfl rfl rfl (VO.mv (Rn.assign rfl) rfl rfl rfl (VO.mv (Rn.assign rfl) rfl rfl rfl (VO.nil (VQ.then_code (VC.seq ?_)))))))
 refine VC.seq (VC.region (VO.mv (Rn.move rfl) rfl rfl rfl (VO.mv (Rn.nil_neq_nil Tryz.underlying29 rfl) rfl rfl rfl (VO.nil (VQ.then_code (VC.cond_false rfl (VC.skip ?_)))))))
 refine VQ.then_code (VC.seq (VC.region ?_))
 have b1_2 := b1.keep c2
 refine VO.mv (Rn.loads Tryz.isAgg93 Tryz.sizeOf93 rfl rfl (b1_2.all' rfl)) rfl rfl rfl ?_
 have st_2 := st_1.keep c2
 have sb_2 := sb_1.keep c2
 refine VO.wk (Wk.call Tryz.call66 rfl (steps_Encode b okb S _ _ _ st_2 sb_2 (fun y hy => by have := hSb y hy; omega) (by omega))) rfl rfl rfl ?_
 rintro _ w3 ⟨re3, eA3, ec3, rfl, en3, yre3, hel3, c3⟩
 have z3 := c3.size
 refine VO.mv (Rn.move rfl) rfl rfl rfl (VO.mv (Rn.extract rfl rfl) rfl rfl rfl (VO.mv (Rn.extract rfl rfl) rfl rfl rfl (VO.mv (Rn.assign rfl) rfl rfl rfl (VO.mv (Rn.assign rfl) rfl rfl rfl (VO.nil (VQ.then_code (VC.seq ?_)))))))
 refine VC.seq (VC.region (VO.mv (Rn.move rfl) rfl rfl rfl (VO.mv (Rn.nil_neq_nil Tryz.underlying29 rfl) rfl rfl rfl (VO.nil (VQ.then_code (VC.cond_false rfl (VC.skip ?_)))))))
 refine VQ.then_code (VC.seq (VC.region (VO.mv (Rn.field Tryz.underlying93 rfl Tryz.sizeOf91 rfl rfl rfl) rfl rfl rfl ?_)))
 have b1_3 := b1_2.keep c3
 refine VO.mv (Rn.load Tryz.isAgg91 rfl (b1_3.cell rfl)) rfl rfl rfl ?_
 have sb_3 := sb_2.keep c3
 refine VO.wk (Wk.append (S := _) Tryz.underlying91 inf119w44 rfl (by decide) rfl rfl (Ow.nil _ _ _) sb_3 (flatS_one _) (fun h => absurd h (by omega)) (by omega) (by simp only [maxLen]; omega)) rfl rfl rfl ?_
 rintro _ w4 ⟨r4, A4, k4, rfl, o4, c4, q4⟩
 have z4 := c4.size
 have y4 := o4.lt
 refine VO.mv (Rn.field Tryz.underlying93 rfl Tryz.sizeOf91 rfl rfl rfl) rfl rfl rfl ?_
 have b1_4 := b1_3.to c4 (by first | exact id | omega)
 refine VO.wk0 (Wk.put Tryz.sizeOf91 rfl rfl rfl rfl b1_4 rfl) rfl rfl ?_
 intro _ w5 Z5
 have c5 := Z5.ch; have z5 := Z5.size
 have b1_5 := Bk.put Z5
 refine VO.nil (VQ.then_code (VC.seq (VC.draws 10 [(0, true), (1, true), (2, true), (3, true), (4, true), (6, true), (5, false), (7, true), (8, false), (9, true)] (fun w1 w' => Ch (No) w1 w') mixed (by kernel_rfl) (fun _ _ => Ch.refl _ _) ?_)))
 intro w6 D6
 have c6 := Ch.of_drew D6; have z6 := c6.size
 have sb_4 := sb_3.to c4 (by first | exact fun _ _ _ _ => id | (intro q h1 h2 hx h3; have := hSb q h2; omega))
 have sb_5 := sb_4.to c5 (by first | exact fun _ _ _ _ => id | (intro q h1 h2 hx h3; have := hSb q h2; omega))
 have sb_6 := sb_5.keep c6
 have b1_6 := b1_5.keep c6
 have en_4 := en3.to c4 (by first | exact fun _ _ _ _ => id | (intro q h1 h2 hx h3; omega))
 have en_5 := en_4.to c5 (by first | exact fun _ _ _ _ => id | (intro q h1 h2 hx h3; omega))
 have en_6 := en_5.keep c6
 have rs_5 := o4.to c5 (by first | exact fun _ _ _ _ => id | (intro q h1 h2 hx h3; omega))
 have rs_6 := rs_5.keep c6
 refine VH.mv (fun w' hS => Rn.loads Tryz.isAgg93 Tryz.sizeOf93 rfl rfl ((b1_6.keep hS).all' rfl)) rfl rfl rfl rfl (VH.mv (fun w' hS => Rn.move rfl) rfl rfl rfl rfl (VH.mv (fun w' hS => Rn.bytes_string Tryz.underlying115 Tryz.underlying5 Tryz.underlying9 rfl hep (en_6.sl.keep hS)) rfl rfl rfl rfl (VH.mv (fun w' hS => Rn.field Tryz.underlying93 rfl Tryz.sizeOf3 rfl rfl rfl) rfl rfl rfl rfl (VH.mv (fun w' hS => Rn.load Tryz.isAgg3 rfl ((b1_6.keep hS).cell rfl)) rfl rfl rfl rfl (VH.mv (fun w' hS => Rn.move rfl) rfl rfl rfl rfl (VH.wk (Wk.mkC Tryz.underlying49 inf50w44 rfl rfl (by omega) (by omega) (by omega)) rfl rfl rfl rfl ?_))))))
 rintro _ w7 ⟨p7, rfl, o7, c7, e7, z7⟩
 have RD_7 := (Ch.refl (No) w6).and c7
 refine ⟨RD_7, ?_⟩
 refine VH.mv (fun w' hS => Rn.build rfl (bld121_0_1_2_3w44 rfl)) rfl rfl rfl rfl (VH.wk (Wk.box rfl) rfl rfl rfl rfl ?_)
 rintro _ w8 ⟨p8, rfl, N8⟩
 have c8 := N8.ch
 have e8 := N8.p; have z8 := N8.size
 have b35 := Bk.new N8
 have RD_8 := RD_7.and c8
 refine ⟨RD_8, ?_⟩
 refine VH.mv (fun w' hS => Rn.assign rfl) rfl rfl rfl rfl (VH.done (VO.mv (Rn.assign rfl) rfl rfl rfl (VO.nil (VQ.noPanic (VQ.then_code (VC.ret (VQ.ret2 rfl rfl rfl ?_)))))))
 refine Ret.mk ?_
 have hN : b.cl.toNat = N := by omega
 have row_8 := o7.keep c8
 have row9 := row_8; have bk9 := b35; rw [hN] at row9 bk9; rw [Nat.zero_add] at bk9
 have rs_8 := rs_6.keep (c7.trans c8)
 have rs9 := rs_8; rw [Nat.zero_add, List.nil_append] at rs9
 have yrs := Ow.r_pos rs9 (by omega)
 have CH_3 := (Ch.refl (No) w).and (c1.trans (c2.trans c3))
 have CH_4 : Ch (No) w w4 := CH_3.then c4 (by intro q h1 h2; rcases h2 with h2 | h2 <;> first | exact h2 | (exfalso; omega) | omega)
 have CH_5 : Ch (No) w w5 := CH_4.then c5 (by intro q h1 h2; rcases h2 with h2 | h2 <;> first | exact h2 | (exfalso; omega) | omega)
 have CH_8 := CH_5.and (c6.trans (c7.trans c8))
 exact ⟨_, _, _, _, _, _, rfl, ⟨bk9, row9, by omega⟩, rs9.sl, ⟨by omega, by omega, by omega, by omega, by omega⟩, CH_8⟩
set_option maxHeartbeats 1000000 in
set_option maxRecDepth 100000 in
theorem m_Load (m r : Nat) (b : Bld) (N : Nat) (SA : Option Addr) (sc : Nat) (bs : ByteArray) (CA : Option Addr) (ac dn st at_ : Int) (xs : List CB) (w : World) (mr : MacR w m r b N SA sc bs CA ac dn st at_ xs) (ok : PrgOk b N) (SX : Nat → Prop) (X : Option Addr) (n xc : Nat) (ys : List CB) (hn : (n : Int) = b.ln) (sx : SlR SX w X n 1 (ys.map cxV)) (hX : ∀ q, SX q → ¬ MS m r q) :
  Calls Tryz.prog 54 #[.pointer (some ⟨m, 0, none⟩), .slice X n xc] w (Ret (fun v w' => v = .nilIface ∧ MacR w' m r b N SA sc bs CA ac 0 0 0 ((List.replicate N (0, 0)).take b.i0.toNat ++ ys ++ (List.replicate N (0, 0)).drop (b.i0.toNat + n)) ∧ Ch (MS m r) w w')) := by
 obtain ⟨bk, row, ne⟩ := id mr
 have yr := Ow.lt row; have ym := bk.lt
 have hln := ok.ln; have hn1 := ok.n1; have hi0 := ok.i0; have hou := ok.ou; have hcl := ok.cl
 refine calls_of_VC (args := [.pointer (some ⟨m, 0, none⟩), .slice X n xc]) Tryz.func54 rfl Tryz.ntmps54 rfl (VC.seq (VC.region (VO.mv (Rn.assign rfl) rfl rfl rfl (VO.nil (VQ.then_code (VC.seq (VC.seq ?_)))))))
 refine VC.region (VO.mv (Rn.move rfl) rfl rfl rfl (VO.mv (Rn.len Tryz.underlying49 rfl) rfl rfl rfl (VO.mv (Rn.move rfl) rfl rfl rfl (VO.mv (Rn.nilCheck rfl) rfl rfl rfl (VO.mv (Rn.field Tryz.underlying121 rfl Tryz.sizeOf93 rfl rfl rfl) rfl rfl rfl (VO.mv (Rn.field Tryz.underlying93 rfl Tryz.sizeOf3 rfl rfl rfl) rfl rfl rfl (VO.mv (Rn.load Tryz.isAgg3 rfl (bk.cell rfl)) rfl rfl rfl ?_)))))))
 refine VO.mv (Rn.neq rfl rfl) rfl rfl rfl (VO.nil (VQ.then_code (VC.cond_if rfl (fun hc1 => ?_) (fun hc1 => ?_))))
 ·
  omega
 ·
  refine VC.skip (VQ.then_code (VC.seq (VC.region (VO.mv (Rn.move rfl) rfl rfl rfl (VO.mv (Rn.nilCheck rfl) rfl rfl rfl (VO.mv (Rn.field Tryz.underlying121 rfl Tryz.sizeOf49 rfl rfl rfl) rfl rfl rfl (VO.mv (Rn.load Tryz.isAgg49 rfl (bk.cell rfl)) rfl rfl rfl ?_)))))))
  refine VO.wk0 (Wk.clearC Tryz.underlying49 inf50w44 rfl row (by omega)) rfl rfl ?_
  rintro _ w1 ⟨row1, c1, z1⟩
  have yr1 := Ow.lt row1
  have z1 := c1.size
  refine VO.nil (VQ.then_code (VC.seq (VC.draws 12 [(0, true), (1, true), (2, true), (3, true), (4, true), (5, true), (6, true), (7, true), (8, true), (9, true), (10, true), (11, false)] (fun w1 w' => Ch (At r) w1 w') mixed (by kernel_rfl) (fun _ _ => Ch.refl _ _) ?_)))
  intro w2 D2
  have c2 := Ch.of_drew D2; have z2 := c2.size
  have bk_1 := bk.to c1 (by first | exact id | omega)
  have bk_2 := bk_1.keep c2
  have row_2 := row1.keep c2
  have sx_1 := sx.to c1 (fun _ _ h2 _ h3 => hX _ h2 (by first | exact .inr h3 | exact .inl h3 | exact h3))
  have sx_2 := sx_1.keep c2
  refine VH.mv (fun w' hS => Rn.move rfl) rfl rfl rfl rfl (VH.mv (fun w' hS => Rn.nilCheck rfl) rfl rfl rfl rfl (VH.mv (fun w' hS => Rn.field Tryz.underlying121 rfl Tryz.sizeOf49 rfl rfl rfl) rfl rfl rfl rfl (VH.mv (fun w' hS => Rn.load Tryz.isAgg49 rfl ((bk_2.to hS (by first | exact id | omega)).cell rfl)) rfl rfl rfl rfl (VH.mv (fun w' hS => Rn.move rfl) rfl rfl rfl rfl (VH.mv (fun w' hS => Rn.nilCheck rfl) rfl rfl rfl rfl (VH.mv (fun w' hS => Rn.field Tryz.underlying121 rfl Tryz.sizeOf93 rfl rfl rfl) rfl rfl rfl rfl (VH.mv (fun w' hS => Rn.field Tryz.underlying93 rfl Tryz.sizeOf3 rfl rfl rfl) rfl rfl rfl rfl ?_)))))))
  refine VH.mv (fun w' hS => Rn.load Tryz.isAgg3 rfl ((bk_2.to hS (by first | exact id | omega)).cell rfl)) rfl rfl rfl rfl (VH.mv (fun w' hS => Rn.sliceLo Tryz.underlying49 Tryz.sizeOf50 rfl rfl (by omega) (by omega) (by omega)) rfl rfl rfl rfl (VH.mv (fun w' hS => Rn.move rfl) rfl rfl rfl rfl (VH.wk (Wk.copyC Tryz.underlying49 inf50w44 rfl rfl row_2 sx_2 (by omega) (by omega)) rfl rfl rfl rfl ?_)))
  rintro _ w3 ⟨rfl, row3, c3, z3⟩
  have yr3 := Ow.lt row3
  have z3 := c3.size
  have RD_3 : Ch (At r) w2 w3 := (Ch.refl (At r) w2).then c3 (by intro q h1 h2; rcases h2 with h2 | h2 <;> first | exact h2 | (exfalso; omega) | omega)
  refine ⟨RD_3, ?_⟩
  refine VH.done (VO.nil (VQ.noPanic (VQ.then_code (VC.seq (VC.region (VO.mv (Rn.move rfl) rfl rfl rfl (VO.mv (Rn.move rfl) rfl rfl rfl ?_)))))))
  refine VO.mv (Rn.move rfl) rfl rfl rfl (VO.mv (Rn.nilCheck rfl) rfl rfl rfl (VO.mv (Rn.field Tryz.underlying121 rfl Tryz.sizeOf3 rfl rfl rfl) rfl rfl rfl ?_))
  have bk_3 := bk_2.to c3 (by first | exact id | omega)
  refine VO.wk0 (Wk.put Tryz.sizeOf3 rfl rfl rfl rfl bk_3 rfl) rfl rfl ?_
  intro _ w4 Z4
  have c4 := Z4.ch; have z4 := Z4.size
  have bk_4 := Bk.put Z4
  refine VO.mv (Rn.nilCheck rfl) rfl rfl rfl (VO.mv (Rn.field Tryz.underlying121 rfl Tryz.sizeOf3 rfl rfl rfl) rfl rfl rfl (VO.wk0 (Wk.put Tryz.sizeOf3 rfl rfl rfl rfl bk_4 rfl) rfl rfl ?_))
  intro _ w5 Z5
  have c5 := Z5.ch; have z5 := Z5.size
  have bk_5 := Bk.put Z5
  refine VO.mv (Rn.nilCheck rfl) rfl rfl rfl (VO.mv (Rn.field Tryz.underlying121 rfl Tryz.sizeOf3 rfl rfl rfl) rfl rfl rfl (VO.wk0 (Wk.put Tryz.sizeOf3 rfl rfl rfl rfl bk_5 rfl) rfl rfl ?_))
  intro _ w6 Z6
  have c6 := Z6.ch; have z6 := Z6.size
  have bk_6 := Bk.put Z6
  refine VO.nil (VQ.then_code (VC.seq (VC.region (VO.mv (Rn.assign rfl) rfl rfl rfl (VO.nil (VQ.then_code (VC.ret ?_)))))))
  refine VQ.ret1 rfl rfl (Ret.mk ?_)
  have row_4 := row3.to c4 (by first | exact fun _ _ _ _ => id | (intro q h1 h2 hx h3; omega))
  have row_5 := row_4.to c5 (by first | exact fun _ _ _ _ => id | (intro q h1 h2 hx h3; omega))
  have row_6 := row_5.to c6 (by first | exact fun _ _ _ _ => id | (intro q h1 h2 hx h3; omega))
  have CH_1 : Ch (MS m r) w w1 := (Ch.refl (MS m r) w).then c1 (by intro q h1 h2; rcases h2 with h2 | h2 <;> first | exact h2 | (exfalso; omega) | omega)
  have CH_2 := CH_1.and c2
  have CH_3 : Ch (MS m r) w w3 := CH_2.then c3 (by intro q h1 h2; rcases h2 with h2 | h2 <;> first | exact h2 | (exfalso; omega) | omega)
  have CH_4 : Ch (MS m r) w w4 := CH_3.then c4 (by intro q h1 h2; rcases h2 with h2 | h2 <;> first | exact h2 | (exfalso; omega) | omega)
  have CH_5 : Ch (MS m r) w w5 := CH_4.then c5 (by intro q h1 h2; rcases h2 with h2 | h2 <;> first | exact h2 | (exfalso; omega) | omega)
  have CH_6 : Ch (MS m r) w w6 := CH_5.then c6 (by intro q h1 h2; rcases h2 with h2 | h2 <;> first | exact h2 | (exfalso; omega) | omega)
  exact ⟨rfl, ⟨bk_6, row_6, ne⟩, CH_6⟩
set_option maxHeartbeats 1000000 in
set_option maxRecDepth 100000 in
theorem m_Out (m r : Nat) (b : Bld) (N : Nat) (SA : Option Addr) (sc : Nat) (bs : ByteArray) (CA : Option Addr) (ac st at_ : Int) (xs : List CB) (w : World) (mr : MacR w m r b N SA sc bs CA ac ac st at_ xs) (ok : PrgOk b N) (hac : 0 ≤ ac ∧ ac ≤ 1000000000) :
  Calls Tryz.prog 57 #[.pointer (some ⟨m, 0, none⟩)] w (Ret (fun v w' => ∃ r' A' c', v = .tuple #[.slice A' b.ln.toNat c', .nilIface] ∧ CR 50 w' r' A' b.ln.toNat c' ((xs.drop b.ou.toNat).take b.ln.toNat) ∧ w.heap.size < r' ∧ Ch No w w')) := by
 obtain ⟨bk, row, ne⟩ := id mr
 have yr := Ow.lt row; have ym := bk.lt
 have hln := ok.ln; have hn1 := ok.n1; have hi0 := ok.i0; have hou := ok.ou; have hcl := ok.cl
 refine calls_of_VC (args := [.pointer (some ⟨m, 0, none⟩)]) Tryz.func57 rfl Tryz.ntmps57 rfl (VC.seq (VC.region (VO.mv (Rn.assign rfl) rfl rfl rfl (VO.mv (Rn.assign rfl) rfl rfl rfl (VO.nil (VQ.then_code (VC.seq ?_)))))))
 refine VC.seq (VC.region (VO.mv (Rn.move rfl) rfl rfl rfl (VO.wk (Wk.call Tryz.call55 rfl (m_Left _ _ _ _ _ _ _ _ _ _ _ _ bk (by omega) (by omega))) rfl rfl rfl ?_)))
 rintro _ w1 ⟨rfl, c1⟩
 have z1 := c1.size
 refine VO.mv (Rn.gtr rfl rfl) rfl rfl rfl (VO.nil (VQ.then_code (VC.cond_if rfl (fun hc1 => ?_) (fun hc1 => ?_))))
 ·
  omega
 ·
  refine VC.skip (VQ.then_code (VC.seq (VC.region (VO.mv (Rn.move rfl) rfl rfl rfl (VO.mv (Rn.nilCheck rfl) rfl rfl rfl (VO.mv (Rn.field Tryz.underlying121 rfl Tryz.sizeOf93 rfl rfl rfl) rfl rfl rfl (VO.mv (Rn.field Tryz.underlying93 rfl Tryz.sizeOf3 rfl rfl rfl) rfl rfl rfl ?_)))))))
  have bk_1 := bk.keep c1
  refine VO.mv (Rn.load Tryz.isAgg3 rfl (bk_1.cell rfl)) rfl rfl rfl (VO.mv (Rn.assign rfl) rfl rfl rfl (VO.nil (VQ.then_code (VC.seq (VC.draws 15 [(0, true), (1, true), (2, true), (3, true), (4, true), (5, true), (6, true), (7, true), (8, true), (9, true), (10, true), (11, true), (12, true), (13, false), (14, true)] (fun w1 w' => Ch (At 0) w1 w') mixed (by kernel_rfl) (fun _ _ => Ch.refl _ _) ?_)))))
  intro w2 D2
  have c2 := Ch.of_drew D2; have z2 := c2.size
  have bk_2 := bk_1.keep c2
  have row_2 := row.keep (c1.trans c2)
  refine VH.mv (fun w' hS => Rn.move rfl) rfl rfl rfl rfl (VH.mv (fun w' hS => Rn.nilCheck rfl) rfl rfl rfl rfl (VH.mv (fun w' hS => Rn.field Tryz.underlying121 rfl Tryz.sizeOf49 rfl rfl rfl) rfl rfl rfl rfl (VH.mv (fun w' hS => Rn.load Tryz.isAgg49 rfl ((bk_2.to hS (by first | exact id | omega)).cell rfl)) rfl rfl rfl rfl (VH.mv (fun w' hS => Rn.move rfl) rfl rfl rfl rfl (VH.mv (fun w' hS => Rn.move rfl) rfl rfl rfl rfl (VH.mv (fun w' hS => Rn.move rfl) rfl rfl rfl rfl (VH.mv (fun w' hS => Rn.nilCheck rfl) rfl rfl rfl rfl ?_)))))))
  refine VH.mv (fun w' hS => Rn.field Tryz.underlying121 rfl Tryz.sizeOf93 rfl rfl rfl) rfl rfl rfl rfl (VH.mv (fun w' hS => Rn.field Tryz.underlying93 rfl Tryz.sizeOf3 rfl rfl rfl) rfl rfl rfl rfl (VH.mv (fun w' hS => Rn.load Tryz.isAgg3 rfl ((bk_2.to hS (by first | exact id | omega)).cell rfl)) rfl rfl rfl rfl ?_))
  refine VH.mv (fun w' hS => Rn.add rfl rfl (by rw [IntKind.wrap_i64]; omega)) rfl rfl rfl rfl ?_
  refine VH.mv (fun w' hS => Rn.sliceLH Tryz.underlying49 Tryz.sizeOf50 rfl rfl rfl (by omega) (by omega) (by omega)) rfl rfl rfl rfl ?_
  refine VH.wk (Wk.append (S := At r) Tryz.underlying49 inf50w44 rfl (by decide) rfl rfl (Ow.nil _ _ _) (CR.sub row_2 (i := b.ou.toNat) (j := (b.ou + b.ln).toNat) (by omega) (by omega) (Nat.le_refl _)) (cx_one _) (fun h => absurd h (by omega)) (by omega) (by simp only [maxLen]; omega)) rfl rfl rfl rfl ?_
  rintro _ w3 ⟨r3, A3, k3, rfl, ou3, c3, q3⟩
  have z3 := c3.size
  have RD_3 : Ch (At 0) w2 w3 := (Ch.refl (At 0) w2).then c3 (by intro q h1 h2; rcases h2 with h2 | h2 <;> first | exact h2 | (exfalso; omega) | omega)
  refine ⟨RD_3, ?_⟩
  refine VH.mv (fun w' hS => Rn.assign rfl) rfl rfl rfl rfl (VH.done (VO.mv (Rn.assign rfl) rfl rfl rfl (VO.nil (VQ.noPanic (VQ.then_code (VC.ret (VQ.ret2 rfl rfl rfl ?_)))))))
  refine Ret.mk ?_
  have hl : 0 + ((b.ou + b.ln).toNat - b.ou.toNat) = b.ln.toNat := by omega
  have ou9 := ou3; rw [hl, List.nil_append, show (b.ou + b.ln).toNat - b.ou.toNat = b.ln.toNat by omega] at ou9
  have yo := Ow.r_pos ou9 (by omega)
  have CH_2 := (Ch.refl (No) w).and (c1.trans c2)
  have CH_3 : Ch (No) w w3 := CH_2.then c3 (by intro q h1 h2; rcases h2 with h2 | h2 <;> first | exact h2 | (exfalso; omega) | omega)
  exact ⟨_, _, _, by rw [hl], ou9, by omega, CH_3⟩
end Go.Tm
namespace Go.Tm
open Go.RowKit Go.Proofs
def Upto (f : Cx → Cx) (ys zs : List CB) (j : Nat) : Prop := ∀ i, i < j → cx (zs.getD i (0, 0)) = f (cx (ys.getD i (0, 0)))
theorem set_getD {zs : List CB} {i j : Nat} {z d : CB} (hj : j < zs.length) : (zs.set j z).getD i d = if i = j then z else zs.getD i d := by
  simp only [List.getD, List.getElem?_set]
  by_cases h : j = i
  · subst h; simp [hj]
  · have : ¬ i = j := fun e => h e.symm
    simp [h, this]
theorem Upto.zero (f : Cx → Cx) (ys zs : List CB) : Upto f ys zs 0 := fun i h => absurd h (Nat.not_lt_zero i)
theorem Upto.step {f : Cx → Cx} {ys zs : List CB} {j : Nat} {z : CB} (h : Upto f ys zs j) (hj : j < zs.length) (hz : cx z = f (cx (ys.getD j (0, 0)))) : Upto f ys (zs.set j z) (j + 1) := by
  intro i hi
  rw [set_getD hj]
  by_cases e : i = j
  · subst e; rw [if_pos rfl]; exact hz
  · rw [if_neg e]; exact h i (by omega)
theorem Upto.all {f : Cx → Cx} {ys zs : List CB} {n : Nat} (h : Upto f ys zs n) (h1 : ys.length = n) (h2 : zs.length = n) : zs.map cx = (ys.map cx).map f := by
  apply List.ext_getElem
  · simp [h1, h2]
  · intro i hi hi2
    simp only [List.length_map] at hi
    have := h i (by omega)
    simp only [List.getD, List.getElem?_eq_getElem hi, List.getElem?_eq_getElem (show i < ys.length by omega), Option.getD_some] at this
    simpa using this
def loadC (N off : Nat) (zs : List Cx) : List Cx := (List.replicate N z0).take off ++ zs ++ (List.replicate N z0).drop (off + zs.length)
theorem load_map (N off n : Nat) (ys : List CB) (h : ys.length = n) : ((List.replicate N (0, 0)).take off ++ ys ++ (List.replicate N (0, 0)).drop (off + n)).map cx = loadC N off (ys.map cx) := by
  subst h
  simp [loadC, z0]
def fwdC (b : Bld) (zs : List Cx) : List Cx := ((runC b.steps (loadC b.cl.toNat b.i0.toNat zs)).drop b.ou.toNat).take b.ln.toNat
def invC (b : Bld) (zs : List Cx) : List Cx := ((fwdC b (zs.map conjC)).map conjC).map fun z => overC z b.ln
set_option maxRecDepth 100000 in
theorem inf50w45 : Inf Tryz.prog 50 (.complex .f64 0 0) 1 16 := ⟨Tryz.t50, Tryz.type50, rfl, rfl, rfl⟩
set_option maxRecDepth 100000 in
theorem inf119w45 : Inf Tryz.prog 119 (.agg #[.int .i64 0, .int .i64 0, .int .i64 0, .int .i64 0, .int .i64 0, .int .i64 0, .int .i64 0]) 7 56 := ⟨Tryz.t119, Tryz.type119, rfl, rfl, rfl⟩
theorem bld98_0_1_2w45 {v0 v1 v2 : Value} (h : [v0, v1, v2].all Value.oneCell' = true) (w : World) : (Instr.build 98 ([(0, v0), (1, v1), (2, v2)] : List (Nat × Value)).toArray).run Tryz.prog w = .ok (.agg #[v0, v1, v2]) w := by
  simp only [List.all_cons, Bool.and_eq_true, List.all_nil, and_true] at h
  have hv0 := oneCell_cells (v := v0) (by simp_all)
  have hv1 := oneCell_cells (v := v1) (by simp_all)
  have hv2 := oneCell_cells (v := v2) (by simp_all)
  have h1 := fill_set (fun i => ([(0, 1), (1, 1), (2, 1)] : List (Nat × Nat))[i]?) [(0, v0), (1, v1), (2, v2)] [.pointer none, .bool false, .pointer none] (by simp [okF, agg_cells, hv0, hv1, hv2, Nat.beq, Nat.ble])
  simp [setF, agg_cells, hv0, hv1, hv2] at h1
  simp [Instr.build, Tryz.runUnderlying98, Tryz.zeroValue98, Tryz.sizeOf4, Tryz.sizeOf46, Tryz.sizeOf88, agg_cells, h1]
set_option maxRecDepth 100000 in
theorem p_Length (lo hi p : Nat) (P : Pln) (w : World) (pl : PlnR lo hi w p P) (hh : hi ≤ w.heap.size)  :
  Calls Tryz.prog 50 #[.pointer (some ⟨p, 0, none⟩)] w (Ret (fun v w' => v = .int .i64 P.b.ln ∧ w = w')) := by
 obtain ⟨oA, oC, sA, sC, bp, pk, ps⟩ := id pl.ex; have hpa := pl.at_
 refine calls_of_VC (args := [.pointer (some ⟨p, 0, none⟩)]) Tryz.func50 rfl Tryz.ntmps50 rfl (VC.seq (VC.region (VO.mv (Rn.assign rfl) rfl rfl rfl (VO.nil (VQ.then_code (VC.seq (VC.region ?_)))))))
 refine VO.mv (Rn.move rfl) rfl rfl rfl (VO.mv (Rn.nilCheck rfl) rfl rfl rfl (VO.mv (Rn.field Tryz.underlying113 rfl Tryz.sizeOf93 rfl rfl rfl) rfl rfl rfl (VO.mv (Rn.field Tryz.underlying93 rfl Tryz.sizeOf3 rfl rfl rfl) rfl rfl rfl (VO.mv (Rn.load Tryz.isAgg3 rfl (bp.cell rfl)) rfl rfl rfl (VO.mv (Rn.assign rfl) rfl rfl rfl (VO.nil (VQ.then_code ?_)))))))
 refine VC.ret (VQ.ret1 rfl rfl (Ret.mk ?_))
 exact ⟨rfl, rfl⟩
set_option maxRecDepth 100000 in
theorem p_Program (lo hi p : Nat) (P : Pln) (w : World) (pl : PlnR lo hi w p P) (hh : hi ≤ w.heap.size) (hne : 1 ≤ P.b.steps.length) (hlen : P.b.steps.length ≤ 65536) :
  Calls Tryz.prog 52 #[.pointer (some ⟨p, 0, none⟩)] w (Ret (fun v w' => ∃ rs A c, v = .agg #[.int .i64 P.b.ln, .int .i64 P.b.cl, .int .i64 P.b.i0, .int .i64 P.b.ou, .slice A P.b.steps.length c] ∧ SlR (At rs) w' A P.b.steps.length 7 (flatS P.b.steps) ∧ w.heap.size < rs ∧ rs ≤ w'.heap.size ∧ Ch No w w')) := by
 obtain ⟨oA, oC, sA, sC, bp, pk, ps⟩ := id pl.ex; have hpa := pl.at_
 refine calls_of_VC (args := [.pointer (some ⟨p, 0, none⟩)]) Tryz.func52 rfl Tryz.ntmps52 rfl (VC.seq (VC.region (VO.wk (Wk.alloc Tryz.zeroValue93) rfl rfl rfl ?_)))
 rintro _ w1 ⟨p1, rfl, N1⟩
 have c1 := N1.ch
 have e1 := N1.p; have z1 := N1.size
 have b2 := Bk.new N1
 refine VO.nil (VQ.then_code (VC.seq (VC.region (VO.mv (Rn.move rfl) rfl rfl rfl (VO.mv (Rn.nilCheck rfl) rfl rfl rfl (VO.mv (Rn.field Tryz.underlying113 rfl Tryz.sizeOf93 rfl rfl rfl) rfl rfl rfl ?_))))))
 have bp_1 := bp.keep c1
 refine VO.mv (Rn.loads Tryz.isAgg93 Tryz.sizeOf93 rfl rfl (bp_1.part 5 rfl)) rfl rfl rfl (VO.wk (Wk.alloc Tryz.zeroValue93) rfl rfl rfl ?_)
 rintro _ w2 ⟨p2, rfl, N2⟩
 have c2 := N2.ch
 have e2 := N2.p; have z2 := N2.size
 have b3 := Bk.new N2
 refine VO.wk0 (Wk.puts Tryz.sizeOf93 rfl rfl rfl rfl b3 (Nat.le_of_ble_eq_true rfl)) rfl rfl ?_
 intro _ w3 Z3
 have c3 := Z3.ch; have z3 := Z3.size
 have b3_3 := Bk.put Z3
 refine VO.nil (VQ.then_code (VC.seq (VC.region (VO.mv (Rn.field Tryz.underlying93 rfl Tryz.sizeOf91 rfl rfl rfl) rfl rfl rfl (VO.mv (Rn.load Tryz.isAgg91 rfl (b3_3.cell rfl)) rfl rfl rfl ?_)))))
 have cc_0_3 : Ch No w w3 := (Ch.then (E := No) (c1.and c2) c3 (by intro q h1 h2; rcases h2 with h2 | h2 <;> first | exact h2 | (exfalso; omega)))
 have ps_3 := ps.keep cc_0_3
 refine VO.wk (Wk.append (S := _) Tryz.underlying91 inf119w45 rfl (by decide) rfl rfl (Ow.nil _ _ _) ps_3 (flatS_one _) (fun h => absurd h (by omega)) (by omega) (by simp only [maxLen]; omega)) rfl rfl rfl ?_
 rintro _ w4 ⟨r4, A4, k4, rfl, o4, c4, q4⟩
 have z4 := c4.size
 have y4 := o4.lt
 refine VO.mv (Rn.field Tryz.underlying93 rfl Tryz.sizeOf91 rfl rfl rfl) rfl rfl rfl ?_
 have b3_4 := b3_3.to c4 (by first | exact id | omega)
 refine VO.wk0 (Wk.put Tryz.sizeOf91 rfl rfl rfl rfl b3_4 rfl) rfl rfl ?_
 intro _ w5 Z5
 have c5 := Z5.ch; have z5 := Z5.size
 have b3_5 := Bk.put Z5
 refine VO.nil (VQ.then_code (VC.seq (VC.region (VO.mv (Rn.loads Tryz.isAgg93 Tryz.sizeOf93 rfl rfl (b3_5.all' rfl)) rfl rfl rfl ?_))))
 have cc_1_3 : Ch No w1 w3 := (Ch.then (E := No) c2 c3 (by intro q h1 h2; rcases h2 with h2 | h2 <;> first | exact h2 | (exfalso; omega)))
 have b2_3 := b2.keep cc_1_3
 have b2_4 := b2_3.to c4 (by first | exact id | omega)
 have b2_5 := b2_4.to c5 (by first | exact id | omega)
 refine VO.wk0 (Wk.puts Tryz.sizeOf93 rfl rfl rfl rfl b2_5 (Nat.le_of_ble_eq_true rfl)) rfl rfl ?_
 intro _ w6 Z6
 have c6 := Z6.ch; have z6 := Z6.size
 have b2_6 := Bk.put Z6
 refine VO.nil (VQ.then_code (VC.ret (VQ.retc rfl rfl Tryz.isAgg93 Tryz.sizeOf93 rfl (b2_6.all' rfl) (Ret.mk ?_))))
 have rs_5 := o4.to c5 (by first | exact fun _ _ _ _ => id | (intro q h1 h2 hx h3; omega))
 have rs_6 := rs_5.to c6 (by first | exact fun _ _ _ _ => id | (intro q h1 h2 hx h3; omega))
 have rs9 := rs_6; rw [Nat.zero_add, List.nil_append] at rs9
 have yrs := Ow.r_pos rs9 (by omega); have yr2 := rs9.lt
 have CH_3 := (Ch.refl (No) w).and cc_0_3
 have CH_4 : Ch (No) w w4 := CH_3.then c4 (by intro q h1 h2; rcases h2 with h2 | h2 <;> first | exact h2 | (exfalso; omega) | omega)
 have CH_5 : Ch (No) w w5 := CH_4.then c5 (by intro q h1 h2; rcases h2 with h2 | h2 <;> first | exact h2 | (exfalso; omega) | omega)
 have CH_6 : Ch (No) w w6 := CH_5.then c6 (by intro q h1 h2; rcases h2 with h2 | h2 <;> first | exact h2 | (exfalso; omega) | omega)
 exact ⟨_, _, _, congrArg (fun l => Value.agg #[.int .i64 P.b.ln, .int .i64 P.b.cl, .int .i64 P.b.i0, .int .i64 P.b.ou, .slice A4 l k4]) (Nat.zero_add P.b.steps.length), rs9.sl, by omega, by omega, CH_6⟩
set_option maxRecDepth 100000 in
theorem p_conj (SX : Nat → Prop) (X : Option Addr) (n xc : Nat) (ys : List CB) (w : World) (sx : SlR SX w X n 1 (ys.map cxV)) (hX : ∀ q, SX q → q < w.heap.size) (hn : n ≤ 16384)  :
  Calls Tryz.prog 53 #[.slice X n xc] w (Ret (fun v w' => ∃ q zs, v = .slice (some ⟨q, 0, none⟩) n n ∧ CR 50 w' (q + 1) (some ⟨q, 0, none⟩) n n zs ∧ zs.map cx = (ys.map cx).map conjC ∧ w.heap.size ≤ q ∧ Ch No w w')) := by
 have hyl : ys.length = n := by have := sx.len; simpa using this
 refine calls_of_VC (args := [.slice X n xc]) Tryz.func53 rfl Tryz.ntmps53 rfl (VC.seq (VC.region (VO.mv (Rn.assign rfl) rfl rfl rfl (VO.nil (VQ.then_code (VC.seq (VC.region ?_)))))))
 refine VO.mv (Rn.move rfl) rfl rfl rfl (VO.mv (Rn.len Tryz.underlying49 rfl) rfl rfl rfl (VO.wk (Wk.mkC Tryz.underlying49 inf50w45 rfl rfl (by omega) (by omega) (by omega)) rfl rfl rfl ?_))
 rintro _ w1 ⟨p1, rfl, o1, c1, e1, z1⟩
 refine VO.mv (Rn.assign rfl) rfl rfl rfl (VO.nil (VQ.then_code (VC.seq (VC.seq (VC.region (VO.mv (Rn.move rfl) rfl rfl rfl (VO.mv (Rn.len Tryz.underlying49 rfl) rfl rfl rfl ?_)))))))
 refine VO.mv (Rn.move rfl) rfl rfl rfl (VO.nil (VQ.then_code (VC.block ?_)))
 have sx_1 := sx.keep c1
 have CH_1 := (Ch.refl (No) w).and c1
 refine VC.loopS (σ := Nat × List CB) (fun (j, zs) => [(3, .slice (some ⟨p1, 0, none⟩) n n), (9, .slice X n xc), (10, .int .i64 n), (11, .int .i64 j)]) (fun (j, zs) w' => j ≤ n ∧ Upto conjC ys zs j ∧ w1.heap.size ≤ w'.heap.size ∧ CR 50 w' (p1 + 1) (some ⟨p1, 0, none⟩) n n zs ∧ SlR SX w' X n 1 (ys.map cxV) ∧ Ch (No) w w') (fun (j, zs) => n - j) (0, List.replicate n (0, 0)) ?_ ⟨rfl, rfl, rfl, rfl, trivial⟩ ?_
 · exact ⟨(by omega), (Upto.zero _ _ _), (Nat.le_refl _), o1, sx_1, CH_1⟩
 rintro ⟨j, zs⟩ w2 ⟨hj, hu, hsz2, row_2, sx_2, CH_2⟩
 show VC _ _ _ _ [(3, .slice (some ⟨p1, 0, none⟩) n n), (9, .slice X n xc), (10, .int .i64 n), (11, .int .i64 j)] _
 have hzl := CR.len row_2
 refine VC.seq (VC.region (VO.mv (Rn.lss rfl rfl) rfl rfl rfl (VO.nil (VQ.then_code (VC.seq (VC.cond_if rfl (fun hc1 => ?_) (fun hc1 => ?_)))))))
 ·
  refine VC.skip (VQ.then_code (VC.seq (VC.block (VC.seq (VC.region (VO.mv (Rn.move rfl) rfl rfl rfl (VO.mv (Rn.indexS Tryz.underlying49 Tryz.sizeOf50 rfl rfl (sx_2.ne (by omega)) (by omega) (by omega)) rfl rfl rfl ?_)))))))
  refine VO.mv (Rn.load Tryz.isAgg50 rfl (sx_2.getC (by omega) (by omega))) rfl rfl rfl (VO.mv (Rn.assign rfl) rfl rfl rfl (VO.mv (Rn.assign rfl) rfl rfl rfl (VO.nil (VQ.then_code (VC.region (VO.mv (Rn.move rfl) rfl rfl rfl (VO.mv (Rn.move rfl) rfl rfl rfl ?_)))))))
  refine VO.mv (Rn.move rfl) rfl rfl rfl (VO.wk (Wk.call Tryz.call67 rfl (cplx_Conj _ _ _)) rfl rfl rfl ?_)
  rintro _ w3 ⟨p3, q3, rfl, F3, c3⟩
  have z3 := c3.size
  have row_3 := row_2.keep c3
  refine VO.mv (Rn.indexS Tryz.underlying49 Tryz.sizeOf50 rfl rfl (row_3.sl.ne (by omega)) (by omega) (by omega)) rfl rfl rfl (VO.wk0 (Wk.putC Tryz.sizeOf50 rfl rfl (by omega) row_3) rfl rfl ?_)
  rintro _ w4 ⟨o4, c4, z4⟩
  have y4 := o4.lt
  refine VO.nil (VQ.block_normal (VQ.then_code (VC.region ?_)))
  refine VO.mv (Rn.add rfl rfl (by rw [IntKind.wrap_i64]; omega)) rfl rfl rfl ?_
  refine VO.mv (Rn.move rfl) rfl rfl rfl (VO.nil ?_)
  refine VQ.round (j + 1, zs.set j (p3, q3)) (by first | omega | (dsimp only; omega)) ?_ ⟨rfl, rfl, rfl, rfl, trivial⟩
  have sx_3 := sx_2.keep c3
  have sx_4 := sx_3.to c4 (by first | exact fun _ _ _ _ => id | (intro q h1 h2 hx h3; have := hX q h2; omega))
  have CH_3 := CH_2.and c3
  have CH_4 : Ch (No) w w4 := CH_3.then c4 (by intro q h1 h2; rcases h2 with h2 | h2 <;> first | exact h2 | (exfalso; omega) | omega)
  exact ⟨(by omega), (hu.step (by omega) (by rw [F3, Int.toNat_natCast])), (by omega), o4, sx_4, CH_4⟩
 ·
  refine VC.exit (VQ.then_exit (VQ.then_exit (VQ.block_exit (VQ.then_code (VC.seq (VC.region (VO.mv (Rn.move rfl) rfl rfl rfl ?_)))))))
  refine VO.mv (Rn.assign rfl) rfl rfl rfl (VO.nil (VQ.then_code (VC.ret (VQ.ret1 rfl rfl (Ret.mk ?_)))))
  have e : j = n := by omega
  rw [e] at hu
  exact ⟨_, _, rfl, row_2, hu.all hyl hzl, by omega, CH_2⟩
set_option maxHeartbeats 1000000 in
set_option maxRecDepth 100000 in
theorem p_Begin0 (lo hi p : Nat) (P : Pln) (SX : Nat → Prop) (X : Option Addr) (n xc : Nat) (ys : List CB) (w : World) (sx : SlR SX w X n 1 (ys.map cxV)) (hX : ∀ q, SX q → q < w.heap.size) (pl : PlnR lo hi w p P) (hh : hi ≤ w.heap.size) (N : Nat) (ok : PrgOk P.b N) (okb : okB P.b) (hne : 1 ≤ P.b.steps.length) (hn : (n : Int) = P.b.ln) (st : StT w) (hG : 24 ≤ w.heap.size)  :
  Calls Tryz.prog 40 #[.pointer (some ⟨p, 0, none⟩), .slice X n xc, .bool false] w (Ret (fun v w' => ∃ q m r rs SA sc CA xs, v = .tuple #[.pointer (some ⟨q, 0, none⟩), .nilIface] ∧ Bk w' q #[.pointer (some ⟨p, 0, none⟩), .bool false, .pointer (some ⟨m, 0, none⟩)] 98 ∧ MacR w' m r P.b N SA sc ⟨(encB P.b).toArray⟩ CA (cntS P.b.steps) 0 0 0 xs ∧ xs.map cx = loadC N P.b.i0.toNat (ys.map cx) ∧ SlR (At rs) w' SA P.b.steps.length 7 (flatS P.b.steps) ∧ (w.heap.size ≤ q ∧ w.heap.size ≤ m ∧ w.heap.size < r ∧ w.heap.size < rs ∧ ¬ rs = r ∧ ¬ rs = m + 1 ∧ ¬ q = m ∧ ¬ r = q + 1) ∧ Ch No w w')) := by
 have hln := ok.ln; have hn1 := ok.n1; have hcl := ok.cl; have hlen := ok.len
 have hyl : ys.length = n := by have := sx.len; simpa using this
 refine calls_of_VC (args := [.pointer (some ⟨p, 0, none⟩), .slice X n xc, .bool false]) Tryz.func40 rfl Tryz.ntmps40 rfl (VC.seq (VC.region (VO.mv (Rn.assign rfl) rfl rfl rfl (VO.mv (Rn.assign rfl) rfl rfl rfl (VO.nil (VQ.then_code (VC.seq ?_)))))))
 refine VC.seq (VC.region (VO.mv (Rn.move rfl) rfl rfl rfl (VO.mv (Rn.len Tryz.underlying49 rfl) rfl rfl rfl (VO.mv (Rn.move rfl) rfl rfl rfl (VO.wk (Wk.call Tryz.call50 rfl (p_Length _ _ _ _ _ pl (by omega))) rfl rfl rfl ?_)))))
 rintro _ _ ⟨rfl, rfl⟩
 refine VO.mv (Rn.neq rfl rfl) rfl rfl rfl (VO.nil (VQ.then_code (VC.cond_if rfl (fun hc1 => ?_) (fun hc1 => ?_))))
 ·
  omega
 ·
  refine VC.skip (VQ.then_code (VC.seq (VC.region (VO.mv (Rn.move rfl) rfl rfl rfl (VO.wk (Wk.call Tryz.call52 rfl (p_Program _ _ _ _ _ pl (by omega) hne hlen)) rfl rfl rfl ?_)))))
  rintro _ w1 ⟨r1, A1, k1, rfl, pg1, yr1, yr21, c1⟩
  have z1 := c1.size
  have st_1 := st.keep c1
  refine VO.wk (Wk.call Tryz.call51 rfl (m_New _ _ ok _ _ _ _ st_1 pg1 (by omega) okb (fun y hy => by omega) hne)) rfl rfl rfl ?_
  rintro _ w2 ⟨m2, r2, rs2, sA2, sc2, cA2, rfl, mac2, ss2, hb2, c2⟩
  have ym2 := mac2.bk.lt; have yr2 := Ow.lt mac2.row
  have z2 := c2.size
  refine VO.mv (Rn.move rfl) rfl rfl rfl (VO.mv (Rn.extract rfl rfl) rfl rfl rfl (VO.mv (Rn.extract rfl rfl) rfl rfl rfl (VO.mv (Rn.assign rfl) rfl rfl rfl (VO.mv (Rn.assign rfl) rfl rfl rfl (VO.nil (VQ.then_code (VC.seq ?_)))))))
  refine VC.seq (VC.region (VO.mv (Rn.move rfl) rfl rfl rfl (VO.mv (Rn.nil_neq_nil Tryz.underlying29 rfl) rfl rfl rfl (VO.nil (VQ.then_code (VC.cond_false rfl (VC.skip ?_)))))))
  refine VQ.then_code (VC.seq (VC.seq (VC.region (VO.mv (Rn.move rfl) rfl rfl rfl (VO.nil (VQ.then_code (VC.cond_false rfl ?_)))))))
  refine VC.skip (VQ.then_code (VC.seq (VC.seq (VC.region (VO.mv (Rn.move rfl) rfl rfl rfl (VO.mv (Rn.move rfl) rfl rfl rfl ?_))))))
  have sx_2 := sx.keep (c1.trans c2)
  refine VO.wk (Wk.call Tryz.call54 rfl (m_Load _ _ _ _ _ _ _ _ _ _ _ _ _ _ mac2 ok _ _ n _ _ hn sx_2 (fun q hq hm => by have := hX q hq; omega))) rfl rfl rfl ?_
  rintro _ w3 ⟨rfl, mac3, c3⟩
  have z3 := c3.size
  refine VO.mv (Rn.assign rfl) rfl rfl rfl (VO.nil (VQ.then_code (VC.seq (VC.region (VO.mv (Rn.move rfl) rfl rfl rfl (VO.mv (Rn.nil_neq_nil Tryz.underlying29 rfl) rfl rfl rfl (VO.nil ?_)))))))
  refine VQ.then_code (VC.cond_false rfl (VC.skip (VQ.then_code (VC.seq (VC.region (VO.mv (Rn.move rfl) rfl rfl rfl (VO.mv (Rn.move rfl) rfl rfl rfl ?_)))))))
  refine VO.mv (Rn.move rfl) rfl rfl rfl (VO.mv (Rn.build rfl (bld98_0_1_2w45 rfl)) rfl rfl rfl (VO.wk (Wk.box rfl) rfl rfl rfl ?_))
  rintro _ w4 ⟨p4, rfl, N4⟩
  have c4 := N4.ch
  have e4 := N4.p; have z4 := N4.size
  have b39 := Bk.new N4
  refine VO.mv (Rn.assign rfl) rfl rfl rfl (VO.mv (Rn.assign rfl) rfl rfl rfl (VO.nil (VQ.then_code (VC.ret (VQ.ret2 rfl rfl rfl (Ret.mk ?_))))))
  obtain ⟨hb1, hb2, hb3, hb4, hb5⟩ := hb2
  have mac_4 := mac3.keep c4
  have ss_3 := ss2.to c3 (by first | exact fun _ _ _ _ => id | (intro q h1 h2 hx h3; omega))
  have ss_4 := ss_3.keep c4
  have CH_2 := (Ch.refl (No) w).and (c1.trans c2)
  have CH_3 : Ch (No) w w3 := CH_2.then c3 (by intro q h1 h2; rcases h2 with h2 | h2 <;> first | exact h2 | (exfalso; omega) | omega)
  have CH_4 := CH_3.and c4
  exact ⟨_, _, _, _, _, _, _, _, rfl, b39, mac_4, load_map _ _ _ _ hyl, ss_4, ⟨by omega, by omega, by omega, by omega, by omega, by omega, by omega, by omega⟩, CH_4⟩
set_option maxHeartbeats 1000000 in
set_option maxRecDepth 100000 in
theorem p_Begin1 (lo hi p : Nat) (P : Pln) (SX : Nat → Prop) (X : Option Addr) (n xc : Nat) (ys : List CB) (w : World) (sx : SlR SX w X n 1 (ys.map cxV)) (hX : ∀ q, SX q → q < w.heap.size) (pl : PlnR lo hi w p P) (hh : hi ≤ w.heap.size) (N : Nat) (ok : PrgOk P.b N) (okb : okB P.b) (hne : 1 ≤ P.b.steps.length) (hn : (n : Int) = P.b.ln) (st : StT w) (hG : 24 ≤ w.heap.size)  :
  Calls Tryz.prog 40 #[.pointer (some ⟨p, 0, none⟩), .slice X n xc, .bool true] w (Ret (fun v w' => ∃ q m r rs SA sc CA xs, v = .tuple #[.pointer (some ⟨q, 0, none⟩), .nilIface] ∧ Bk w' q #[.pointer (some ⟨p, 0, none⟩), .bool true, .pointer (some ⟨m, 0, none⟩)] 98 ∧ MacR w' m r P.b N SA sc ⟨(encB P.b).toArray⟩ CA (cntS P.b.steps) 0 0 0 xs ∧ xs.map cx = loadC N P.b.i0.toNat ((ys.map cx).map conjC) ∧ SlR (At rs) w' SA P.b.steps.length 7 (flatS P.b.steps) ∧ (w.heap.size ≤ q ∧ w.heap.size ≤ m ∧ w.heap.size < r ∧ w.heap.size < rs ∧ ¬ rs = r ∧ ¬ rs = m + 1 ∧ ¬ q = m ∧ ¬ r = q + 1) ∧ Ch No w w')) := by
 have hln := ok.ln; have hn1 := ok.n1; have hcl := ok.cl; have hlen := ok.len
 have hyl : ys.length = n := by have := sx.len; simpa using this
 refine calls_of_VC (args := [.pointer (some ⟨p, 0, none⟩), .slice X n xc, .bool true]) Tryz.func40 rfl Tryz.ntmps40 rfl (VC.seq (VC.region (VO.mv (Rn.assign rfl) rfl rfl rfl (VO.mv (Rn.assign rfl) rfl rfl rfl (VO.nil (VQ.then_code (VC.seq ?_)))))))
 refine VC.seq (VC.region (VO.mv (Rn.move rfl) rfl rfl rfl (VO.mv (Rn.len Tryz.underlying49 rfl) rfl rfl rfl (VO.mv (Rn.move rfl) rfl rfl rfl (VO.wk (Wk.call Tryz.call50 rfl (p_Length _ _ _ _ _ pl (by omega))) rfl rfl rfl ?_)))))
 rintro _ _ ⟨rfl, rfl⟩
 refine VO.mv (Rn.neq rfl rfl) rfl rfl rfl (VO.nil (VQ.then_code (VC.cond_if rfl (fun hc1 => ?_) (fun hc1 => ?_))))
 ·
  omega
 ·
  refine VC.skip (VQ.then_code (VC.seq (VC.region (VO.mv (Rn.move rfl) rfl rfl rfl (VO.wk (Wk.call Tryz.call52 rfl (p_Program _ _ _ _ _ pl (by omega) hne hlen)) rfl rfl rfl ?_)))))
  rintro _ w1 ⟨r1, A1, k1, rfl, pg1, yr1, yr21, c1⟩
  have z1 := c1.size
  have st_1 := st.keep c1
  refine VO.wk (Wk.call Tryz.call51 rfl (m_New _ _ ok _ _ _ _ st_1 pg1 (by omega) okb (fun y hy => by omega) hne)) rfl rfl rfl ?_
  rintro _ w2 ⟨m2, r2, rs2, sA2, sc2, cA2, rfl, mac2, ss2, hb2, c2⟩
  have ym2 := mac2.bk.lt; have yr2 := Ow.lt mac2.row
  have z2 := c2.size
  refine VO.mv (Rn.move rfl) rfl rfl rfl (VO.mv (Rn.extract rfl rfl) rfl rfl rfl (VO.mv (Rn.extract rfl rfl) rfl rfl rfl (VO.mv (Rn.assign rfl) rfl rfl rfl (VO.mv (Rn.assign rfl) rfl rfl rfl (VO.nil (VQ.then_code (VC.seq ?_)))))))
  refine VC.seq (VC.region (VO.mv (Rn.move rfl) rfl rfl rfl (VO.mv (Rn.nil_neq_nil Tryz.underlying29 rfl) rfl rfl rfl (VO.nil (VQ.then_code (VC.cond_false rfl (VC.skip ?_)))))))
  refine VQ.then_code (VC.seq (VC.seq (VC.region (VO.mv (Rn.move rfl) rfl rfl rfl (VO.nil (VQ.then_code (VC.cond_true rfl ?_)))))))
  refine VC.region (VO.mv (Rn.move rfl) rfl rfl rfl ?_)
  have sx_2 := sx.keep (c1.trans c2)
  refine VO.wk (Wk.call Tryz.call53 rfl (p_conj _ _ _ _ _ _ sx_2 (fun q hq => by have := hX q hq; omega) (by omega))) rfl rfl rfl ?_
  rintro _ w3 ⟨q3, zs3, rfl, cj3, hz3, e3, c3⟩
  have ycj3 := Ow.lt cj3
  have z3 := c3.size
  refine VO.mv (Rn.assign rfl) rfl rfl rfl (VO.nil (VQ.then_code (VC.seq (VC.seq (VC.region (VO.mv (Rn.move rfl) rfl rfl rfl (VO.mv (Rn.move rfl) rfl rfl rfl ?_)))))))
  have mac_3 := mac2.keep c3
  refine VO.wk (Wk.call Tryz.call54 rfl (m_Load _ _ _ _ _ _ _ _ _ _ _ _ _ _ mac_3 ok _ _ n _ _ hn cj3.sl (fun q hq hm => by omega))) rfl rfl rfl ?_
  rintro _ w4 ⟨rfl, mac4, c4⟩
  have z4 := c4.size
  refine VO.mv (Rn.assign rfl) rfl rfl rfl (VO.nil (VQ.then_code (VC.seq (VC.region (VO.mv (Rn.move rfl) rfl rfl rfl (VO.mv (Rn.nil_neq_nil Tryz.underlying29 rfl) rfl rfl rfl (VO.nil ?_)))))))
  refine VQ.then_code (VC.cond_false rfl (VC.skip (VQ.then_code (VC.seq (VC.region (VO.mv (Rn.move rfl) rfl rfl rfl (VO.mv (Rn.move rfl) rfl rfl rfl ?_)))))))
  refine VO.mv (Rn.move rfl) rfl rfl rfl (VO.mv (Rn.build rfl (bld98_0_1_2w45 rfl)) rfl rfl rfl (VO.wk (Wk.box rfl) rfl rfl rfl ?_))
  rintro _ w5 ⟨p5, rfl, N5⟩
  have c5 := N5.ch
  have e5 := N5.p; have z5 := N5.size
  have b39 := Bk.new N5
  refine VO.mv (Rn.assign rfl) rfl rfl rfl (VO.mv (Rn.assign rfl) rfl rfl rfl (VO.nil (VQ.then_code (VC.ret (VQ.ret2 rfl rfl rfl (Ret.mk ?_))))))
  obtain ⟨hb1, hb2, hb3, hb4, hb5⟩ := hb2
  have mac_5 := mac4.keep c5
  have ss_3 := ss2.keep c3
  have ss_4 := ss_3.to c4 (by first | exact fun _ _ _ _ => id | (intro q h1 h2 hx h3; omega))
  have ss_5 := ss_4.keep c5
  have CH_3 := (Ch.refl (No) w).and (c1.trans (c2.trans c3))
  have CH_4 : Ch (No) w w4 := CH_3.then c4 (by intro q h1 h2; rcases h2 with h2 | h2 <;> first | exact h2 | (exfalso; omega) | omega)
  have CH_5 := CH_4.and c5
  exact ⟨_, _, _, _, _, _, _, _, rfl, b39, mac_5, (by rw [load_map _ _ _ _ (CR.len cj3), hz3]), ss_5, ⟨by omega, by omega, by omega, by omega, by omega, by omega, by omega, by omega⟩, CH_5⟩
set_option maxRecDepth 100000 in
theorem r_Left (q p m r : Nat) (b : Bld) (N : Nat) (SA : Option Addr) (sc : Nat) (bs : ByteArray) (CA : Option Addr) (ac dn sn at_ : Int) (xs : List CB) (w : World) (I : Bool) (rb : Bk w q #[.pointer (some ⟨p, 0, none⟩), .bool I, .pointer (some ⟨m, 0, none⟩)] 98) (mac : MacR w m r b N SA sc bs CA ac dn sn at_ xs) (hac : 0 ≤ ac ∧ ac ≤ 1000000000) (hdn : 0 ≤ dn ∧ dn ≤ 1000000000) :
  Calls Tryz.prog 41 #[.pointer (some ⟨q, 0, none⟩)] w (Ret (fun v w' => v = .int .i64 (ac - dn) ∧ Ch No w w')) := by
 refine calls_of_VC (args := [.pointer (some ⟨q, 0, none⟩)]) Tryz.func41 rfl Tryz.ntmps41 rfl (VC.seq (VC.region (VO.mv (Rn.assign rfl) rfl rfl rfl (VO.nil (VQ.then_code (VC.seq (VC.region ?_)))))))
 refine VO.mv (Rn.move rfl) rfl rfl rfl (VO.mv (Rn.nilCheck rfl) rfl rfl rfl (VO.mv (Rn.field Tryz.underlying98 rfl Tryz.sizeOf88 rfl rfl rfl) rfl rfl rfl (VO.mv (Rn.load Tryz.isAgg88 rfl (rb.cell rfl)) rfl rfl rfl (VO.wk (Wk.call Tryz.call55 rfl (m_Left _ _ _ _ _ _ _ _ _ _ _ _ mac.bk (by omega) (by omega))) rfl rfl rfl ?_))))
 rintro _ w1 ⟨rfl, c1⟩
 have z1 := c1.size
 refine VO.mv (Rn.assign rfl) rfl rfl rfl (VO.nil (VQ.then_code (VC.ret (VQ.ret1 rfl rfl (Ret.mk ?_)))))
 have CH_1 := (Ch.refl (No) w).and c1
 exact ⟨rfl, CH_1⟩
set_option maxRecDepth 100000 in
theorem r_Do (q p m r : Nat) (b : Bld) (N : Nat) (SA : Option Addr) (sc : Nat) (bs : ByteArray) (CA : Option Addr) (ac : Int) (xs : List CB) (w : World) (I : Bool) (rb : Bk w q #[.pointer (some ⟨p, 0, none⟩), .bool I, .pointer (some ⟨m, 0, none⟩)] 98) (mac : MacR w m r b N SA sc bs CA ac 0 0 0 xs) (hN : N ≤ 1000000) (hac : ac = cntS b.steps) (hac1 : 1 ≤ ac) (hac2 : ac ≤ 100000000) (hok : ∀ s ∈ b.steps, StepOk s N) (hl : b.steps.length ≤ 1000000) (S : Nat → Prop) (hS : ∀ q, S q → ¬ MS m r q) (ss : SlR S w SA b.steps.length 7 (flatS b.steps)) (z : Int) (hz : ac = z) :
  Calls Tryz.prog 42 #[.pointer (some ⟨q, 0, none⟩), .int .i64 z] w (Ret (fun v w' => v = .tuple #[.int .i64 ac, .nilIface] ∧ ∃ ys, MacR w' m r b N SA sc bs CA ac ac b.steps.length 0 ys ∧ ys.map cx = runC b.steps (xs.map cx) ∧ Ch (MS m r) w w')) := by
 refine calls_of_VC (args := [.pointer (some ⟨q, 0, none⟩), .int .i64 z]) Tryz.func42 rfl Tryz.ntmps42 rfl ?_
 subst hz
 refine VC.seq (VC.region (VO.mv (Rn.assign rfl) rfl rfl rfl (VO.mv (Rn.assign rfl) rfl rfl rfl (VO.nil (VQ.then_code (VC.seq (VC.region ?_)))))))
 refine VO.mv (Rn.move rfl) rfl rfl rfl (VO.mv (Rn.nilCheck rfl) rfl rfl rfl (VO.mv (Rn.field Tryz.underlying98 rfl Tryz.sizeOf88 rfl rfl rfl) rfl rfl rfl (VO.mv (Rn.load Tryz.isAgg88 rfl (rb.cell rfl)) rfl rfl rfl (VO.mv (Rn.move rfl) rfl rfl rfl (VO.wk (Wk.call Tryz.call56 rfl (m_Run m r b N SA sc bs CA ac xs _ mac (by omega) hac hac1 hac2 hok hl S hS ss)) rfl rfl rfl ?_)))))
 rintro _ w1 ⟨rfl, ys1, mac1, hy1, c1⟩
 have z1 := c1.size
 refine VO.mv (Rn.extract rfl rfl) rfl rfl rfl (VO.mv (Rn.extract rfl rfl) rfl rfl rfl (VO.mv (Rn.assign rfl) rfl rfl rfl (VO.mv (Rn.assign rfl) rfl rfl rfl (VO.nil (VQ.then_code (VC.ret (VQ.ret2 rfl rfl rfl ?_)))))))
 refine Ret.mk ?_
 have CH_1 : Ch (MS m r) w w1 := (Ch.refl (MS m r) w).then c1 (by intro q h1 h2; rcases h2 with h2 | h2 <;> first | exact h2 | (exfalso; omega) | omega)
 exact ⟨rfl, _, mac1, hy1, CH_1⟩
set_option maxHeartbeats 1000000 in
set_option maxRecDepth 100000 in
theorem r_Result0 (q p m r : Nat) (b : Bld) (N : Nat) (SA : Option Addr) (sc : Nat) (bs : ByteArray) (CA : Option Addr) (ac : Int) (xs : List CB) (w : World) (rb : Bk w q #[.pointer (some ⟨p, 0, none⟩), .bool false, .pointer (some ⟨m, 0, none⟩)] 98) (mac : MacR w m r b N SA sc bs CA ac ac b.steps.length 0 xs) (ok : PrgOk b N) (hac : 0 ≤ ac ∧ ac ≤ 1000000000) :
  Calls Tryz.prog 43 #[.pointer (some ⟨q, 0, none⟩)] w (Ret (fun v w' => ∃ r' A' c' zs, v = .tuple #[.slice A' b.ln.toNat c', .nilIface] ∧ CR 50 w' r' A' b.ln.toNat c' zs ∧ zs.map cx = ((xs.map cx).drop b.ou.toNat).take b.ln.toNat ∧ w.heap.size < r' ∧ Ch No w w')) := by
 have hln := ok.ln
 refine calls_of_VC (args := [.pointer (some ⟨q, 0, none⟩)]) Tryz.func43 rfl Tryz.ntmps43 rfl (VC.seq (VC.region (VO.mv (Rn.assign rfl) rfl rfl rfl (VO.mv (Rn.assign rfl) rfl rfl rfl (VO.nil (VQ.then_code (VC.seq ?_)))))))
 refine VC.region (VO.mv (Rn.move rfl) rfl rfl rfl (VO.mv (Rn.nilCheck rfl) rfl rfl rfl (VO.mv (Rn.field Tryz.underlying98 rfl Tryz.sizeOf88 rfl rfl rfl) rfl rfl rfl (VO.mv (Rn.load Tryz.isAgg88 rfl (rb.cell rfl)) rfl rfl rfl (VO.wk (Wk.call Tryz.call57 rfl (m_Out _ _ _ _ _ _ _ _ _ _ _ _ _ mac ok (by omega))) rfl rfl rfl ?_)))))
 rintro _ w1 ⟨r1, A1, k1, rfl, out1, yo1, c1⟩
 have z1 := c1.size
 refine VO.mv (Rn.move rfl) rfl rfl rfl (VO.mv (Rn.extract rfl rfl) rfl rfl rfl (VO.mv (Rn.extract rfl rfl) rfl rfl rfl (VO.mv (Rn.assign rfl) rfl rfl rfl (VO.mv (Rn.assign rfl) rfl rfl rfl (VO.nil (VQ.then_code (VC.seq ?_)))))))
 refine VC.seq (VC.region (VO.mv (Rn.move rfl) rfl rfl rfl (VO.mv (Rn.nil_neq_nil Tryz.underlying29 rfl) rfl rfl rfl (VO.mv (Rn.move rfl) rfl rfl rfl (VO.mv (Rn.move rfl) rfl rfl rfl (VO.mv (Rn.nilCheck rfl) rfl rfl rfl (VO.mv (Rn.field Tryz.underlying98 rfl Tryz.sizeOf4 rfl rfl rfl) rfl rfl rfl ?_)))))))
 have rb_1 := rb.keep c1
 refine VO.mv (Rn.load Tryz.isAgg4 rfl (rb_1.cell rfl)) rfl rfl rfl (VO.mv (Rn.not rfl) rfl rfl rfl (VO.mv (Rn.pick_false rfl rfl) rfl rfl rfl (VO.nil (VQ.then_code (VC.cond_true rfl (VC.seq (VC.region ?_)))))))
 refine VO.mv (Rn.move rfl) rfl rfl rfl (VO.mv (Rn.move rfl) rfl rfl rfl (VO.mv (Rn.assign rfl) rfl rfl rfl (VO.mv (Rn.assign rfl) rfl rfl rfl (VO.nil (VQ.then_code (VC.ret (VQ.then_ret ?_)))))))
 refine VQ.ret2 rfl rfl rfl (Ret.mk ?_)
 have CH_1 := (Ch.refl (No) w).and c1
 exact ⟨_, _, _, _, rfl, out1, by rw [List.map_take, List.map_drop], by omega, CH_1⟩
set_option maxHeartbeats 1000000 in
set_option maxRecDepth 100000 in
theorem r_Result1 (q p m r : Nat) (b : Bld) (N : Nat) (SA : Option Addr) (sc : Nat) (bs : ByteArray) (CA : Option Addr) (ac : Int) (xs : List CB) (w : World) (rb : Bk w q #[.pointer (some ⟨p, 0, none⟩), .bool true, .pointer (some ⟨m, 0, none⟩)] 98) (mac : MacR w m r b N SA sc bs CA ac ac b.steps.length 0 xs) (ok : PrgOk b N) (hac : 0 ≤ ac ∧ ac ≤ 1000000000) :
  Calls Tryz.prog 43 #[.pointer (some ⟨q, 0, none⟩)] w (Ret (fun v w' => ∃ r' A' c' zs, v = .tuple #[.slice A' b.ln.toNat c', .nilIface] ∧ CR 50 w' r' A' b.ln.toNat c' zs ∧ zs.map cx = ((((xs.map cx).drop b.ou.toNat).take b.ln.toNat).map conjC).map (fun z => overC z b.ln) ∧ w.heap.size < r' ∧ Ch No w w')) := by
 have hln := ok.ln
 refine calls_of_VC (args := [.pointer (some ⟨q, 0, none⟩)]) Tryz.func43 rfl Tryz.ntmps43 rfl (VC.seq (VC.region (VO.mv (Rn.assign rfl) rfl rfl rfl (VO.mv (Rn.assign rfl) rfl rfl rfl (VO.nil (VQ.then_code (VC.seq ?_)))))))
 refine VC.region (VO.mv (Rn.move rfl) rfl rfl rfl (VO.mv (Rn.nilCheck rfl) rfl rfl rfl (VO.mv (Rn.field Tryz.underlying98 rfl Tryz.sizeOf88 rfl rfl rfl) rfl rfl rfl (VO.mv (Rn.load Tryz.isAgg88 rfl (rb.cell rfl)) rfl rfl rfl (VO.wk (Wk.call Tryz.call57 rfl (m_Out _ _ _ _ _ _ _ _ _ _ _ _ _ mac ok (by omega))) rfl rfl rfl ?_)))))
 rintro _ w1 ⟨r1, A1, k1, rfl, out1, yo1, c1⟩
 have z1 := c1.size
 refine VO.mv (Rn.move rfl) rfl rfl rfl (VO.mv (Rn.extract rfl rfl) rfl rfl rfl (VO.mv (Rn.extract rfl rfl) rfl rfl rfl (VO.mv (Rn.assign rfl) rfl rfl rfl (VO.mv (Rn.assign rfl) rfl rfl rfl (VO.nil (VQ.then_code (VC.seq ?_)))))))
 refine VC.seq (VC.region (VO.mv (Rn.move rfl) rfl rfl rfl (VO.mv (Rn.nil_neq_nil Tryz.underlying29 rfl) rfl rfl rfl (VO.mv (Rn.move rfl) rfl rfl rfl (VO.mv (Rn.move rfl) rfl rfl rfl (VO.mv (Rn.nilCheck rfl) rfl rfl rfl (VO.mv (Rn.field Tryz.underlying98 rfl Tryz.sizeOf4 rfl rfl rfl) rfl rfl rfl ?_)))))))
 have rb_1 := rb.keep c1
 refine VO.mv (Rn.load Tryz.isAgg4 rfl (rb_1.cell rfl)) rfl rfl rfl (VO.mv (Rn.not rfl) rfl rfl rfl (VO.mv (Rn.pick_false rfl rfl) rfl rfl rfl (VO.nil (VQ.then_code (VC.cond_false rfl (VC.skip (VQ.then_code ?_)))))))
 refine VC.seq (VC.region (VO.mv (Rn.move rfl) rfl rfl rfl ?_))
 refine VO.wk (Wk.call Tryz.call53 rfl (p_conj _ _ _ _ _ _ out1.sl (fun q hq => by have := (out1).lt; omega) (by omega))) rfl rfl rfl ?_
 rintro _ w2 ⟨q2, zs2, rfl, cj2, hz2, e2, c2⟩
 have ycj2 := Ow.lt cj2
 have z2 := c2.size
 refine VO.mv (Rn.assign rfl) rfl rfl rfl (VO.nil (VQ.then_code (VC.seq (VC.seq (VC.region (VO.mv (Rn.move rfl) rfl rfl rfl (VO.mv (Rn.len Tryz.underlying49 rfl) rfl rfl rfl ?_)))))))
 refine VO.mv (Rn.move rfl) rfl rfl rfl (VO.nil (VQ.then_code (VC.block ?_)))
 have CH_2 := (Ch.refl (No) w).and (c1.trans c2)
 refine VC.loopS (σ := Nat × List CB) (fun (j, zs) => [(4, .slice (some ⟨q2, 0, none⟩) b.ln.toNat b.ln.toNat), (29, .slice (some ⟨q2, 0, none⟩) b.ln.toNat b.ln.toNat), (30, .int .i64 (b.ln.toNat : Nat)), (31, .int .i64 j)]) (fun (j, zs) w' => j ≤ b.ln.toNat ∧ Upto (fun z => overC z b.ln) zs2 zs j ∧ (∀ i, j ≤ i → zs.getD i (0, 0) = zs2.getD i (0, 0)) ∧ w2.heap.size ≤ w'.heap.size ∧ CR 50 w' (q2 + 1) (some ⟨q2, 0, none⟩) b.ln.toNat b.ln.toNat zs ∧ Ch (No) w w') (fun (j, zs) => b.ln.toNat - j) (0, zs2) ?_ ⟨rfl, rfl, rfl, rfl, trivial⟩ ?_
 · exact ⟨(by omega), (Upto.zero _ _ _), (fun i _ => rfl), (Nat.le_refl _), cj2, CH_2⟩
 rintro ⟨j, zs⟩ w3 ⟨hj, hu, hsm, hsz3, cj_3, CH_3⟩
 show VC _ _ _ _ [(4, .slice (some ⟨q2, 0, none⟩) b.ln.toNat b.ln.toNat), (29, .slice (some ⟨q2, 0, none⟩) b.ln.toNat b.ln.toNat), (30, .int .i64 (b.ln.toNat : Nat)), (31, .int .i64 j)] _
 have hzl := CR.len cj_3
 have hlc : ((b.ln.toNat : Nat) : Int) = b.ln := by omega
 refine VC.seq (VC.region (VO.mv (Rn.lss rfl rfl) rfl rfl rfl (VO.nil (VQ.then_code (VC.seq (VC.cond_if rfl (fun hc1 => ?_) (fun hc1 => ?_)))))))
 ·
  refine VC.skip (VQ.then_code (VC.seq (VC.block (VC.seq (VC.region (VO.mv (Rn.move rfl) rfl rfl rfl (VO.mv (Rn.indexS Tryz.underlying49 Tryz.sizeOf50 rfl rfl (cj_3.sl.ne (by omega)) (by omega) (by omega)) rfl rfl rfl ?_)))))))
  refine VO.mv (Rn.load Tryz.isAgg50 rfl (cj_3.sl.getC (by omega) (by omega))) rfl rfl rfl (VO.mv (Rn.assign rfl) rfl rfl rfl (VO.mv (Rn.assign rfl) rfl rfl rfl (VO.nil (VQ.then_code (VC.region (VO.mv (Rn.move rfl) rfl rfl rfl (VO.mv (Rn.move rfl) rfl rfl rfl ?_)))))))
  refine VO.mv (Rn.move rfl) rfl rfl rfl (VO.mv (Rn.move rfl) rfl rfl rfl (VO.mv (Rn.len Tryz.underlying49 rfl) rfl rfl rfl (VO.wk (Wk.call Tryz.call58 rfl (cplx_Over _ _ _ _)) rfl rfl rfl ?_)))
  rintro _ w4 ⟨p4, q4, rfl, F4, c4⟩
  have z4 := c4.size
  have cj_4 := cj_3.keep c4
  refine VO.mv (Rn.indexS Tryz.underlying49 Tryz.sizeOf50 rfl rfl (cj_4.sl.ne (by omega)) (by omega) (by omega)) rfl rfl rfl (VO.wk0 (Wk.putC Tryz.sizeOf50 rfl rfl (by omega) cj_4) rfl rfl ?_)
  rintro _ w5 ⟨o5, c5, z5⟩
  have y5 := o5.lt
  refine VO.nil (VQ.block_normal (VQ.then_code (VC.region ?_)))
  refine VO.mv (Rn.add rfl rfl (by rw [IntKind.wrap_i64]; omega)) rfl rfl rfl ?_
  refine VO.mv (Rn.move rfl) rfl rfl rfl (VO.nil ?_)
  refine VQ.round (j + 1, zs.set j (p4, q4)) (by first | omega | (dsimp only; omega)) ?_ ⟨rfl, rfl, rfl, rfl, trivial⟩
  have CH_4 := CH_3.and c4
  have CH_5 : Ch (No) w w5 := CH_4.then c5 (by intro q h1 h2; rcases h2 with h2 | h2 <;> first | exact h2 | (exfalso; omega) | omega)
  exact ⟨(by omega), (hu.step (by omega) (by rw [F4, Int.toNat_natCast, hlc, ← hsm j (Nat.le_refl _)])), (fun i hi => by rw [set_getD (by omega), if_neg (by omega)]; exact hsm i (by omega)), (by omega), o5, CH_5⟩
 ·
  refine VC.exit (VQ.then_exit (VQ.then_exit (VQ.block_exit (VQ.then_code (VC.seq (VC.region (VO.mv (Rn.move rfl) rfl rfl rfl ?_)))))))
  refine VO.mv (Rn.assign rfl) rfl rfl rfl (VO.mv (Rn.assign rfl) rfl rfl rfl (VO.nil (VQ.then_code (VC.ret (VQ.ret2 rfl rfl rfl (Ret.mk ?_))))))
  have e : j = b.ln.toNat := by omega
  rw [e] at hu
  have hz9 := hu.all (CR.len cj2) (CR.len cj_3)
  have y9 := Ow.lt cj_3
  exact ⟨_, _, _, _, rfl, cj_3, by rw [hz9, hz2, List.map_take, List.map_drop], by omega, CH_3⟩
set_option maxHeartbeats 1000000 in
set_option maxRecDepth 100000 in
theorem p_whole0 (lo hi p : Nat) (P : Pln) (SX : Nat → Prop) (X : Option Addr) (n xc : Nat) (ys : List CB) (w : World) (sx : SlR SX w X n 1 (ys.map cxV)) (hX : ∀ q, SX q → q < w.heap.size) (pl : PlnR lo hi w p P) (hh : hi ≤ w.heap.size) (N : Nat) (ok : PrgOk P.b N) (okb : okB P.b) (hne : 1 ≤ P.b.steps.length) (hn : (n : Int) = P.b.ln) (st : StT w) (hG : 24 ≤ w.heap.size) (hac1 : 1 ≤ cntS P.b.steps)  :
  Calls Tryz.prog 29 #[.pointer (some ⟨p, 0, none⟩), .slice X n xc, .bool false] w (Ret (fun v w' => ∃ r' A' c' zs, v = .tuple #[.slice A' P.b.ln.toNat c', .nilIface] ∧ CR 50 w' r' A' P.b.ln.toNat c' zs ∧ zs.map cx = fwdC P.b (ys.map cx) ∧ w.heap.size < r' ∧ Ch No w w')) := by
 have hln := ok.ln; have hn1 := ok.n1; have hcl := ok.cl; have hlen := ok.len
 have hyl : ys.length = n := by have := sx.len; simpa using this
 refine calls_of_VC (args := [.pointer (some ⟨p, 0, none⟩), .slice X n xc, .bool false]) Tryz.func29 rfl Tryz.ntmps29 rfl (VC.seq (VC.region (VO.mv (Rn.assign rfl) rfl rfl rfl (VO.mv (Rn.assign rfl) rfl rfl rfl (VO.nil (VQ.then_code (VC.seq ?_)))))))
 refine VC.region (VO.mv (Rn.move rfl) rfl rfl rfl (VO.mv (Rn.move rfl) rfl rfl rfl (VO.mv (Rn.move rfl) rfl rfl rfl (VO.wk (Wk.call Tryz.call40 rfl (p_Begin0 _ _ _ _ _ _ _ _ _ _ sx hX pl (by omega) _ ok okb hne hn st (by omega))) rfl rfl rfl ?_))))
 rintro _ w1 ⟨q1, m1, r1, rs1, sA1, sc1, cA1, xs1, rfl, rb1, mac1, hx1, ss1, hb1, c1⟩
 obtain ⟨hb1, hb2, hb3, hb4, hb5, hb6, hb7, hb8⟩ := hb1
 have yq1 := rb1.lt; have ym1 := mac1.bk.lt; have yr1 := Ow.lt mac1.row
 have hS : ∀ y, At rs1 y → ¬ MS m1 r1 y := fun y h1 h2 => by omega
 have hok := ok.ok; have hac2 : cntS P.b.steps ≤ 100000000 := by have := ok.act; omega
 have z1 := c1.size
 refine VO.mv (Rn.move rfl) rfl rfl rfl (VO.mv (Rn.extract rfl rfl) rfl rfl rfl (VO.mv (Rn.extract rfl rfl) rfl rfl rfl (VO.mv (Rn.assign rfl) rfl rfl rfl (VO.mv (Rn.assign rfl) rfl rfl rfl (VO.nil (VQ.then_code (VC.seq ?_)))))))
 refine VC.seq (VC.region (VO.mv (Rn.move rfl) rfl rfl rfl (VO.mv (Rn.nil_neq_nil Tryz.underlying29 rfl) rfl rfl rfl (VO.nil (VQ.then_code (VC.cond_false rfl (VC.skip ?_)))))))
 refine VQ.then_code (VC.seq (VC.seq (VC.region (VO.mv (Rn.move rfl) rfl rfl rfl (VO.wk (Wk.call Tryz.call41 rfl (r_Left _ _ _ _ _ _ _ _ _ _ _ _ _ _ _ _ _ rb1 mac1 (by omega) (by omega))) rfl rfl rfl ?_)))))
 rintro _ w2 ⟨rfl, c2⟩
 have z2 := c2.size
 refine VO.mv (Rn.gtr rfl rfl) rfl rfl rfl (VO.nil (VQ.then_code (VC.cond_if rfl (fun hc1 => ?_) (fun hc1 => ?_))))
 ·
  refine VC.seq (VC.region (VO.mv (Rn.move rfl) rfl rfl rfl (VO.mv (Rn.move rfl) rfl rfl rfl ?_)))
  have rb_2 := rb1.keep c2
  have mac_2 := mac1.keep c2
  refine VO.wk (Wk.call Tryz.call41 rfl (r_Left _ _ _ _ _ _ _ _ _ _ _ _ _ _ _ _ _ rb_2 mac_2 (by omega) (by omega))) rfl rfl rfl ?_
  rintro _ w3 ⟨rfl, c3⟩
  have z3 := c3.size
  have rb_3 := rb_2.keep c3
  have mac_3 := mac_2.keep c3
  have ss_3 := ss1.keep (c2.trans c3)
  refine VO.wk (Wk.call Tryz.call42 rfl (r_Do _ _ _ _ _ _ _ _ _ _ _ _ _ _ rb_3 mac_3 (by omega) rfl hac1 hac2 hok (by omega) _ hS ss_3 _ (by omega))) rfl rfl rfl ?_
  rintro _ w4 ⟨rfl, ys4, mac4, hy4, c4⟩
  have z4 := c4.size
  refine VO.mv (Rn.move rfl) rfl rfl rfl (VO.mv (Rn.extract rfl rfl) rfl rfl rfl (VO.mv (Rn.extract rfl rfl) rfl rfl rfl (VO.mv (Rn.assign rfl) rfl rfl rfl (VO.mv (Rn.assign rfl) rfl rfl rfl (VO.nil (VQ.then_code (VC.seq ?_)))))))
  refine VC.region (VO.mv (Rn.move rfl) rfl rfl rfl (VO.mv (Rn.nil_neq_nil Tryz.underlying29 rfl) rfl rfl rfl (VO.nil (VQ.then_code (VC.cond_false rfl (VC.skip (VQ.then_code ?_)))))))
  refine VC.seq (VC.region (VO.mv (Rn.move rfl) rfl rfl rfl ?_))
  have rb_4 := rb_3.to c4 (by first | exact id | omega)
  refine VO.wk (Wk.call Tryz.call43 rfl (r_Result0 _ _ _ _ _ _ _ _ _ _ _ _ _ rb_4 mac4 ok (by omega))) rfl rfl rfl ?_
  rintro _ w5 ⟨r5, A5, k5, zs5, rfl, out5, hz5, yo5, c5⟩
  have z5 := c5.size
  refine VO.mv (Rn.extract rfl rfl) rfl rfl rfl (VO.mv (Rn.extract rfl rfl) rfl rfl rfl (VO.mv (Rn.assign rfl) rfl rfl rfl (VO.mv (Rn.assign rfl) rfl rfl rfl (VO.nil (VQ.then_code (VC.ret (VQ.ret2 rfl rfl rfl ?_)))))))
  refine Ret.mk ?_
  have CH_3 := (Ch.refl (No) w).and (c1.trans (c2.trans c3))
  have CH_4 : Ch (No) w w4 := CH_3.then c4 (by intro q h1 h2; rcases h2 with h2 | h2 <;> first | exact h2 | (exfalso; omega) | omega)
  have CH_5 := CH_4.and c5
  exact ⟨_, _, _, _, rfl, out5, by rw [hz5, hy4, hx1, show N = P.b.cl.toNat by omega]; rfl, by omega, CH_5⟩
 ·
  omega
set_option maxHeartbeats 1000000 in
set_option maxRecDepth 100000 in
theorem p_whole1 (lo hi p : Nat) (P : Pln) (SX : Nat → Prop) (X : Option Addr) (n xc : Nat) (ys : List CB) (w : World) (sx : SlR SX w X n 1 (ys.map cxV)) (hX : ∀ q, SX q → q < w.heap.size) (pl : PlnR lo hi w p P) (hh : hi ≤ w.heap.size) (N : Nat) (ok : PrgOk P.b N) (okb : okB P.b) (hne : 1 ≤ P.b.steps.length) (hn : (n : Int) = P.b.ln) (st : StT w) (hG : 24 ≤ w.heap.size) (hac1 : 1 ≤ cntS P.b.steps)  :
  Calls Tryz.prog 29 #[.pointer (some ⟨p, 0, none⟩), .slice X n xc, .bool true] w (Ret (fun v w' => ∃ r' A' c' zs, v = .tuple #[.slice A' P.b.ln.toNat c', .nilIface] ∧ CR 50 w' r' A' P.b.ln.toNat c' zs ∧ zs.map cx = invC P.b (ys.map cx) ∧ w.heap.size < r' ∧ Ch No w w')) := by
 have hln := ok.ln; have hn1 := ok.n1; have hcl := ok.cl; have hlen := ok.len
 have hyl : ys.length = n := by have := sx.len; simpa using this
 refine calls_of_VC (args := [.pointer (some ⟨p, 0, none⟩), .slice X n xc, .bool true]) Tryz.func29 rfl Tryz.ntmps29 rfl (VC.seq (VC.region (VO.mv (Rn.assign rfl) rfl rfl rfl (VO.mv (Rn.assign rfl) rfl rfl rfl (VO.nil (VQ.then_code (VC.seq ?_)))))))
 refine VC.region (VO.mv (Rn.move rfl) rfl rfl rfl (VO.mv (Rn.move rfl) rfl rfl rfl (VO.mv (Rn.move rfl) rfl rfl rfl (VO.wk (Wk.call Tryz.call40 rfl (p_Begin1 _ _ _ _ _ _ _ _ _ _ sx hX pl (by omega) _ ok okb hne hn st (by omega))) rfl rfl rfl ?_))))
 rintro _ w1 ⟨q1, m1, r1, rs1, sA1, sc1, cA1, xs1, rfl, rb1, mac1, hx1, ss1, hb1, c1⟩
 obtain ⟨hb1, hb2, hb3, hb4, hb5, hb6, hb7, hb8⟩ := hb1
 have yq1 := rb1.lt; have ym1 := mac1.bk.lt; have yr1 := Ow.lt mac1.row
 have hS : ∀ y, At rs1 y → ¬ MS m1 r1 y := fun y h1 h2 => by omega
 have hok := ok.ok; have hac2 : cntS P.b.steps ≤ 100000000 := by have := ok.act; omega
 have z1 := c1.size
 refine VO.mv (Rn.move rfl) rfl rfl rfl (VO.mv (Rn.extract rfl rfl) rfl rfl rfl (VO.mv (Rn.extract rfl rfl) rfl rfl rfl (VO.mv (Rn.assign rfl) rfl rfl rfl (VO.mv (Rn.assign rfl) rfl rfl rfl (VO.nil (VQ.then_code (VC.seq ?_)))))))
 refine VC.seq (VC.region (VO.mv (Rn.move rfl) rfl rfl rfl (VO.mv (Rn.nil_neq_nil Tryz.underlying29 rfl) rfl rfl rfl (VO.nil (VQ.then_code (VC.cond_false rfl (VC.skip ?_)))))))
 refine VQ.then_code (VC.seq (VC.seq (VC.region (VO.mv (Rn.move rfl) rfl rfl rfl (VO.wk (Wk.call Tryz.call41 rfl (r_Left _ _ _ _ _ _ _ _ _ _ _ _ _ _ _ _ _ rb1 mac1 (by omega) (by omega))) rfl rfl rfl ?_)))))
 rintro _ w2 ⟨rfl, c2⟩
 have z2 := c2.size
 refine VO.mv (Rn.gtr rfl rfl) rfl rfl rfl (VO.nil (VQ.then_code (VC.cond_if rfl (fun hc1 => ?_) (fun hc1 => ?_))))
 ·
  refine VC.seq (VC.region (VO.mv (Rn.move rfl) rfl rfl rfl (VO.mv (Rn.move rfl) rfl rfl rfl ?_)))
  have rb_2 := rb1.keep c2
  have mac_2 := mac1.keep c2
  refine VO.wk (Wk.call Tryz.call41 rfl (r_Left _ _ _ _ _ _ _ _ _ _ _ _ _ _ _ _ _ rb_2 mac_2 (by omega) (by omega))) rfl rfl rfl ?_
  rintro _ w3 ⟨rfl, c3⟩
  have z3 := c3.size
  have rb_3 := rb_2.keep c3
  have mac_3 := mac_2.keep c3
  have ss_3 := ss1.keep (c2.trans c3)
  refine VO.wk (Wk.call Tryz.call42 rfl (r_Do _ _ _ _ _ _ _ _ _ _ _ _ _ _ rb_3 mac_3 (by omega) rfl hac1 hac2 hok (by omega) _ hS ss_3 _ (by omega))) rfl rfl rfl ?_
  rintro _ w4 ⟨rfl, ys4, mac4, hy4, c4⟩
  have z4 := c4.size
  refine VO.mv (Rn.move rfl) rfl rfl rfl (VO.mv (Rn.extract rfl rfl) rfl rfl rfl (VO.mv (Rn.extract rfl rfl) rfl rfl rfl (VO.mv (Rn.assign rfl) rfl rfl rfl (VO.mv (Rn.assign rfl) rfl rfl rfl (VO.nil (VQ.then_code (VC.seq ?_)))))))
  refine VC.region (VO.mv (Rn.move rfl) rfl rfl rfl (VO.mv (Rn.nil_neq_nil Tryz.underlying29 rfl) rfl rfl rfl (VO.nil (VQ.then_code (VC.cond_false rfl (VC.skip (VQ.then_code ?_)))))))
  refine VC.seq (VC.region (VO.mv (Rn.move rfl) rfl rfl rfl ?_))
  have rb_4 := rb_3.to c4 (by first | exact id | omega)
  refine VO.wk (Wk.call Tryz.call43 rfl (r_Result1 _ _ _ _ _ _ _ _ _ _ _ _ _ rb_4 mac4 ok (by omega))) rfl rfl rfl ?_
  rintro _ w5 ⟨r5, A5, k5, zs5, rfl, out5, hz5, yo5, c5⟩
  have z5 := c5.size
  refine VO.mv (Rn.extract rfl rfl) rfl rfl rfl (VO.mv (Rn.extract rfl rfl) rfl rfl rfl (VO.mv (Rn.assign rfl) rfl rfl rfl (VO.mv (Rn.assign rfl) rfl rfl rfl (VO.nil (VQ.then_code (VC.ret (VQ.ret2 rfl rfl rfl ?_)))))))
  refine Ret.mk ?_
  have CH_3 := (Ch.refl (No) w).and (c1.trans (c2.trans c3))
  have CH_4 : Ch (No) w w4 := CH_3.then c4 (by intro q h1 h2; rcases h2 with h2 | h2 <;> first | exact h2 | (exfalso; omega) | omega)
  have CH_5 := CH_4.and c5
  exact ⟨_, _, _, _, rfl, out5, by rw [hz5, hy4, hx1, show N = P.b.cl.toNat by omega]; rfl, by omega, CH_5⟩
 ·
  omega
set_option maxRecDepth 100000 in
theorem p_Forward (lo hi p : Nat) (P : Pln) (SX : Nat → Prop) (X : Option Addr) (n xc : Nat) (ys : List CB) (w : World) (sx : SlR SX w X n 1 (ys.map cxV)) (hX : ∀ q, SX q → q < w.heap.size) (pl : PlnR lo hi w p P) (hh : hi ≤ w.heap.size) (N : Nat) (ok : PrgOk P.b N) (okb : okB P.b) (hne : 1 ≤ P.b.steps.length) (hn : (n : Int) = P.b.ln) (st : StT w) (hG : 24 ≤ w.heap.size) (hac1 : 1 ≤ cntS P.b.steps)  :
  Calls Tryz.prog 21 #[.pointer (some ⟨p, 0, none⟩), .slice X n xc] w (Ret (fun v w' => ∃ r' A' c' zs, v = .tuple #[.slice A' P.b.ln.toNat c', .nilIface] ∧ CR 50 w' r' A' P.b.ln.toNat c' zs ∧ zs.map cx = fwdC P.b (ys.map cx) ∧ w.heap.size < r' ∧ Ch No w w')) := by
 refine calls_of_VC (args := [.pointer (some ⟨p, 0, none⟩), .slice X n xc]) Tryz.func21 rfl Tryz.ntmps21 rfl (VC.seq (VC.region (VO.mv (Rn.assign rfl) rfl rfl rfl (VO.mv (Rn.assign rfl) rfl rfl rfl (VO.nil (VQ.then_code (VC.seq ?_)))))))
 refine VC.region (VO.mv (Rn.move rfl) rfl rfl rfl (VO.mv (Rn.move rfl) rfl rfl rfl (VO.wk (Wk.call Tryz.call29 rfl (p_whole0 _ _ _ _ _ _ _ _ _ _ sx hX pl (by omega) _ ok okb hne hn st (by omega) hac1)) rfl rfl rfl ?_)))
 rintro _ w1 ⟨r1, A1, k1, zs1, rfl, out1, hz1, yo1, c1⟩
 have z1 := c1.size
 refine VO.mv (Rn.extract rfl rfl) rfl rfl rfl (VO.mv (Rn.extract rfl rfl) rfl rfl rfl (VO.mv (Rn.assign rfl) rfl rfl rfl (VO.mv (Rn.assign rfl) rfl rfl rfl (VO.nil (VQ.then_code (VC.ret (VQ.ret2 rfl rfl rfl ?_)))))))
 refine Ret.mk ?_
 have CH_1 := (Ch.refl (No) w).and c1
 exact ⟨_, _, _, _, rfl, out1, hz1, by omega, CH_1⟩
set_option maxRecDepth 100000 in
theorem p_Inverse (lo hi p : Nat) (P : Pln) (SX : Nat → Prop) (X : Option Addr) (n xc : Nat) (ys : List CB) (w : World) (sx : SlR SX w X n 1 (ys.map cxV)) (hX : ∀ q, SX q → q < w.heap.size) (pl : PlnR lo hi w p P) (hh : hi ≤ w.heap.size) (N : Nat) (ok : PrgOk P.b N) (okb : okB P.b) (hne : 1 ≤ P.b.steps.length) (hn : (n : Int) = P.b.ln) (st : StT w) (hG : 24 ≤ w.heap.size) (hac1 : 1 ≤ cntS P.b.steps)  :
  Calls Tryz.prog 23 #[.pointer (some ⟨p, 0, none⟩), .slice X n xc] w (Ret (fun v w' => ∃ r' A' c' zs, v = .tuple #[.slice A' P.b.ln.toNat c', .nilIface] ∧ CR 50 w' r' A' P.b.ln.toNat c' zs ∧ zs.map cx = invC P.b (ys.map cx) ∧ w.heap.size < r' ∧ Ch No w w')) := by
 refine calls_of_VC (args := [.pointer (some ⟨p, 0, none⟩), .slice X n xc]) Tryz.func23 rfl Tryz.ntmps23 rfl (VC.seq (VC.region (VO.mv (Rn.assign rfl) rfl rfl rfl (VO.mv (Rn.assign rfl) rfl rfl rfl (VO.nil (VQ.then_code (VC.seq ?_)))))))
 refine VC.region (VO.mv (Rn.move rfl) rfl rfl rfl (VO.mv (Rn.move rfl) rfl rfl rfl (VO.wk (Wk.call Tryz.call29 rfl (p_whole1 _ _ _ _ _ _ _ _ _ _ sx hX pl (by omega) _ ok okb hne hn st (by omega) hac1)) rfl rfl rfl ?_)))
 rintro _ w1 ⟨r1, A1, k1, zs1, rfl, out1, hz1, yo1, c1⟩
 have z1 := c1.size
 refine VO.mv (Rn.extract rfl rfl) rfl rfl rfl (VO.mv (Rn.extract rfl rfl) rfl rfl rfl (VO.mv (Rn.assign rfl) rfl rfl rfl (VO.mv (Rn.assign rfl) rfl rfl rfl (VO.nil (VQ.then_code (VC.ret (VQ.ret2 rfl rfl rfl ?_)))))))
 refine Ret.mk ?_
 have CH_1 := (Ch.refl (No) w).and c1
 exact ⟨_, _, _, _, rfl, out1, hz1, by omega, CH_1⟩
end Go.Tm
namespace Go.Tm
abbrev flV (b : Nat) : Value := .float .f64 b
abbrev arrF (xs : List Nat) : Array Value := (xs.map flV).toArray
section
variable {P : Program} {n : Fr} {k : K} {w : World} {d : Option Tmp} {ty : TypeId} {pos : String} {aft : Array Edge} {g : Option (Nat × Bool)}
theorem arrF_get {xs : List Nat} {i : Nat} (h : i < xs.length) : (arrF xs)[i]? = some (flV (xs.getD i 0)) := by
  simp [arrF, List.getD, List.getElem?_eq_getElem h]
theorem Wk.putArr {t : TypeId} {x y : Operand} {p i : Nat} {xs : List Nat} {te : TypeId} {a : Nat} (hz : ∀ w, (sizeOf t).run P w = .ok 1 w) (hx : ev k x = some (.pointer (some ⟨p, i, none⟩))) (hy : ev k y = some (.float .f64 a)) (hb : Bk w p (arrF xs) te) (hi : i < xs.length) :
    Wk P n k w { dst := none, op := .store t x y, type := ty, pos := pos, after := aft, guard := g } (fun _ w' => Bk w' p (arrF (xs.set i a)) te ∧ Ch (Is p) w w' ∧ w'.heap.size = w.heap.size) :=
  (Wk.put hz hx hy rfl rfl hb (arrF_get hi)).mono fun _ _ h => by
    refine ⟨⟨?_⟩, h.ch, h.size⟩
    rw [h.same]
    have e : (arrF xs).setIfInBounds i (.float .f64 a) = arrF (xs.set i a) := by simp [arrF, List.map_set]
    rw [e]
theorem Bk.getF {p i : Nat} {xs : List Nat} {te : TypeId} (h : Bk w p (arrF xs) te) (hi : i < xs.length) : w.cell? ⟨p, i, none⟩ = some (.float .f64 (xs.getD i 0)) := h.cell (arrF_get hi)
end
abbrev FR (e : TypeId) (w : World) (r : Nat) (A : Option Addr) (l c : Nat) (xs : List Nat) : Prop := Ow w r e 1 A l c (xs.map flV)
theorem FR.len {e : TypeId} {w : World} {r : Nat} {A : Option Addr} {l c : Nat} {xs : List Nat} (h : FR e w r A l c xs) : xs.length = l := by
  have := Ow.len h
  simpa using this
theorem SlR.getF {S : Nat → Prop} {w : World} {A : Option Addr} {l : Nat} {xs : List Nat} (h : SlR S w A l 1 (xs.map flV)) {i : Int} (h0 : 0 ≤ i) (h1 : i < l) : w.cell? ((sAddr A).add (i.toNat * 1)) = some (.float .f64 (xs.getD i.toNat 0)) := SlR.get (f := flV) h 0 h0 h1
section
variable {P : Program} {n : Fr} {k : K} {w : World} {d : Option Tmp} {ty : TypeId} {pos : String} {aft : Array Edge} {g : Option (Nat × Bool)}
theorem Wk.mkF {t e : TypeId} {by' : Nat} {x y : Operand} {ql qc : IntKind} {l : Int} (ht : P.underlying t = some (.slice e)) (hi : Inf P e (.float .f64 0) 1 by') (hx : ev k x = some (.int ql l)) (hy : ev k y = some (.int qc l)) (h0 : 0 ≤ l) (hb : (by' : Int) * l ≤ 281474976710656) (hm : l ≤ 281474976710656) :
    Wk P n k w { dst := d, op := .makeSlice t x y, type := ty, pos := pos, after := aft, guard := g }
      (fun v w' => ∃ p, v = .slice (some ⟨p, 0, none⟩) l.toNat l.toNat ∧ FR e w' (p + 1) (some ⟨p, 0, none⟩) l.toNat l.toNat (List.replicate l.toNat 0) ∧ Ch No w w' ∧ p = w.heap.size ∧ w'.heap.size = w.heap.size + 1) :=
  (Wk.make ht hi hx hy h0 (Int.le_refl _) hb (by omega)).mono fun v w' ⟨p, hv, N⟩ => by
    rw [Nat.mul_one] at N
    have e1 : (Value.float .f64 0).cells = #[.float .f64 0] := rfl
    rw [e1, made_one] at N
    refine ⟨p, hv, ?_, N.ch, N.p, N.size⟩
    have : (List.replicate l.toNat (0 : Nat)).map flV = List.replicate l.toNat (.float .f64 0) := by simp
    show Ow _ _ _ _ _ _ _ (List.map flV _)
    rw [this]
    exact Ow.of_new N (by simp) (by simp only [maxLen]; omega)
theorem Wk.putF {t e : TypeId} {r l c i : Nat} {A : Option Addr} {xs : List Nat} {x y : Operand} {a : Nat} (hz : ∀ w, (sizeOf t).run P w = .ok 1 w) (hx : ev k x = some (.pointer (some ((sAddr A).add (i * 1))))) (hy : ev k y = some (.float .f64 a)) (hi : i < l) (hown : FR e w r A l c xs) :
    Wk P n k w { dst := none, op := .store t x y, type := ty, pos := pos, after := aft, guard := g } (fun _ w' => FR e w' r A l c (xs.set i a) ∧ Ch (At r) w w' ∧ w'.heap.size = w.heap.size) :=
  (Wk.putOw hz hx hy rfl hi hown).mono fun _ w' ⟨h1, h2, h3⟩ => ⟨by show Ow _ _ _ _ _ _ _ (List.map flV _); rw [List.map_set]; exact h1, h2, h3⟩
theorem Rn.fbits {f : FuncId} {fn : Func} {x : Operand} {ts : Array TypeId} {m : Int} (hf : P.funcs[f]? = some fn) (hname : (fn.name == "runtime.NumGoroutine") = false) (hb : fn.body.isNone = true) (hn : Extern.findNext fn = none)
    (he : Extern.find fn = some Extern.MathFloatBits.float64frombits) (hx : ev k x = some (.int .u64 m)) :
    Rn P n k w { dst := d, op := .call { callee := .value (.func f), args := #[x], argTypes := ts }, type := ty, pos := pos, after := aft, guard := g } (.float .f64 m.toNat) :=
  fun ac ha => by
    have h1 : ¬ fn.name = "runtime.NumGoroutine" := by simpa using hname
    have h2 : fn.body = none := by simpa using hb
    have h3 : ac.eval (.func f) = .func (.func f) #[] #[] := rfl
    have h4 : (Extern.MathFloatBits.float64frombits #[.int .u64 m]).run P w = .ok (.float .f64 m.toNat) w := rfl
    simp [execOp, resolve, h3, Deferred.ofValue, invoke, callFunc, hf, h1, h2, hn, he, ha.eval hx, h4]
end
def one : Fl := cn 4607182418800017408
def fl0 : Fl := cn 0
def facF : Nat → Fl
  | 0 => one
  | m + 1 => fmul (facF m) (fi ((m + 1 : Nat) : Int))
def cofF (first j i : Nat) : Fl := if 1 ≤ 2 * i + first ∧ 2 * i + first ≤ j then fquo one (facF (2 * i + first)) else fl0
def cofL (first i : Nat) : Fl := if first = 0 ∧ i = 0 then one else fquo one (facF (2 * i + first))
def hornP (first : Nat) (y : Fl) : Nat → Fl
  | 0 => cofL first 8
  | j + 1 => fsub (cofL first (7 - j)) (fmul y (hornP first y j))
def hornF (first : Nat) (y : Fl) : Fl := hornP first y 8
def halfB : Nat := 4604544271217802189
def twoPiB : Nat := 4618760256179416344
def eighF (r n : Int) : Cx :=
  if r = 0 then (one, fl0) else if 8 * r = n then (cn halfB, cn halfB) else
    (hornF 0 (fmul (fquo (fmul (cn twoPiB) (fi r)) (fi n)) (fquo (fmul (cn twoPiB) (fi r)) (fi n))), fmul (fquo (fmul (cn twoPiB) (fi r)) (fi n)) (hornF 1 (fmul (fquo (fmul (cn twoPiB) (fi r)) (fi n)) (fquo (fmul (cn twoPiB) (fi r)) (fi n)))))
def pzF (x : Fl) : Fl := x.map pzB
theorem cn_pz (b : Nat) : cn (pzB b) = pzF (cn b) := by
  unfold pzB pzF
  split
  · rename_i h
    rw [cn_eq b]
    split
    · rename_i hn
      exfalso
      have hd : (FloatKind.f64.decode b).isNaN = true := by rw [decode_nan]; simpa using hn
      obtain ⟨s, f, e⟩ := isNaN_nan hd
      have e' : Ieee.double.read b = .nan s f := e
      simp [Ieee.Format.order, e', Ieee.Datum.order] at h
    · simp [h, pzB, cn_eq]
  · rename_i h
    rw [cn_eq b]
    split
    · rfl
    · simp [h, pzB]
def turF (x : Cx) : Nat → Cx
  | 0 => x
  | q + 1 => (fneg (turF x q).2, (turF x q).1)
def pair0 (n k : Nat) : Cx :=
  if 2 * (4 * k % n) ≤ n then eighF ((4 * k % n : Nat) : Int) ((4 * n : Nat) : Int) else
    ((eighF ((n : Int) - ((4 * k % n : Nat) : Int)) ((4 * n : Nat) : Int)).2, (eighF ((n : Int) - ((4 * k % n : Nat) : Int)) ((4 * n : Nat) : Int)).1)
def pairF (n k : Nat) : Cx := (pzF (turF (pair0 n k) (4 * k / n)).1, pzF (turF (pair0 n k) (4 * k / n)).2)
def rootF (n k : Nat) : Cx := ((pairF n k).1, pzF (fneg (pairF n k).2))
def twistF (z : Cx) (n k : Nat) : Cx := if k = 0 then z else mulC z (rootF n k)
theorem tmod_mod {k : Int} {n : Nat} (hn : 0 < n) : (k.tmod n + n).tmod n = k % (n : Int) := by
  have h1 := Int.tmod_lt_of_pos k (show (0 : Int) < n by omega)
  have h2 : -(n : Int) < k.tmod n := by have := Int.tmod_lt_of_pos (-k) (show (0 : Int) < n by omega); rw [Int.neg_tmod] at this; omega
  rw [Int.tmod_eq_emod_of_nonneg (by omega)]
  have h4 : (k.tmod n + n) % (n : Int) = k.tmod n % (n : Int) := Int.add_emod_right _ _
  rw [h4, Int.tmod_def]
  have : k - (n : Int) * k.tdiv n = k + (n : Int) * (-(k.tdiv n)) := by rw [Int.mul_neg]; rfl
  rw [this, Int.add_mul_emod_self_left]
structure CofA (first j : Nat) (xs : List Nat) : Prop where
  len : xs.length = 9
  get : ∀ i, i < 9 → cn (xs.getD i 0) = cofF first j i
theorem CofA.zero (first : Nat) : CofA first 0 (List.replicate 9 0) := ⟨by simp, fun i hi => by
  rw [cofF, if_neg (by omega), List.getD, List.getElem?_replicate, if_pos hi]; rfl⟩
theorem getD_set {xs : List Nat} {i j a : Nat} (hj : j < xs.length) : (xs.set j a).getD i 0 = if i = j then a else xs.getD i 0 := by
  simp only [List.getD, List.getElem?_set]
  by_cases h : j = i
  · subst h; simp [hj]
  · have : ¬ i = j := fun e => h e.symm
    simp [h, this]
theorem CofA.put {first j : Nat} {xs : List Nat} (h : CofA first j xs) (hj : j ≤ 16 + first) {i a : Nat} (hi : 2 * i + first = j + 1) (ha : cn a = fquo one (facF (j + 1))) : CofA first (j + 1) (xs.set i a) := by
  refine ⟨by simp [h.len], fun m hm => ?_⟩
  rw [getD_set (by rw [h.len]; omega)]
  by_cases e : m = i
  · rw [if_pos e, ha, cofF, if_pos (by omega), e, hi]
  · rw [if_neg e, h.get m hm, cofF, cofF]
    by_cases c : 1 ≤ 2 * m + first ∧ 2 * m + first ≤ j
    · rw [if_pos c, if_pos (by omega)]
    · rw [if_neg c, if_neg (by omega)]
theorem CofA.skip {first j : Nat} {xs : List Nat} (h : CofA first j xs) (hn : ∀ i, 2 * i + first ≠ j + 1) : CofA first (j + 1) xs := by
  refine ⟨h.len, fun m hm => ?_⟩
  rw [h.get m hm, cofF, cofF]
  have := hn m
  by_cases c : 1 ≤ 2 * m + first ∧ 2 * m + first ≤ j
  · rw [if_pos c, if_pos (by omega)]
  · rw [if_neg c, if_neg (by omega)]
theorem CofA.last0 {xs : List Nat} (h : CofA 0 16 xs) : (xs.set 0 4607182418800017408).length = 9 ∧ ∀ i, i < 9 → cn ((xs.set 0 4607182418800017408).getD i 0) = cofL 0 i := by
  refine ⟨by simp [h.len], fun i hi => ?_⟩
  rw [getD_set (by rw [h.len]; omega)]
  by_cases e : i = 0
  · subst e; rfl
  · rw [if_neg e, h.get i hi, cofF, if_pos (by omega), cofL, if_neg (by omega)]
theorem CofA.last1 {first : Nat} {xs : List Nat} (h : CofA first (16 + first) xs) (hf : first = 1) : xs.length = 9 ∧ ∀ i, i < 9 → cn (xs.getD i 0) = cofL first i := by
  refine ⟨h.len, fun i hi => ?_⟩
  rw [h.get i hi, cofF, if_pos (by omega), cofL, if_neg (by omega)]
end Go.Tm
namespace Go.Tm
section
variable {P : Program} {n : Fr} {k : K} {w : World} {d : Option Tmp} {ty : TypeId} {pos : String} {aft : Array Edge} {g : Option (Nat × Bool)} {t t' : TypeId} {x y : Operand}
theorem Rn.neqF {q : IntKind} {a b : Int} (hx : ev k x = some (.int q a)) (hy : ev k y = some (.int q b)) (h : a = b) : Rn P n k w { dst := d, op := .binOp .neq t x y t', type := ty, pos := pos, after := aft, guard := g } (.bool false) := by
  have := Rn.neq (P := P) (n := n) (w := w) (d := d) (ty := ty) (pos := pos) (aft := aft) (g := g) (t := t) (t' := t') hx hy
  rwa [decide_eq_false (by simpa using h)] at this
theorem Rn.eqlT {q : IntKind} {a b : Int} (hx : ev k x = some (.int q a)) (hy : ev k y = some (.int q b)) (h : a = b) : Rn P n k w { dst := d, op := .binOp .eql t x y t', type := ty, pos := pos, after := aft, guard := g } (.bool true) := by
  have := Rn.eql (P := P) (n := n) (w := w) (d := d) (ty := ty) (pos := pos) (aft := aft) (g := g) (t := t) (t' := t') hx hy
  rwa [decide_eq_true h] at this
theorem Rn.feqlT {a b : Nat} (hx : ev k x = some (.float .f64 a)) (hy : ev k y = some (.float .f64 b)) (h : (Ieee.double.order a b == some .eq) = true) : Rn P n k w { dst := d, op := .binOp .eql t x y t', type := ty, pos := pos, after := aft, guard := g } (.bool true) := by
  have := Rn.feql (P := P) (n := n) (w := w) (d := d) (ty := ty) (pos := pos) (aft := aft) (g := g) (t := t) (t' := t') hx hy
  rwa [h] at this
end
abbrev IV (i : Int) : Value := .int .i64 i
abbrev IR (e : TypeId) (w : World) (r : Nat) (A : Option Addr) (l c : Nat) (xs : List Int) : Prop := Ow w r e 1 A l c (xs.map IV)
def rowI (n : Nat) (f : Nat → Int) (j : Nat) : List Int := (List.range j).map f ++ List.replicate (n - j) 0
section
variable {P : Program} {n : Fr} {k : K} {w : World} {d : Option Tmp} {ty : TypeId} {pos : String} {aft : Array Edge} {g : Option (Nat × Bool)}
end
theorem Wk.lit0 {P : Program} {n : Fr} {k : K} {w : World} {d : Option Nat} {ty : TypeId} {pos : String} {aft : Array Edge} {g : Option (Nat × Bool)} {t e : TypeId} {z : Value} {sz by' : Nat} (ht : P.underlying t = some (.slice e)) (hi : Inf P e z sz by') :
    Wk P n k w { dst := d, op := .buildSlice t 0 #[], type := ty, pos := pos, after := aft, guard := g } (fun v w' => ∃ p, v = .slice (some ⟨p, 0, none⟩) 0 0 ∧ New w w' p (.cells #[] e)) :=
  Wk.of_run fun a ha => by
    obtain ⟨i, hi, hz, hs, rfl⟩ := hi
    exact ⟨_, _, by simp [execOp, Instr.buildSlice, run_underlying ht, sizeOf, typeInfo, hi, Instr.fill, show Array.map (fun (_ : Nat) => (default : Value)) (Array.range 0) = #[] from by simp [Array.range], newRow], _, rfl, rfl, rfl⟩
theorem Ow.cap {w : World} {r : Nat} {e : TypeId} {sz : Nat} {A : Option Addr} {l c : Nat} {cs : List Value} (h : Ow w r e sz A l c cs) (hl : 0 < l) : l ≤ c := by
  obtain ⟨_, _, _, _, _, hlc, _⟩ := Ow.open' h hl
  exact hlc
end Go.Tm
