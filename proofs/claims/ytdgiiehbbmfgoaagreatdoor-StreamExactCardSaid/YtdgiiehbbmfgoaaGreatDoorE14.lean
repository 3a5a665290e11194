/- Lemmas of this claim, joined by program. Walks of functions: machines made, loaded, read. Walks of functions: a plan's transforms. Arrays of floats in an own block; roots of unity in plain Lean: series, eighths of a turn, pairs. Rules for comparisons whose outcome is known; rows of whole numbers. Walks of functions: roots of unity in general. Whole numbers as floats: sums, differences, products and quotients that are whole are exact. Conditions: each lemma names its own. -/
import Derived.Test.YtdgiiehbbmfgoaaGreatDoorE13
import Derived.Test.YtdgiiehbbmfgoaaGreatDoorE12
import Derived.Test.YtdgiiehbbmfgoaaGreatDoorE11
set_option linter.all false
namespace Go.Tm
open Go.RowKit Go.Proofs
theorem CR.sub {e : TypeId} {w : World} {r : Nat} {A : Option Addr} {l c : Nat} {xs : List CB} (h : CR e w r A l c xs) {i j : Nat} (h1 : i ≤ j) (h2 : j ≤ l) (hc : l ≤ c) : SlR (At r) w (if c = i then A else A.map (·.add (i * 1))) (j - i) 1 (((xs.drop i).take (j - i)).map cxV) := by
  have := SlR.sub (Ow.sl h) h1 h2 hc
  rw [← List.map_drop, ← List.map_take] at this
  exact this
theorem Ow.r_pos {w : World} {r : Nat} {e : TypeId} {sz : Nat} {A : Option Addr} {l c : Nat} {cs : List Value} (h : Ow w r e sz A l c cs) (hl : 0 < l) : 0 < r := by
  obtain ⟨g, cur, _, rfl, _⟩ := Ow.open' h hl
  omega
theorem cx_one (l : List CB) : (l.map cxV).all Value.oneCell' = true := by
  rw [List.all_eq_true]
  intro v hv
  obtain ⟨z, _, rfl⟩ := List.mem_map.1 hv
  rfl
theorem encB_pos (b : Bld) : 0 < (encB b).length := by
  have := uintB_ne b.steps.length
  rw [encB, List.length_append, List.length_append]; omega
set_option maxRecDepth 100000 in
theorem inf53w44 : Inf Tryz.prog 53 (.complex .f64 0 0) 1 16 := ⟨Tryz.t53, Tryz.type53, rfl, rfl, rfl⟩
set_option maxRecDepth 100000 in
theorem inf163w44 : Inf Tryz.prog 163 (.agg #[.int .i64 0, .int .i64 0, .int .i64 0, .int .i64 0, .int .i64 0, .int .i64 0, .int .i64 0]) 7 56 := ⟨Tryz.t163, Tryz.type163, rfl, rfl, rfl⟩
theorem bld165_0_1_2_3w44 {v0_0 v0_1 v0_2 v0_3 v0_4 v1 v2 v3 : Value} (h : [v1, v2, v3].all Value.oneCell' = true) (w : World) : (Instr.build 165 ([(0, .agg #[v0_0, v0_1, v0_2, v0_3, v0_4]), (1, v1), (2, v2), (3, v3)] : List (Nat × Value)).toArray).run Tryz.prog w = .ok (.agg #[v0_0, v0_1, v0_2, v0_3, v0_4, v1, v2, v3, .int .i64 0, .int .i64 0, .int .i64 0, .slice none 0 0, .int .i64 0, .int .i64 0, .int .i64 0, .int .i64 0, .int .i64 0, .int .i64 0, .int .i64 0]) w := by
  simp only [List.all_cons, Bool.and_eq_true, List.all_nil, and_true] at h
  have hv1 := oneCell_cells (v := v1) (by simp_all)
  have hv2 := oneCell_cells (v := v2) (by simp_all)
  have hv3 := oneCell_cells (v := v3) (by simp_all)
  have h1 := fill_set (fun i => ([(0, 5), (5, 1), (6, 1), (7, 1), (8, 1), (9, 1), (10, 1), (11, 1), (12, 7)] : List (Nat × Nat))[i]?) [(0, .agg #[v0_0, v0_1, v0_2, v0_3, v0_4]), (1, v1), (2, v2), (3, v3)] [.int .i64 0, .int .i64 0, .int .i64 0, .int .i64 0, .slice none 0 0, .string ⟨#[]⟩, .slice none 0 0, .int .i64 0, .int .i64 0, .int .i64 0, .int .i64 0, .slice none 0 0, .int .i64 0, .int .i64 0, .int .i64 0, .int .i64 0, .int .i64 0, .int .i64 0, .int .i64 0] (by simp [okF, agg_cells, hv1, hv2, hv3, Nat.beq, Nat.ble])
  simp [setF, agg_cells, hv1, hv2, hv3] at h1
  simp [Instr.build, Tryz.runUnderlying165, Tryz.zeroValue165, Tryz.sizeOf3, Tryz.sizeOf9, Tryz.sizeOf39, Tryz.sizeOf138, Tryz.sizeOf163, agg_cells, h1]
set_option maxHeartbeats 2000000 in
set_option maxRecDepth 100000 in
theorem m_New (b : Bld) (N : Nat) (ok : PrgOk b N) (S : Nat → Prop) (A : Option Addr) (c : Nat) (w : World) (st : StT w) (sb : SlR S w A b.steps.length 7 (flatS b.steps)) (hG : 12 ≤ w.heap.size) (okb : okB b) (hSb : ∀ y, S y → y < w.heap.size) (hne : 1 ≤ b.steps.length) :
  Calls Tryz.prog 104 #[.agg #[.int .i64 b.ln, .int .i64 b.cl, .int .i64 b.i0, .int .i64 b.ou, .slice A b.steps.length c]] w (Ret (fun v w' => ∃ m r rs SA sc CA, v = .tuple #[.pointer (some ⟨m, 0, none⟩), .nilIface] ∧ MacR w' m r b N SA sc ⟨(encB b).toArray⟩ CA (cntS b.steps) 0 0 0 (List.replicate N (0, 0)) ∧ SlR (At rs) w' SA b.steps.length 7 (flatS b.steps) ∧ (w.heap.size ≤ m ∧ w.heap.size < r ∧ w.heap.size < rs ∧ ¬ rs = r ∧ ¬ rs = m + 1) ∧ Ch No w w')) := by
 have hln := ok.ln; have hn1 := ok.n1; have hi0 := ok.i0; have hou := ok.ou; have hlen := ok.len; have hact := ok.act; have hcl := ok.cl
 have hdl0 := cntS_drop_le ok.ok 0; rw [List.drop_zero] at hdl0
 have hep := encB_pos b
 refine calls_of_VC (args := [.agg #[.int .i64 b.ln, .int .i64 b.cl, .int .i64 b.i0, .int .i64 b.ou, .slice A b.steps.length c]]) Tryz.func104 rfl Tryz.ntmps104 rfl (VC.seq (VC.region (VO.wk (Wk.box rfl) rfl rfl rfl ?_)))
 rintro _ w1 ⟨p1, rfl, N1⟩
 have c1 := N1.ch
 have e1 := N1.p; have z1 := N1.size
 have b1 := Bk.new N1
 refine VO.mv (Rn.assign rfl) rfl rfl rfl (VO.mv (Rn.assign rfl) rfl rfl rfl (VO.nil (VQ.then_code (VC.seq (VC.region (VO.mv (Rn.loads Tryz.isAgg138 Tryz.sizeOf138 rfl rfl (b1.all' rfl)) rfl rfl rfl ?_))))))
 have st_1 := st.keep c1
 have sb_1 := sb.keep c1
 refine VO.wk (Wk.call Tryz.call119 rfl (c_Acts _ _ ok _ _ _ _ st_1 sb_1 (by omega))) rfl rfl rfl ?_
 rintro _ w2 ⟨rfl, c2⟩
 have z2 := c2.size
 refine VO.mv (Rn.move rfl) rfl rfl rfl (VO.mv (Rn.extract rfl rfl) rfl rfl rfl (VO.mv (Rn.extract rfl rfl) rfl rfl rfl (VO.mv (Rn.assign rfl) rfl rfl rfl (VO.mv (Rn.assign rfl) rfl rfl rfl (VO.nil (VQ.then_code (VC.seq ?_)))))))
 refine VC.seq (VC.region (VO.mv (Rn.move rfl) rfl rfl rfl (VO.mv (Rn.nil_neq_nil Tryz.underlying29 rfl) rfl rfl rfl (VO.nil (VQ.then_code (VC.cond_false rfl (VC.skip ?_)))))))
 refine VQ.then_code (VC.seq (VC.region ?_))
 have b1_2 := b1.keep c2
 refine VO.mv (Rn.loads Tryz.isAgg138 Tryz.sizeOf138 rfl rfl (b1_2.all' rfl)) rfl rfl rfl ?_
 have st_2 := st_1.keep c2
 have sb_2 := sb_1.keep c2
 refine VO.wk (Wk.call Tryz.call120 rfl (steps_Encode b okb S _ _ _ st_2 sb_2 (fun y hy => by have := hSb y hy; omega) (by omega))) rfl rfl rfl ?_
 rintro _ w3 ⟨re3, eA3, ec3, rfl, en3, yre3, hel3, c3⟩
 have z3 := c3.size
 refine VO.mv (Rn.move rfl) rfl rfl rfl (VO.mv (Rn.extract rfl rfl) rfl rfl rfl (VO.mv (Rn.extract rfl rfl) rfl rfl rfl (VO.mv (Rn.assign rfl) rfl rfl rfl (VO.mv (Rn.assign rfl) rfl rfl rfl (VO.nil (VQ.then_code (VC.seq ?_)))))))
 refine VC.seq (VC.region (VO.mv (Rn.move rfl) rfl rfl rfl (VO.mv (Rn.nil_neq_nil Tryz.underlying29 rfl) rfl rfl rfl (VO.nil (VQ.then_code (VC.cond_false rfl (VC.skip ?_)))))))
 refine VQ.then_code (VC.seq (VC.region (VO.mv (Rn.field Tryz.underlying138 rfl Tryz.sizeOf136 rfl rfl rfl) rfl rfl rfl ?_)))
 have b1_3 := b1_2.keep c3
 refine VO.mv (Rn.load Tryz.isAgg136 rfl (b1_3.cell rfl)) rfl rfl rfl ?_
 have sb_3 := sb_2.keep c3
 refine VO.wk (Wk.append (S := _) Tryz.underlying136 inf163w44 rfl (by decide) rfl rfl (Ow.nil _ _ _) sb_3 (flatS_one _) (fun h => absurd h (by omega)) (by omega) (by simp only [maxLen]; omega)) rfl rfl rfl ?_
 rintro _ w4 ⟨r4, A4, k4, rfl, o4, c4, q4⟩
 have z4 := c4.size
 have y4 := o4.lt
 refine VO.mv (Rn.field Tryz.underlying138 rfl Tryz.sizeOf136 rfl rfl rfl) rfl rfl rfl ?_
 have b1_4 := b1_3.to c4 (by first | exact id | omega)
 refine VO.wk0 (Wk.put Tryz.sizeOf136 rfl rfl rfl rfl b1_4 rfl) rfl rfl ?_
 intro _ w5 Z5
 have c5 := Z5.ch; have z5 := Z5.size
 have b1_5 := Bk.put Z5
 refine VO.nil (VQ.then_code (VC.seq (VC.draws 10 [(0, true), (1, true), (2, true), (3, true), (4, true), (6, true), (5, false), (7, true), (8, false), (9, true)] (fun w1 w' => Ch (No) w1 w') mixed (by kernel_rfl) (fun _ _ => Ch.refl _ _) ?_)))
 intro w6 D6
 have c6 := Ch.of_drew D6; have z6 := c6.size
 have sb_4 := sb_3.to c4 (by first | exact fun _ _ _ _ => id | (intro q h1 h2 hx h3; have := hSb q h2; omega))
 have sb_5 := sb_4.to c5 (by first | exact fun _ _ _ _ => id | (intro q h1 h2 hx h3; have := hSb q h2; omega))
 have sb_6 := sb_5.keep c6
 have b1_6 := b1_5.keep c6
 have en_4 := en3.to c4 (by first | exact fun _ _ _ _ => id | (intro q h1 h2 hx h3; omega))
 have en_5 := en_4.to c5 (by first | exact fun _ _ _ _ => id | (intro q h1 h2 hx h3; omega))
 have en_6 := en_5.keep c6
 have rs_5 := o4.to c5 (by first | exact fun _ _ _ _ => id | (intro q h1 h2 hx h3; omega))
 have rs_6 := rs_5.keep c6
 refine VH.mv (fun w' hS => Rn.loads Tryz.isAgg138 Tryz.sizeOf138 rfl rfl ((b1_6.keep hS).all' rfl)) rfl rfl rfl rfl (VH.mv (fun w' hS => Rn.move rfl) rfl rfl rfl rfl (VH.mv (fun w' hS => Rn.bytes_string Tryz.underlying159 Tryz.underlying5 Tryz.underlying9 rfl hep (en_6.sl.keep hS)) rfl rfl rfl rfl (VH.mv (fun w' hS => Rn.field Tryz.underlying138 rfl Tryz.sizeOf3 rfl rfl rfl) rfl rfl rfl rfl (VH.mv (fun w' hS => Rn.load Tryz.isAgg3 rfl ((b1_6.keep hS).cell rfl)) rfl rfl rfl rfl (VH.mv (fun w' hS => Rn.move rfl) rfl rfl rfl rfl (VH.wk (Wk.mkC Tryz.underlying39 inf53w44 rfl rfl (by omega) (by omega) (by omega)) rfl rfl rfl rfl ?_))))))
 rintro _ w7 ⟨p7, rfl, o7, c7, e7, z7⟩
 have RD_7 := (Ch.refl (No) w6).and c7
 refine ⟨RD_7, ?_⟩
 refine VH.mv (fun w' hS => Rn.build rfl (bld165_0_1_2_3w44 rfl)) rfl rfl rfl rfl (VH.wk (Wk.box rfl) rfl rfl rfl rfl ?_)
 rintro _ w8 ⟨p8, rfl, N8⟩
 have c8 := N8.ch
 have e8 := N8.p; have z8 := N8.size
 have b35 := Bk.new N8
 have RD_8 := RD_7.and c8
 refine ⟨RD_8, ?_⟩
 refine VH.mv (fun w' hS => Rn.assign rfl) rfl rfl rfl rfl (VH.done (VO.mv (Rn.assign rfl) rfl rfl rfl (VO.nil (VQ.noPanic (VQ.then_code (VC.ret (VQ.ret2 rfl rfl rfl ?_)))))))
 refine Ret.mk ?_
 have hN : b.cl.toNat = N := by omega
 have row_8 := o7.keep c8
 have row9 := row_8; have bk9 := b35; rw [hN] at row9 bk9; rw [Nat.zero_add] at bk9
 have rs_8 := rs_6.keep (c7.trans c8)
 have rs9 := rs_8; rw [Nat.zero_add, List.nil_append] at rs9
 have yrs := Ow.r_pos rs9 (by omega)
 have CH_3 := (Ch.refl (No) w).and (c1.trans (c2.trans c3))
 have CH_4 : Ch (No) w w4 := CH_3.then c4 (by intro q h1 h2; rcases h2 with h2 | h2 <;> first | exact h2 | (exfalso; omega) | omega)
 have CH_5 : Ch (No) w w5 := CH_4.then c5 (by intro q h1 h2; rcases h2 with h2 | h2 <;> first | exact h2 | (exfalso; omega) | omega)
 have CH_8 := CH_5.and (c6.trans (c7.trans c8))
 exact ⟨_, _, _, _, _, _, rfl, ⟨bk9, row9, by omega⟩, rs9.sl, ⟨by omega, by omega, by omega, by omega, by omega⟩, CH_8⟩
set_option maxHeartbeats 1000000 in
set_option maxRecDepth 100000 in
theorem m_Load (m r : Nat) (b : Bld) (N : Nat) (SA : Option Addr) (sc : Nat) (bs : ByteArray) (CA : Option Addr) (ac dn st at_ : Int) (xs : List CB) (w : World) (mr : MacR w m r b N SA sc bs CA ac dn st at_ xs) (ok : PrgOk b N) (SX : Nat → Prop) (X : Option Addr) (n xc : Nat) (ys : List CB) (hn : (n : Int) = b.ln) (sx : SlR SX w X n 1 (ys.map cxV)) (hX : ∀ q, SX q → ¬ MS m r q) :
  Calls Tryz.prog 107 #[.pointer (some ⟨m, 0, none⟩), .slice X n xc] w (Ret (fun v w' => v = .nilIface ∧ MacR w' m r b N SA sc bs CA ac 0 0 0 ((List.replicate N (0, 0)).take b.i0.toNat ++ ys ++ (List.replicate N (0, 0)).drop (b.i0.toNat + n)) ∧ Ch (MS m r) w w')) := by
 obtain ⟨bk, row, ne⟩ := id mr
 have yr := Ow.lt row; have ym := bk.lt
 have hln := ok.ln; have hn1 := ok.n1; have hi0 := ok.i0; have hou := ok.ou; have hcl := ok.cl
 refine calls_of_VC (args := [.pointer (some ⟨m, 0, none⟩), .slice X n xc]) Tryz.func107 rfl Tryz.ntmps107 rfl (VC.seq (VC.region (VO.mv (Rn.assign rfl) rfl rfl rfl (VO.nil (VQ.then_code (VC.seq (VC.seq ?_)))))))
 refine VC.region (VO.mv (Rn.move rfl) rfl rfl rfl (VO.mv (Rn.len Tryz.underlying39 rfl) rfl rfl rfl (VO.mv (Rn.move rfl) rfl rfl rfl (VO.mv (Rn.nilCheck rfl) rfl rfl rfl (VO.mv (Rn.field Tryz.underlying165 rfl Tryz.sizeOf138 rfl rfl rfl) rfl rfl rfl (VO.mv (Rn.field Tryz.underlying138 rfl Tryz.sizeOf3 rfl rfl rfl) rfl rfl rfl (VO.mv (Rn.load Tryz.isAgg3 rfl (bk.cell rfl)) rfl rfl rfl ?_)))))))
 refine VO.mv (Rn.neq rfl rfl) rfl rfl rfl (VO.nil (VQ.then_code (VC.cond_if rfl (fun hc1 => ?_) (fun hc1 => ?_))))
 ·
  omega
 ·
  refine VC.skip (VQ.then_code (VC.seq (VC.region (VO.mv (Rn.move rfl) rfl rfl rfl (VO.mv (Rn.nilCheck rfl) rfl rfl rfl (VO.mv (Rn.field Tryz.underlying165 rfl Tryz.sizeOf39 rfl rfl rfl) rfl rfl rfl (VO.mv (Rn.load Tryz.isAgg39 rfl (bk.cell rfl)) rfl rfl rfl ?_)))))))
  refine VO.wk0 (Wk.clearC Tryz.underlying39 inf53w44 rfl row (by omega)) rfl rfl ?_
  rintro _ w1 ⟨row1, c1, z1⟩
  have yr1 := Ow.lt row1
  have z1 := c1.size
  refine VO.nil (VQ.then_code (VC.seq (VC.draws 12 [(0, true), (1, true), (2, true), (3, true), (4, true), (5, true), (6, true), (7, true), (8, true), (9, true), (10, true), (11, false)] (fun w1 w' => Ch (At r) w1 w') mixed (by kernel_rfl) (fun _ _ => Ch.refl _ _) ?_)))
  intro w2 D2
  have c2 := Ch.of_drew D2; have z2 := c2.size
  have bk_1 := bk.to c1 (by first | exact id | omega)
  have bk_2 := bk_1.keep c2
  have row_2 := row1.keep c2
  have sx_1 := sx.to c1 (fun _ _ h2 _ h3 => hX _ h2 (by first | exact .inr h3 | exact .inl h3 | exact h3))
  have sx_2 := sx_1.keep c2
  refine VH.mv (fun w' hS => Rn.move rfl) rfl rfl rfl rfl (VH.mv (fun w' hS => Rn.nilCheck rfl) rfl rfl rfl rfl (VH.mv (fun w' hS => Rn.field Tryz.underlying165 rfl Tryz.sizeOf39 rfl rfl rfl) rfl rfl rfl rfl (VH.mv (fun w' hS => Rn.load Tryz.isAgg39 rfl ((bk_2.to hS (by first | exact id | omega)).cell rfl)) rfl rfl rfl rfl (VH.mv (fun w' hS => Rn.move rfl) rfl rfl rfl rfl (VH.mv (fun w' hS => Rn.nilCheck rfl) rfl rfl rfl rfl (VH.mv (fun w' hS => Rn.field Tryz.underlying165 rfl Tryz.sizeOf138 rfl rfl rfl) rfl rfl rfl rfl (VH.mv (fun w' hS => Rn.field Tryz.underlying138 rfl Tryz.sizeOf3 rfl rfl rfl) rfl rfl rfl rfl ?_)))))))
  refine VH.mv (fun w' hS => Rn.load Tryz.isAgg3 rfl ((bk_2.to hS (by first | exact id | omega)).cell rfl)) rfl rfl rfl rfl (VH.mv (fun w' hS => Rn.sliceLo Tryz.underlying39 Tryz.sizeOf53 rfl rfl (by omega) (by omega) (by omega)) rfl rfl rfl rfl (VH.mv (fun w' hS => Rn.move rfl) rfl rfl rfl rfl (VH.wk (Wk.copyC Tryz.underlying39 inf53w44 rfl rfl row_2 sx_2 (by omega) (by omega)) rfl rfl rfl rfl ?_)))
  rintro _ w3 ⟨rfl, row3, c3, z3⟩
  have yr3 := Ow.lt row3
  have z3 := c3.size
  have RD_3 : Ch (At r) w2 w3 := (Ch.refl (At r) w2).then c3 (by intro q h1 h2; rcases h2 with h2 | h2 <;> first | exact h2 | (exfalso; omega) | omega)
  refine ⟨RD_3, ?_⟩
  refine VH.done (VO.nil (VQ.noPanic (VQ.then_code (VC.seq (VC.region (VO.mv (Rn.move rfl) rfl rfl rfl (VO.mv (Rn.move rfl) rfl rfl rfl ?_)))))))
  refine VO.mv (Rn.move rfl) rfl rfl rfl (VO.mv (Rn.nilCheck rfl) rfl rfl rfl (VO.mv (Rn.field Tryz.underlying165 rfl Tryz.sizeOf3 rfl rfl rfl) rfl rfl rfl ?_))
  have bk_3 := bk_2.to c3 (by first | exact id | omega)
  refine VO.wk0 (Wk.put Tryz.sizeOf3 rfl rfl rfl rfl bk_3 rfl) rfl rfl ?_
  intro _ w4 Z4
  have c4 := Z4.ch; have z4 := Z4.size
  have bk_4 := Bk.put Z4
  refine VO.mv (Rn.nilCheck rfl) rfl rfl rfl (VO.mv (Rn.field Tryz.underlying165 rfl Tryz.sizeOf3 rfl rfl rfl) rfl rfl rfl (VO.wk0 (Wk.put Tryz.sizeOf3 rfl rfl rfl rfl bk_4 rfl) rfl rfl ?_))
  intro _ w5 Z5
  have c5 := Z5.ch; have z5 := Z5.size
  have bk_5 := Bk.put Z5
  refine VO.mv (Rn.nilCheck rfl) rfl rfl rfl (VO.mv (Rn.field Tryz.underlying165 rfl Tryz.sizeOf3 rfl rfl rfl) rfl rfl rfl (VO.wk0 (Wk.put Tryz.sizeOf3 rfl rfl rfl rfl bk_5 rfl) rfl rfl ?_))
  intro _ w6 Z6
  have c6 := Z6.ch; have z6 := Z6.size
  have bk_6 := Bk.put Z6
  refine VO.nil (VQ.then_code (VC.seq (VC.region (VO.mv (Rn.assign rfl) rfl rfl rfl (VO.nil (VQ.then_code (VC.ret ?_)))))))
  refine VQ.ret1 rfl rfl (Ret.mk ?_)
  have row_4 := row3.to c4 (by first | exact fun _ _ _ _ => id | (intro q h1 h2 hx h3; omega))
  have row_5 := row_4.to c5 (by first | exact fun _ _ _ _ => id | (intro q h1 h2 hx h3; omega))
  have row_6 := row_5.to c6 (by first | exact fun _ _ _ _ => id | (intro q h1 h2 hx h3; omega))
  have CH_1 : Ch (MS m r) w w1 := (Ch.refl (MS m r) w).then c1 (by intro q h1 h2; rcases h2 with h2 | h2 <;> first | exact h2 | (exfalso; omega) | omega)
  have CH_2 := CH_1.and c2
  have CH_3 : Ch (MS m r) w w3 := CH_2.then c3 (by intro q h1 h2; rcases h2 with h2 | h2 <;> first | exact h2 | (exfalso; omega) | omega)
  have CH_4 : Ch (MS m r) w w4 := CH_3.then c4 (by intro q h1 h2; rcases h2 with h2 | h2 <;> first | exact h2 | (exfalso; omega) | omega)
  have CH_5 : Ch (MS m r) w w5 := CH_4.then c5 (by intro q h1 h2; rcases h2 with h2 | h2 <;> first | exact h2 | (exfalso; omega) | omega)
  have CH_6 : Ch (MS m r) w w6 := CH_5.then c6 (by intro q h1 h2; rcases h2 with h2 | h2 <;> first | exact h2 | (exfalso; omega) | omega)
  exact ⟨rfl, ⟨bk_6, row_6, ne⟩, CH_6⟩
set_option maxHeartbeats 1000000 in
set_option maxRecDepth 100000 in
theorem m_Out (m r : Nat) (b : Bld) (N : Nat) (SA : Option Addr) (sc : Nat) (bs : ByteArray) (CA : Option Addr) (ac st at_ : Int) (xs : List CB) (w : World) (mr : MacR w m r b N SA sc bs CA ac ac st at_ xs) (ok : PrgOk b N) (hac : 0 ≤ ac ∧ ac ≤ 1000000000) :
  Calls Tryz.prog 110 #[.pointer (some ⟨m, 0, none⟩)] w (Ret (fun v w' => ∃ r' A' c', v = .tuple #[.slice A' b.ln.toNat c', .nilIface] ∧ CR 53 w' r' A' b.ln.toNat c' ((xs.drop b.ou.toNat).take b.ln.toNat) ∧ w.heap.size < r' ∧ Ch No w w')) := by
 obtain ⟨bk, row, ne⟩ := id mr
 have yr := Ow.lt row; have ym := bk.lt
 have hln := ok.ln; have hn1 := ok.n1; have hi0 := ok.i0; have hou := ok.ou; have hcl := ok.cl
 refine calls_of_VC (args := [.pointer (some ⟨m, 0, none⟩)]) Tryz.func110 rfl Tryz.ntmps110 rfl (VC.seq (VC.region (VO.mv (Rn.assign rfl) rfl rfl rfl (VO.mv (Rn.assign rfl) rfl rfl rfl (VO.nil (VQ.then_code (VC.seq ?_)))))))
 refine VC.seq (VC.region (VO.mv (Rn.move rfl) rfl rfl rfl (VO.wk (Wk.call Tryz.call108 rfl (m_Left _ _ _ _ _ _ _ _ _ _ _ _ bk (by omega) (by omega))) rfl rfl rfl ?_)))
 rintro _ w1 ⟨rfl, c1⟩
 have z1 := c1.size
 refine VO.mv (Rn.gtr rfl rfl) rfl rfl rfl (VO.nil (VQ.then_code (VC.cond_if rfl (fun hc1 => ?_) (fun hc1 => ?_))))
 ·
  omega
 ·
  refine VC.skip (VQ.then_code (VC.seq (VC.region (VO.mv (Rn.move rfl) rfl rfl rfl (VO.mv (Rn.nilCheck rfl) rfl rfl rfl (VO.mv (Rn.field Tryz.underlying165 rfl Tryz.sizeOf138 rfl rfl rfl) rfl rfl rfl (VO.mv (Rn.field Tryz.underlying138 rfl Tryz.sizeOf3 rfl rfl rfl) rfl rfl rfl ?_)))))))
  have bk_1 := bk.keep c1
  refine VO.mv (Rn.load Tryz.isAgg3 rfl (bk_1.cell rfl)) rfl rfl rfl (VO.mv (Rn.assign rfl) rfl rfl rfl (VO.nil (VQ.then_code (VC.seq (VC.draws 15 [(0, true), (1, true), (2, true), (3, true), (4, true), (5, true), (6, true), (7, true), (8, true), (9, true), (10, true), (11, true), (12, true), (13, false), (14, true)] (fun w1 w' => Ch (At 0) w1 w') mixed (by kernel_rfl) (fun _ _ => Ch.refl _ _) ?_)))))
  intro w2 D2
  have c2 := Ch.of_drew D2; have z2 := c2.size
  have bk_2 := bk_1.keep c2
  have row_2 := row.keep (c1.trans c2)
  refine VH.mv (fun w' hS => Rn.move rfl) rfl rfl rfl rfl (VH.mv (fun w' hS => Rn.nilCheck rfl) rfl rfl rfl rfl (VH.mv (fun w' hS => Rn.field Tryz.underlying165 rfl Tryz.sizeOf39 rfl rfl rfl) rfl rfl rfl rfl (VH.mv (fun w' hS => Rn.load Tryz.isAgg39 rfl ((bk_2.to hS (by first | exact id | omega)).cell rfl)) rfl rfl rfl rfl (VH.mv (fun w' hS => Rn.move rfl) rfl rfl rfl rfl (VH.mv (fun w' hS => Rn.move rfl) rfl rfl rfl rfl (VH.mv (fun w' hS => Rn.move rfl) rfl rfl rfl rfl (VH.mv (fun w' hS => Rn.nilCheck rfl) rfl rfl rfl rfl ?_)))))))
  refine VH.mv (fun w' hS => Rn.field Tryz.underlying165 rfl Tryz.sizeOf138 rfl rfl rfl) rfl rfl rfl rfl (VH.mv (fun w' hS => Rn.field Tryz.underlying138 rfl Tryz.sizeOf3 rfl rfl rfl) rfl rfl rfl rfl (VH.mv (fun w' hS => Rn.load Tryz.isAgg3 rfl ((bk_2.to hS (by first | exact id | omega)).cell rfl)) rfl rfl rfl rfl ?_))
  refine VH.mv (fun w' hS => Rn.add rfl rfl (by rw [IntKind.wrap_i64]; omega)) rfl rfl rfl rfl ?_
  refine VH.mv (fun w' hS => Rn.sliceLH Tryz.underlying39 Tryz.sizeOf53 rfl rfl rfl (by omega) (by omega) (by omega)) rfl rfl rfl rfl ?_
  refine VH.wk (Wk.append (S := At r) Tryz.underlying39 inf53w44 rfl (by decide) rfl rfl (Ow.nil _ _ _) (CR.sub row_2 (i := b.ou.toNat) (j := (b.ou + b.ln).toNat) (by omega) (by omega) (Nat.le_refl _)) (cx_one _) (fun h => absurd h (by omega)) (by omega) (by simp only [maxLen]; omega)) rfl rfl rfl rfl ?_
  rintro _ w3 ⟨r3, A3, k3, rfl, ou3, c3, q3⟩
  have z3 := c3.size
  have RD_3 : Ch (At 0) w2 w3 := (Ch.refl (At 0) w2).then c3 (by intro q h1 h2; rcases h2 with h2 | h2 <;> first | exact h2 | (exfalso; omega) | omega)
  refine ⟨RD_3, ?_⟩
  refine VH.mv (fun w' hS => Rn.assign rfl) rfl rfl rfl rfl (VH.done (VO.mv (Rn.assign rfl) rfl rfl rfl (VO.nil (VQ.noPanic (VQ.then_code (VC.ret (VQ.ret2 rfl rfl rfl ?_)))))))
  refine Ret.mk ?_
  have hl : 0 + ((b.ou + b.ln).toNat - b.ou.toNat) = b.ln.toNat := by omega
  have ou9 := ou3; rw [hl, List.nil_append, show (b.ou + b.ln).toNat - b.ou.toNat = b.ln.toNat by omega] at ou9
  have yo := Ow.r_pos ou9 (by omega)
  have CH_2 := (Ch.refl (No) w).and (c1.trans c2)
  have CH_3 : Ch (No) w w3 := CH_2.then c3 (by intro q h1 h2; rcases h2 with h2 | h2 <;> first | exact h2 | (exfalso; omega) | omega)
  exact ⟨_, _, _, by rw [hl], ou9, by omega, CH_3⟩
end Go.Tm
namespace Go.Tm
open Go.RowKit Go.Proofs
def Upto (f : Cx → Cx) (ys zs : List CB) (j : Nat) : Prop := ∀ i, i < j → cx (zs.getD i (0, 0)) = f (cx (ys.getD i (0, 0)))
theorem set_getD {zs : List CB} {i j : Nat} {z d : CB} (hj : j < zs.length) : (zs.set j z).getD i d = if i = j then z else zs.getD i d := by
  simp only [List.getD, List.getElem?_set]
  by_cases h : j = i
  · subst h; simp [hj]
  · have : ¬ i = j := fun e => h e.symm
    simp [h, this]
theorem Upto.zero (f : Cx → Cx) (ys zs : List CB) : Upto f ys zs 0 := fun i h => absurd h (Nat.not_lt_zero i)
theorem Upto.step {f : Cx → Cx} {ys zs : List CB} {j : Nat} {z : CB} (h : Upto f ys zs j) (hj : j < zs.length) (hz : cx z = f (cx (ys.getD j (0, 0)))) : Upto f ys (zs.set j z) (j + 1) := by
  intro i hi
  rw [set_getD hj]
  by_cases e : i = j
  · subst e; rw [if_pos rfl]; exact hz
  · rw [if_neg e]; exact h i (by omega)
theorem Upto.all {f : Cx → Cx} {ys zs : List CB} {n : Nat} (h : Upto f ys zs n) (h1 : ys.length = n) (h2 : zs.length = n) : zs.map cx = (ys.map cx).map f := by
  apply List.ext_getElem
  · simp [h1, h2]
  · intro i hi hi2
    simp only [List.length_map] at hi
    have := h i (by omega)
    simp only [List.getD, List.getElem?_eq_getElem hi, List.getElem?_eq_getElem (show i < ys.length by omega), Option.getD_some] at this
    simpa using this
def loadC (N off : Nat) (zs : List Cx) : List Cx := (List.replicate N z0).take off ++ zs ++ (List.replicate N z0).drop (off + zs.length)
theorem load_map (N off n : Nat) (ys : List CB) (h : ys.length = n) : ((List.replicate N (0, 0)).take off ++ ys ++ (List.replicate N (0, 0)).drop (off + n)).map cx = loadC N off (ys.map cx) := by
  subst h
  simp [loadC, z0]
def fwdC (b : Bld) (zs : List Cx) : List Cx := ((runC b.steps (loadC b.cl.toNat b.i0.toNat zs)).drop b.ou.toNat).take b.ln.toNat
def invC (b : Bld) (zs : List Cx) : List Cx := ((fwdC b (zs.map conjC)).map conjC).map fun z => overC z b.ln
set_option maxRecDepth 100000 in
theorem inf53w45 : Inf Tryz.prog 53 (.complex .f64 0 0) 1 16 := ⟨Tryz.t53, Tryz.type53, rfl, rfl, rfl⟩
set_option maxRecDepth 100000 in
theorem inf163w45 : Inf Tryz.prog 163 (.agg #[.int .i64 0, .int .i64 0, .int .i64 0, .int .i64 0, .int .i64 0, .int .i64 0, .int .i64 0]) 7 56 := ⟨Tryz.t163, Tryz.type163, rfl, rfl, rfl⟩
theorem bld142_0_1_2w45 {v0 v1 v2 : Value} (h : [v0, v1, v2].all Value.oneCell' = true) (w : World) : (Instr.build 142 ([(0, v0), (1, v1), (2, v2)] : List (Nat × Value)).toArray).run Tryz.prog w = .ok (.agg #[v0, v1, v2]) w := by
  simp only [List.all_cons, Bool.and_eq_true, List.all_nil, and_true] at h
  have hv0 := oneCell_cells (v := v0) (by simp_all)
  have hv1 := oneCell_cells (v := v1) (by simp_all)
  have hv2 := oneCell_cells (v := v2) (by simp_all)
  have h1 := fill_set (fun i => ([(0, 1), (1, 1), (2, 1)] : List (Nat × Nat))[i]?) [(0, v0), (1, v1), (2, v2)] [.pointer none, .bool false, .pointer none] (by simp [okF, agg_cells, hv0, hv1, hv2, Nat.beq, Nat.ble])
  simp [setF, agg_cells, hv0, hv1, hv2] at h1
  simp [Instr.build, Tryz.runUnderlying142, Tryz.zeroValue142, Tryz.sizeOf4, Tryz.sizeOf70, Tryz.sizeOf133, agg_cells, h1]
set_option maxRecDepth 100000 in
theorem p_Length (lo hi p : Nat) (P : Pln) (w : World) (pl : PlnR lo hi w p P) (hh : hi ≤ w.heap.size)  :
  Calls Tryz.prog 99 #[.pointer (some ⟨p, 0, none⟩)] w (Ret (fun v w' => v = .int .i64 P.b.ln ∧ w = w')) := by
 obtain ⟨oA, oC, sA, sC, bp, pk, ps⟩ := id pl.ex; have hpa := pl.at_
 refine calls_of_VC (args := [.pointer (some ⟨p, 0, none⟩)]) Tryz.func99 rfl Tryz.ntmps99 rfl (VC.seq (VC.region (VO.mv (Rn.assign rfl) rfl rfl rfl (VO.nil (VQ.then_code (VC.seq (VC.region ?_)))))))
 refine VO.mv (Rn.move rfl) rfl rfl rfl (VO.mv (Rn.nilCheck rfl) rfl rfl rfl (VO.mv (Rn.field Tryz.underlying145 rfl Tryz.sizeOf138 rfl rfl rfl) rfl rfl rfl (VO.mv (Rn.field Tryz.underlying138 rfl Tryz.sizeOf3 rfl rfl rfl) rfl rfl rfl (VO.mv (Rn.load Tryz.isAgg3 rfl (bp.cell rfl)) rfl rfl rfl (VO.mv (Rn.assign rfl) rfl rfl rfl (VO.nil (VQ.then_code ?_)))))))
 refine VC.ret (VQ.ret1 rfl rfl (Ret.mk ?_))
 exact ⟨rfl, rfl⟩
set_option maxRecDepth 100000 in
theorem p_Program (lo hi p : Nat) (P : Pln) (w : World) (pl : PlnR lo hi w p P) (hh : hi ≤ w.heap.size) (hne : 1 ≤ P.b.steps.length) (hlen : P.b.steps.length ≤ 65536) :
  Calls Tryz.prog 105 #[.pointer (some ⟨p, 0, none⟩)] w (Ret (fun v w' => ∃ rs A c, v = .agg #[.int .i64 P.b.ln, .int .i64 P.b.cl, .int .i64 P.b.i0, .int .i64 P.b.ou, .slice A P.b.steps.length c] ∧ SlR (At rs) w' A P.b.steps.length 7 (flatS P.b.steps) ∧ w.heap.size < rs ∧ rs ≤ w'.heap.size ∧ Ch No w w')) := by
 obtain ⟨oA, oC, sA, sC, bp, pk, ps⟩ := id pl.ex; have hpa := pl.at_
 refine calls_of_VC (args := [.pointer (some ⟨p, 0, none⟩)]) Tryz.func105 rfl Tryz.ntmps105 rfl (VC.seq (VC.region (VO.wk (Wk.alloc Tryz.zeroValue138) rfl rfl rfl ?_)))
 rintro _ w1 ⟨p1, rfl, N1⟩
 have c1 := N1.ch
 have e1 := N1.p; have z1 := N1.size
 have b2 := Bk.new N1
 refine VO.nil (VQ.then_code (VC.seq (VC.region (VO.mv (Rn.move rfl) rfl rfl rfl (VO.mv (Rn.nilCheck rfl) rfl rfl rfl (VO.mv (Rn.field Tryz.underlying145 rfl Tryz.sizeOf138 rfl rfl rfl) rfl rfl rfl ?_))))))
 have bp_1 := bp.keep c1
 refine VO.mv (Rn.loads Tryz.isAgg138 Tryz.sizeOf138 rfl rfl (bp_1.part 5 rfl)) rfl rfl rfl (VO.wk (Wk.alloc Tryz.zeroValue138) rfl rfl rfl ?_)
 rintro _ w2 ⟨p2, rfl, N2⟩
 have c2 := N2.ch
 have e2 := N2.p; have z2 := N2.size
 have b3 := Bk.new N2
 refine VO.wk0 (Wk.puts Tryz.sizeOf138 rfl rfl rfl rfl b3 (Nat.le_of_ble_eq_true rfl)) rfl rfl ?_
 intro _ w3 Z3
 have c3 := Z3.ch; have z3 := Z3.size
 have b3_3 := Bk.put Z3
 refine VO.nil (VQ.then_code (VC.seq (VC.region (VO.mv (Rn.field Tryz.underlying138 rfl Tryz.sizeOf136 rfl rfl rfl) rfl rfl rfl (VO.mv (Rn.load Tryz.isAgg136 rfl (b3_3.cell rfl)) rfl rfl rfl ?_)))))
 have cc_0_3 : Ch No w w3 := (Ch.then (E := No) (c1.and c2) c3 (by intro q h1 h2; rcases h2 with h2 | h2 <;> first | exact h2 | (exfalso; omega)))
 have ps_3 := ps.keep cc_0_3
 refine VO.wk (Wk.append (S := _) Tryz.underlying136 inf163w45 rfl (by decide) rfl rfl (Ow.nil _ _ _) ps_3 (flatS_one _) (fun h => absurd h (by omega)) (by omega) (by simp only [maxLen]; omega)) rfl rfl rfl ?_
 rintro _ w4 ⟨r4, A4, k4, rfl, o4, c4, q4⟩
 have z4 := c4.size
 have y4 := o4.lt
 refine VO.mv (Rn.field Tryz.underlying138 rfl Tryz.sizeOf136 rfl rfl rfl) rfl rfl rfl ?_
 have b3_4 := b3_3.to c4 (by first | exact id | omega)
 refine VO.wk0 (Wk.put Tryz.sizeOf136 rfl rfl rfl rfl b3_4 rfl) rfl rfl ?_
 intro _ w5 Z5
 have c5 := Z5.ch; have z5 := Z5.size
 have b3_5 := Bk.put Z5
 refine VO.nil (VQ.then_code (VC.seq (VC.region (VO.mv (Rn.loads Tryz.isAgg138 Tryz.sizeOf138 rfl rfl (b3_5.all' rfl)) rfl rfl rfl ?_))))
 have cc_1_3 : Ch No w1 w3 := (Ch.then (E := No) c2 c3 (by intro q h1 h2; rcases h2 with h2 | h2 <;> first | exact h2 | (exfalso; omega)))
 have b2_3 := b2.keep cc_1_3
 have b2_4 := b2_3.to c4 (by first | exact id | omega)
 have b2_5 := b2_4.to c5 (by first | exact id | omega)
 refine VO.wk0 (Wk.puts Tryz.sizeOf138 rfl rfl rfl rfl b2_5 (Nat.le_of_ble_eq_true rfl)) rfl rfl ?_
 intro _ w6 Z6
 have c6 := Z6.ch; have z6 := Z6.size
 have b2_6 := Bk.put Z6
 refine VO.nil (VQ.then_code (VC.ret (VQ.retc rfl rfl Tryz.isAgg138 Tryz.sizeOf138 rfl (b2_6.all' rfl) (Ret.mk ?_))))
 have rs_5 := o4.to c5 (by first | exact fun _ _ _ _ => id | (intro q h1 h2 hx h3; omega))
 have rs_6 := rs_5.to c6 (by first | exact fun _ _ _ _ => id | (intro q h1 h2 hx h3; omega))
 have rs9 := rs_6; rw [Nat.zero_add, List.nil_append] at rs9
 have yrs := Ow.r_pos rs9 (by omega); have yr2 := rs9.lt
 have CH_3 := (Ch.refl (No) w).and cc_0_3
 have CH_4 : Ch (No) w w4 := CH_3.then c4 (by intro q h1 h2; rcases h2 with h2 | h2 <;> first | exact h2 | (exfalso; omega) | omega)
 have CH_5 : Ch (No) w w5 := CH_4.then c5 (by intro q h1 h2; rcases h2 with h2 | h2 <;> first | exact h2 | (exfalso; omega) | omega)
 have CH_6 : Ch (No) w w6 := CH_5.then c6 (by intro q h1 h2; rcases h2 with h2 | h2 <;> first | exact h2 | (exfalso; omega) | omega)
 exact ⟨_, _, _, congrArg (fun l => Value.agg #[.int .i64 P.b.ln, .int .i64 P.b.cl, .int .i64 P.b.i0, .int .i64 P.b.ou, .slice A4 l k4]) (Nat.zero_add P.b.steps.length), rs9.sl, by omega, by omega, CH_6⟩
set_option maxRecDepth 100000 in
theorem p_conj (SX : Nat → Prop) (X : Option Addr) (n xc : Nat) (ys : List CB) (w : World) (sx : SlR SX w X n 1 (ys.map cxV)) (hX : ∀ q, SX q → q < w.heap.size) (hn : n ≤ 16384)  :
  Calls Tryz.prog 106 #[.slice X n xc] w (Ret (fun v w' => ∃ q zs, v = .slice (some ⟨q, 0, none⟩) n n ∧ CR 53 w' (q + 1) (some ⟨q, 0, none⟩) n n zs ∧ zs.map cx = (ys.map cx).map conjC ∧ w.heap.size ≤ q ∧ Ch No w w')) := by
 have hyl : ys.length = n := by have := sx.len; simpa using this
 refine calls_of_VC (args := [.slice X n xc]) Tryz.func106 rfl Tryz.ntmps106 rfl (VC.seq (VC.region (VO.mv (Rn.assign rfl) rfl rfl rfl (VO.nil (VQ.then_code (VC.seq (VC.region ?_)))))))
 refine VO.mv (Rn.move rfl) rfl rfl rfl (VO.mv (Rn.len Tryz.underlying39 rfl) rfl rfl rfl (VO.wk (Wk.mkC Tryz.underlying39 inf53w45 rfl rfl (by omega) (by omega) (by omega)) rfl rfl rfl ?_))
 rintro _ w1 ⟨p1, rfl, o1, c1, e1, z1⟩
 refine VO.mv (Rn.assign rfl) rfl rfl rfl (VO.nil (VQ.then_code (VC.seq (VC.seq (VC.region (VO.mv (Rn.move rfl) rfl rfl rfl (VO.mv (Rn.len Tryz.underlying39 rfl) rfl rfl rfl ?_)))))))
 refine VO.mv (Rn.move rfl) rfl rfl rfl (VO.nil (VQ.then_code (VC.block ?_)))
 have sx_1 := sx.keep c1
 have CH_1 := (Ch.refl (No) w).and c1
 refine VC.loopS (σ := Nat × List CB) (fun (j, zs) => [(3, .slice (some ⟨p1, 0, none⟩) n n), (9, .slice X n xc), (10, .int .i64 n), (11, .int .i64 j)]) (fun (j, zs) w' => j ≤ n ∧ Upto conjC ys zs j ∧ w1.heap.size ≤ w'.heap.size ∧ CR 53 w' (p1 + 1) (some ⟨p1, 0, none⟩) n n zs ∧ SlR SX w' X n 1 (ys.map cxV) ∧ Ch (No) w w') (fun (j, zs) => n - j) (0, List.replicate n (0, 0)) ?_ ⟨rfl, rfl, rfl, rfl, trivial⟩ ?_
 · exact ⟨(by omega), (Upto.zero _ _ _), (Nat.le_refl _), o1, sx_1, CH_1⟩
 rintro ⟨j, zs⟩ w2 ⟨hj, hu, hsz2, row_2, sx_2, CH_2⟩
 show VC _ _ _ _ [(3, .slice (some ⟨p1, 0, none⟩) n n), (9, .slice X n xc), (10, .int .i64 n), (11, .int .i64 j)] _
 have hzl := CR.len row_2
 refine VC.seq (VC.region (VO.mv (Rn.lss rfl rfl) rfl rfl rfl (VO.nil (VQ.then_code (VC.seq (VC.cond_if rfl (fun hc1 => ?_) (fun hc1 => ?_)))))))
 ·
  refine VC.skip (VQ.then_code (VC.seq (VC.block (VC.seq (VC.region (VO.mv (Rn.move rfl) rfl rfl rfl (VO.mv (Rn.indexS Tryz.underlying39 Tryz.sizeOf53 rfl rfl (sx_2.ne (by omega)) (by omega) (by omega)) rfl rfl rfl ?_)))))))
  refine VO.mv (Rn.load Tryz.isAgg53 rfl (sx_2.getC (by omega) (by omega))) rfl rfl rfl (VO.mv (Rn.assign rfl) rfl rfl rfl (VO.mv (Rn.assign rfl) rfl rfl rfl (VO.nil (VQ.then_code (VC.region (VO.mv (Rn.move rfl) rfl rfl rfl (VO.mv (Rn.move rfl) rfl rfl rfl ?_)))))))
  refine VO.mv (Rn.move rfl) rfl rfl rfl (VO.wk (Wk.call Tryz.call47 rfl (cplx_Conj _ _ _)) rfl rfl rfl ?_)
  rintro _ w3 ⟨p3, q3, rfl, F3, c3⟩
  have z3 := c3.size
  have row_3 := row_2.keep c3
  refine VO.mv (Rn.indexS Tryz.underlying39 Tryz.sizeOf53 rfl rfl (row_3.sl.ne (by omega)) (by omega) (by omega)) rfl rfl rfl (VO.wk0 (Wk.putC Tryz.sizeOf53 rfl rfl (by omega) row_3) rfl rfl ?_)
  rintro _ w4 ⟨o4, c4, z4⟩
  have y4 := o4.lt
  refine VO.nil (VQ.block_normal (VQ.then_code (VC.region ?_)))
  refine VO.mv (Rn.add rfl rfl (by rw [IntKind.wrap_i64]; omega)) rfl rfl rfl ?_
  refine VO.mv (Rn.move rfl) rfl rfl rfl (VO.nil ?_)
  refine VQ.round (j + 1, zs.set j (p3, q3)) (by first | omega | (dsimp only; omega)) ?_ ⟨rfl, rfl, rfl, rfl, trivial⟩
  have sx_3 := sx_2.keep c3
  have sx_4 := sx_3.to c4 (by first | exact fun _ _ _ _ => id | (intro q h1 h2 hx h3; have := hX q h2; omega))
  have CH_3 := CH_2.and c3
  have CH_4 : Ch (No) w w4 := CH_3.then c4 (by intro q h1 h2; rcases h2 with h2 | h2 <;> first | exact h2 | (exfalso; omega) | omega)
  exact ⟨(by omega), (hu.step (by omega) (by rw [F3, Int.toNat_natCast])), (by omega), o4, sx_4, CH_4⟩
 ·
  refine VC.exit (VQ.then_exit (VQ.then_exit (VQ.block_exit (VQ.then_code (VC.seq (VC.region (VO.mv (Rn.move rfl) rfl rfl rfl ?_)))))))
  refine VO.mv (Rn.assign rfl) rfl rfl rfl (VO.nil (VQ.then_code (VC.ret (VQ.ret1 rfl rfl (Ret.mk ?_)))))
  have e : j = n := by omega
  rw [e] at hu
  exact ⟨_, _, rfl, row_2, hu.all hyl hzl, by omega, CH_2⟩
set_option maxHeartbeats 1000000 in
set_option maxRecDepth 100000 in
theorem p_Begin0 (lo hi p : Nat) (P : Pln) (SX : Nat → Prop) (X : Option Addr) (n xc : Nat) (ys : List CB) (w : World) (sx : SlR SX w X n 1 (ys.map cxV)) (hX : ∀ q, SX q → q < w.heap.size) (pl : PlnR lo hi w p P) (hh : hi ≤ w.heap.size) (N : Nat) (ok : PrgOk P.b N) (okb : okB P.b) (hne : 1 ≤ P.b.steps.length) (hn : (n : Int) = P.b.ln) (st : StT w) (hG : 12 ≤ w.heap.size)  :
  Calls Tryz.prog 91 #[.pointer (some ⟨p, 0, none⟩), .slice X n xc, .bool false] w (Ret (fun v w' => ∃ q m r rs SA sc CA xs, v = .tuple #[.pointer (some ⟨q, 0, none⟩), .nilIface] ∧ Bk w' q #[.pointer (some ⟨p, 0, none⟩), .bool false, .pointer (some ⟨m, 0, none⟩)] 142 ∧ MacR w' m r P.b N SA sc ⟨(encB P.b).toArray⟩ CA (cntS P.b.steps) 0 0 0 xs ∧ xs.map cx = loadC N P.b.i0.toNat (ys.map cx) ∧ SlR (At rs) w' SA P.b.steps.length 7 (flatS P.b.steps) ∧ (w.heap.size ≤ q ∧ w.heap.size ≤ m ∧ w.heap.size < r ∧ w.heap.size < rs ∧ ¬ rs = r ∧ ¬ rs = m + 1 ∧ ¬ q = m ∧ ¬ r = q + 1) ∧ Ch No w w')) := by
 have hln := ok.ln; have hn1 := ok.n1; have hcl := ok.cl; have hlen := ok.len
 have hyl : ys.length = n := by have := sx.len; simpa using this
 refine calls_of_VC (args := [.pointer (some ⟨p, 0, none⟩), .slice X n xc, .bool false]) Tryz.func91 rfl Tryz.ntmps91 rfl (VC.seq (VC.region (VO.mv (Rn.assign rfl) rfl rfl rfl (VO.mv (Rn.assign rfl) rfl rfl rfl (VO.nil (VQ.then_code (VC.seq ?_)))))))
 refine VC.seq (VC.region (VO.mv (Rn.move rfl) rfl rfl rfl (VO.mv (Rn.len Tryz.underlying39 rfl) rfl rfl rfl (VO.mv (Rn.move rfl) rfl rfl rfl (VO.wk (Wk.call Tryz.call99 rfl (p_Length _ _ _ _ _ pl (by omega))) rfl rfl rfl ?_)))))
 rintro _ _ ⟨rfl, rfl⟩
 refine VO.mv (Rn.neq rfl rfl) rfl rfl rfl (VO.nil (VQ.then_code (VC.cond_if rfl (fun hc1 => ?_) (fun hc1 => ?_))))
 ·
  omega
 ·
  refine VC.skip (VQ.then_code (VC.seq (VC.region (VO.mv (Rn.move rfl) rfl rfl rfl (VO.wk (Wk.call Tryz.call105 rfl (p_Program _ _ _ _ _ pl (by omega) hne hlen)) rfl rfl rfl ?_)))))
  rintro _ w1 ⟨r1, A1, k1, rfl, pg1, yr1, yr21, c1⟩
  have z1 := c1.size
  have st_1 := st.keep c1
  refine VO.wk (Wk.call Tryz.call104 rfl (m_New _ _ ok _ _ _ _ st_1 pg1 (by omega) okb (fun y hy => by omega) hne)) rfl rfl rfl ?_
  rintro _ w2 ⟨m2, r2, rs2, sA2, sc2, cA2, rfl, mac2, ss2, hb2, c2⟩
  have ym2 := mac2.bk.lt; have yr2 := Ow.lt mac2.row
  have z2 := c2.size
  refine VO.mv (Rn.move rfl) rfl rfl rfl (VO.mv (Rn.extract rfl rfl) rfl rfl rfl (VO.mv (Rn.extract rfl rfl) rfl rfl rfl (VO.mv (Rn.assign rfl) rfl rfl rfl (VO.mv (Rn.assign rfl) rfl rfl rfl (VO.nil (VQ.then_code (VC.seq ?_)))))))
  refine VC.seq (VC.region (VO.mv (Rn.move rfl) rfl rfl rfl (VO.mv (Rn.nil_neq_nil Tryz.underlying29 rfl) rfl rfl rfl (VO.nil (VQ.then_code (VC.cond_false rfl (VC.skip ?_)))))))
  refine VQ.then_code (VC.seq (VC.seq (VC.region (VO.mv (Rn.move rfl) rfl rfl rfl (VO.nil (VQ.then_code (VC.cond_false rfl ?_)))))))
  refine VC.skip (VQ.then_code (VC.seq (VC.seq (VC.region (VO.mv (Rn.move rfl) rfl rfl rfl (VO.mv (Rn.move rfl) rfl rfl rfl ?_))))))
  have sx_2 := sx.keep (c1.trans c2)
  refine VO.wk (Wk.call Tryz.call107 rfl (m_Load _ _ _ _ _ _ _ _ _ _ _ _ _ _ mac2 ok _ _ n _ _ hn sx_2 (fun q hq hm => by have := hX q hq; omega))) rfl rfl rfl ?_
  rintro _ w3 ⟨rfl, mac3, c3⟩
  have z3 := c3.size
  refine VO.mv (Rn.assign rfl) rfl rfl rfl (VO.nil (VQ.then_code (VC.seq (VC.region (VO.mv (Rn.move rfl) rfl rfl rfl (VO.mv (Rn.nil_neq_nil Tryz.underlying29 rfl) rfl rfl rfl (VO.nil ?_)))))))
  refine VQ.then_code (VC.cond_false rfl (VC.skip (VQ.then_code (VC.seq (VC.region (VO.mv (Rn.move rfl) rfl rfl rfl (VO.mv (Rn.move rfl) rfl rfl rfl ?_)))))))
  refine VO.mv (Rn.move rfl) rfl rfl rfl (VO.mv (Rn.build rfl (bld142_0_1_2w45 rfl)) rfl rfl rfl (VO.wk (Wk.box rfl) rfl rfl rfl ?_))
  rintro _ w4 ⟨p4, rfl, N4⟩
  have c4 := N4.ch
  have e4 := N4.p; have z4 := N4.size
  have b39 := Bk.new N4
  refine VO.mv (Rn.assign rfl) rfl rfl rfl (VO.mv (Rn.assign rfl) rfl rfl rfl (VO.nil (VQ.then_code (VC.ret (VQ.ret2 rfl rfl rfl (Ret.mk ?_))))))
  obtain ⟨hb1, hb2, hb3, hb4, hb5⟩ := hb2
  have mac_4 := mac3.keep c4
  have ss_3 := ss2.to c3 (by first | exact fun _ _ _ _ => id | (intro q h1 h2 hx h3; omega))
  have ss_4 := ss_3.keep c4
  have CH_2 := (Ch.refl (No) w).and (c1.trans c2)
  have CH_3 : Ch (No) w w3 := CH_2.then c3 (by intro q h1 h2; rcases h2 with h2 | h2 <;> first | exact h2 | (exfalso; omega) | omega)
  have CH_4 := CH_3.and c4
  exact ⟨_, _, _, _, _, _, _, _, rfl, b39, mac_4, load_map _ _ _ _ hyl, ss_4, ⟨by omega, by omega, by omega, by omega, by omega, by omega, by omega, by omega⟩, CH_4⟩
set_option maxHeartbeats 1000000 in
set_option maxRecDepth 100000 in
theorem p_Begin1 (lo hi p : Nat) (P : Pln) (SX : Nat → Prop) (X : Option Addr) (n xc : Nat) (ys : List CB) (w : World) (sx : SlR SX w X n 1 (ys.map cxV)) (hX : ∀ q, SX q → q < w.heap.size) (pl : PlnR lo hi w p P) (hh : hi ≤ w.heap.size) (N : Nat) (ok : PrgOk P.b N) (okb : okB P.b) (hne : 1 ≤ P.b.steps.length) (hn : (n : Int) = P.b.ln) (st : StT w) (hG : 12 ≤ w.heap.size)  :
  Calls Tryz.prog 91 #[.pointer (some ⟨p, 0, none⟩), .slice X n xc, .bool true] w (Ret (fun v w' => ∃ q m r rs SA sc CA xs, v = .tuple #[.pointer (some ⟨q, 0, none⟩), .nilIface] ∧ Bk w' q #[.pointer (some ⟨p, 0, none⟩), .bool true, .pointer (some ⟨m, 0, none⟩)] 142 ∧ MacR w' m r P.b N SA sc ⟨(encB P.b).toArray⟩ CA (cntS P.b.steps) 0 0 0 xs ∧ xs.map cx = loadC N P.b.i0.toNat ((ys.map cx).map conjC) ∧ SlR (At rs) w' SA P.b.steps.length 7 (flatS P.b.steps) ∧ (w.heap.size ≤ q ∧ w.heap.size ≤ m ∧ w.heap.size < r ∧ w.heap.size < rs ∧ ¬ rs = r ∧ ¬ rs = m + 1 ∧ ¬ q = m ∧ ¬ r = q + 1) ∧ Ch No w w')) := by
 have hln := ok.ln; have hn1 := ok.n1; have hcl := ok.cl; have hlen := ok.len
 have hyl : ys.length = n := by have := sx.len; simpa using this
 refine calls_of_VC (args := [.pointer (some ⟨p, 0, none⟩), .slice X n xc, .bool true]) Tryz.func91 rfl Tryz.ntmps91 rfl (VC.seq (VC.region (VO.mv (Rn.assign rfl) rfl rfl rfl (VO.mv (Rn.assign rfl) rfl rfl rfl (VO.nil (VQ.then_code (VC.seq ?_)))))))
 refine VC.seq (VC.region (VO.mv (Rn.move rfl) rfl rfl rfl (VO.mv (Rn.len Tryz.underlying39 rfl) rfl rfl rfl (VO.mv (Rn.move rfl) rfl rfl rfl (VO.wk (Wk.call Tryz.call99 rfl (p_Length _ _ _ _ _ pl (by omega))) rfl rfl rfl ?_)))))
 rintro _ _ ⟨rfl, rfl⟩
 refine VO.mv (Rn.neq rfl rfl) rfl rfl rfl (VO.nil (VQ.then_code (VC.cond_if rfl (fun hc1 => ?_) (fun hc1 => ?_))))
 ·
  omega
 ·
  refine VC.skip (VQ.then_code (VC.seq (VC.region (VO.mv (Rn.move rfl) rfl rfl rfl (VO.wk (Wk.call Tryz.call105 rfl (p_Program _ _ _ _ _ pl (by omega) hne hlen)) rfl rfl rfl ?_)))))
  rintro _ w1 ⟨r1, A1, k1, rfl, pg1, yr1, yr21, c1⟩
  have z1 := c1.size
  have st_1 := st.keep c1
  refine VO.wk (Wk.call Tryz.call104 rfl (m_New _ _ ok _ _ _ _ st_1 pg1 (by omega) okb (fun y hy => by omega) hne)) rfl rfl rfl ?_
  rintro _ w2 ⟨m2, r2, rs2, sA2, sc2, cA2, rfl, mac2, ss2, hb2, c2⟩
  have ym2 := mac2.bk.lt; have yr2 := Ow.lt mac2.row
  have z2 := c2.size
  refine VO.mv (Rn.move rfl) rfl rfl rfl (VO.mv (Rn.extract rfl rfl) rfl rfl rfl (VO.mv (Rn.extract rfl rfl) rfl rfl rfl (VO.mv (Rn.assign rfl) rfl rfl rfl (VO.mv (Rn.assign rfl) rfl rfl rfl (VO.nil (VQ.then_code (VC.seq ?_)))))))
  refine VC.seq (VC.region (VO.mv (Rn.move rfl) rfl rfl rfl (VO.mv (Rn.nil_neq_nil Tryz.underlying29 rfl) rfl rfl rfl (VO.nil (VQ.then_code (VC.cond_false rfl (VC.skip ?_)))))))
  refine VQ.then_code (VC.seq (VC.seq (VC.region (VO.mv (Rn.move rfl) rfl rfl rfl (VO.nil (VQ.then_code (VC.cond_true rfl ?_)))))))
  refine VC.region (VO.mv (Rn.move rfl) rfl rfl rfl ?_)
  have sx_2 := sx.keep (c1.trans c2)
  refine VO.wk (Wk.call Tryz.call106 rfl (p_conj _ _ _ _ _ _ sx_2 (fun q hq => by have := hX q hq; omega) (by omega))) rfl rfl rfl ?_
  rintro _ w3 ⟨q3, zs3, rfl, cj3, hz3, e3, c3⟩
  have ycj3 := Ow.lt cj3
  have z3 := c3.size
  refine VO.mv (Rn.assign rfl) rfl rfl rfl (VO.nil (VQ.then_code (VC.seq (VC.seq (VC.region (VO.mv (Rn.move rfl) rfl rfl rfl (VO.mv (Rn.move rfl) rfl rfl rfl ?_)))))))
  have mac_3 := mac2.keep c3
  refine VO.wk (Wk.call Tryz.call107 rfl (m_Load _ _ _ _ _ _ _ _ _ _ _ _ _ _ mac_3 ok _ _ n _ _ hn cj3.sl (fun q hq hm => by omega))) rfl rfl rfl ?_
  rintro _ w4 ⟨rfl, mac4, c4⟩
  have z4 := c4.size
  refine VO.mv (Rn.assign rfl) rfl rfl rfl (VO.nil (VQ.then_code (VC.seq (VC.region (VO.mv (Rn.move rfl) rfl rfl rfl (VO.mv (Rn.nil_neq_nil Tryz.underlying29 rfl) rfl rfl rfl (VO.nil ?_)))))))
  refine VQ.then_code (VC.cond_false rfl (VC.skip (VQ.then_code (VC.seq (VC.region (VO.mv (Rn.move rfl) rfl rfl rfl (VO.mv (Rn.move rfl) rfl rfl rfl ?_)))))))
  refine VO.mv (Rn.move rfl) rfl rfl rfl (VO.mv (Rn.build rfl (bld142_0_1_2w45 rfl)) rfl rfl rfl (VO.wk (Wk.box rfl) rfl rfl rfl ?_))
  rintro _ w5 ⟨p5, rfl, N5⟩
  have c5 := N5.ch
  have e5 := N5.p; have z5 := N5.size
  have b39 := Bk.new N5
  refine VO.mv (Rn.assign rfl) rfl rfl rfl (VO.mv (Rn.assign rfl) rfl rfl rfl (VO.nil (VQ.then_code (VC.ret (VQ.ret2 rfl rfl rfl (Ret.mk ?_))))))
  obtain ⟨hb1, hb2, hb3, hb4, hb5⟩ := hb2
  have mac_5 := mac4.keep c5
  have ss_3 := ss2.keep c3
  have ss_4 := ss_3.to c4 (by first | exact fun _ _ _ _ => id | (intro q h1 h2 hx h3; omega))
  have ss_5 := ss_4.keep c5
  have CH_3 := (Ch.refl (No) w).and (c1.trans (c2.trans c3))
  have CH_4 : Ch (No) w w4 := CH_3.then c4 (by intro q h1 h2; rcases h2 with h2 | h2 <;> first | exact h2 | (exfalso; omega) | omega)
  have CH_5 := CH_4.and c5
  exact ⟨_, _, _, _, _, _, _, _, rfl, b39, mac_5, (by rw [load_map _ _ _ _ (CR.len cj3), hz3]), ss_5, ⟨by omega, by omega, by omega, by omega, by omega, by omega, by omega, by omega⟩, CH_5⟩
set_option maxRecDepth 100000 in
theorem r_Left (q p m r : Nat) (b : Bld) (N : Nat) (SA : Option Addr) (sc : Nat) (bs : ByteArray) (CA : Option Addr) (ac dn sn at_ : Int) (xs : List CB) (w : World) (I : Bool) (rb : Bk w q #[.pointer (some ⟨p, 0, none⟩), .bool I, .pointer (some ⟨m, 0, none⟩)] 142) (mac : MacR w m r b N SA sc bs CA ac dn sn at_ xs) (hac : 0 ≤ ac ∧ ac ≤ 1000000000) (hdn : 0 ≤ dn ∧ dn ≤ 1000000000) :
  Calls Tryz.prog 92 #[.pointer (some ⟨q, 0, none⟩)] w (Ret (fun v w' => v = .int .i64 (ac - dn) ∧ Ch No w w')) := by
 refine calls_of_VC (args := [.pointer (some ⟨q, 0, none⟩)]) Tryz.func92 rfl Tryz.ntmps92 rfl (VC.seq (VC.region (VO.mv (Rn.assign rfl) rfl rfl rfl (VO.nil (VQ.then_code (VC.seq (VC.region ?_)))))))
 refine VO.mv (Rn.move rfl) rfl rfl rfl (VO.mv (Rn.nilCheck rfl) rfl rfl rfl (VO.mv (Rn.field Tryz.underlying142 rfl Tryz.sizeOf133 rfl rfl rfl) rfl rfl rfl (VO.mv (Rn.load Tryz.isAgg133 rfl (rb.cell rfl)) rfl rfl rfl (VO.wk (Wk.call Tryz.call108 rfl (m_Left _ _ _ _ _ _ _ _ _ _ _ _ mac.bk (by omega) (by omega))) rfl rfl rfl ?_))))
 rintro _ w1 ⟨rfl, c1⟩
 have z1 := c1.size
 refine VO.mv (Rn.assign rfl) rfl rfl rfl (VO.nil (VQ.then_code (VC.ret (VQ.ret1 rfl rfl (Ret.mk ?_)))))
 have CH_1 := (Ch.refl (No) w).and c1
 exact ⟨rfl, CH_1⟩
set_option maxRecDepth 100000 in
theorem r_Do (q p m r : Nat) (b : Bld) (N : Nat) (SA : Option Addr) (sc : Nat) (bs : ByteArray) (CA : Option Addr) (ac : Int) (xs : List CB) (w : World) (I : Bool) (rb : Bk w q #[.pointer (some ⟨p, 0, none⟩), .bool I, .pointer (some ⟨m, 0, none⟩)] 142) (mac : MacR w m r b N SA sc bs CA ac 0 0 0 xs) (hN : N ≤ 1000000) (hac : ac = cntS b.steps) (hac1 : 1 ≤ ac) (hac2 : ac ≤ 100000000) (hok : ∀ s ∈ b.steps, StepOk s N) (hl : b.steps.length ≤ 1000000) (S : Nat → Prop) (hS : ∀ q, S q → ¬ MS m r q) (ss : SlR S w SA b.steps.length 7 (flatS b.steps)) (z : Int) (hz : ac = z) :
  Calls Tryz.prog 93 #[.pointer (some ⟨q, 0, none⟩), .int .i64 z] w (Ret (fun v w' => v = .tuple #[.int .i64 ac, .nilIface] ∧ ∃ ys, MacR w' m r b N SA sc bs CA ac ac b.steps.length 0 ys ∧ ys.map cx = runC b.steps (xs.map cx) ∧ Ch (MS m r) w w')) := by
 refine calls_of_VC (args := [.pointer (some ⟨q, 0, none⟩), .int .i64 z]) Tryz.func93 rfl Tryz.ntmps93 rfl ?_
 subst hz
 refine VC.seq (VC.region (VO.mv (Rn.assign rfl) rfl rfl rfl (VO.mv (Rn.assign rfl) rfl rfl rfl (VO.nil (VQ.then_code (VC.seq (VC.region ?_)))))))
 refine VO.mv (Rn.move rfl) rfl rfl rfl (VO.mv (Rn.nilCheck rfl) rfl rfl rfl (VO.mv (Rn.field Tryz.underlying142 rfl Tryz.sizeOf133 rfl rfl rfl) rfl rfl rfl (VO.mv (Rn.load Tryz.isAgg133 rfl (rb.cell rfl)) rfl rfl rfl (VO.mv (Rn.move rfl) rfl rfl rfl (VO.wk (Wk.call Tryz.call109 rfl (m_Run m r b N SA sc bs CA ac xs _ mac (by omega) hac hac1 hac2 hok hl S hS ss)) rfl rfl rfl ?_)))))
 rintro _ w1 ⟨rfl, ys1, mac1, hy1, c1⟩
 have z1 := c1.size
 refine VO.mv (Rn.extract rfl rfl) rfl rfl rfl (VO.mv (Rn.extract rfl rfl) rfl rfl rfl (VO.mv (Rn.assign rfl) rfl rfl rfl (VO.mv (Rn.assign rfl) rfl rfl rfl (VO.nil (VQ.then_code (VC.ret (VQ.ret2 rfl rfl rfl ?_)))))))
 refine Ret.mk ?_
 have CH_1 : Ch (MS m r) w w1 := (Ch.refl (MS m r) w).then c1 (by intro q h1 h2; rcases h2 with h2 | h2 <;> first | exact h2 | (exfalso; omega) | omega)
 exact ⟨rfl, _, mac1, hy1, CH_1⟩
set_option maxHeartbeats 1000000 in
set_option maxRecDepth 100000 in
theorem r_Result0 (q p m r : Nat) (b : Bld) (N : Nat) (SA : Option Addr) (sc : Nat) (bs : ByteArray) (CA : Option Addr) (ac : Int) (xs : List CB) (w : World) (rb : Bk w q #[.pointer (some ⟨p, 0, none⟩), .bool false, .pointer (some ⟨m, 0, none⟩)] 142) (mac : MacR w m r b N SA sc bs CA ac ac b.steps.length 0 xs) (ok : PrgOk b N) (hac : 0 ≤ ac ∧ ac ≤ 1000000000) :
  Calls Tryz.prog 94 #[.pointer (some ⟨q, 0, none⟩)] w (Ret (fun v w' => ∃ r' A' c' zs, v = .tuple #[.slice A' b.ln.toNat c', .nilIface] ∧ CR 53 w' r' A' b.ln.toNat c' zs ∧ zs.map cx = ((xs.map cx).drop b.ou.toNat).take b.ln.toNat ∧ w.heap.size < r' ∧ Ch No w w')) := by
 have hln := ok.ln
 refine calls_of_VC (args := [.pointer (some ⟨q, 0, none⟩)]) Tryz.func94 rfl Tryz.ntmps94 rfl (VC.seq (VC.region (VO.mv (Rn.assign rfl) rfl rfl rfl (VO.mv (Rn.assign rfl) rfl rfl rfl (VO.nil (VQ.then_code (VC.seq ?_)))))))
 refine VC.region (VO.mv (Rn.move rfl) rfl rfl rfl (VO.mv (Rn.nilCheck rfl) rfl rfl rfl (VO.mv (Rn.field Tryz.underlying142 rfl Tryz.sizeOf133 rfl rfl rfl) rfl rfl rfl (VO.mv (Rn.load Tryz.isAgg133 rfl (rb.cell rfl)) rfl rfl rfl (VO.wk (Wk.call Tryz.call110 rfl (m_Out _ _ _ _ _ _ _ _ _ _ _ _ _ mac ok (by omega))) rfl rfl rfl ?_)))))
 rintro _ w1 ⟨r1, A1, k1, rfl, out1, yo1, c1⟩
 have z1 := c1.size
 refine VO.mv (Rn.move rfl) rfl rfl rfl (VO.mv (Rn.extract rfl rfl) rfl rfl rfl (VO.mv (Rn.extract rfl rfl) rfl rfl rfl (VO.mv (Rn.assign rfl) rfl rfl rfl (VO.mv (Rn.assign rfl) rfl rfl rfl (VO.nil (VQ.then_code (VC.seq ?_)))))))
 refine VC.seq (VC.region (VO.mv (Rn.move rfl) rfl rfl rfl (VO.mv (Rn.nil_neq_nil Tryz.underlying29 rfl) rfl rfl rfl (VO.mv (Rn.move rfl) rfl rfl rfl (VO.mv (Rn.move rfl) rfl rfl rfl (VO.mv (Rn.nilCheck rfl) rfl rfl rfl (VO.mv (Rn.field Tryz.underlying142 rfl Tryz.sizeOf4 rfl rfl rfl) rfl rfl rfl ?_)))))))
 have rb_1 := rb.keep c1
 refine VO.mv (Rn.load Tryz.isAgg4 rfl (rb_1.cell rfl)) rfl rfl rfl (VO.mv (Rn.not rfl) rfl rfl rfl (VO.mv (Rn.pick_false rfl rfl) rfl rfl rfl (VO.nil (VQ.then_code (VC.cond_true rfl (VC.seq (VC.region ?_)))))))
 refine VO.mv (Rn.move rfl) rfl rfl rfl (VO.mv (Rn.move rfl) rfl rfl rfl (VO.mv (Rn.assign rfl) rfl rfl rfl (VO.mv (Rn.assign rfl) rfl rfl rfl (VO.nil (VQ.then_code (VC.ret (VQ.then_ret ?_)))))))
 refine VQ.ret2 rfl rfl rfl (Ret.mk ?_)
 have CH_1 := (Ch.refl (No) w).and c1
 exact ⟨_, _, _, _, rfl, out1, by rw [List.map_take, List.map_drop], by omega, CH_1⟩
set_option maxHeartbeats 1000000 in
set_option maxRecDepth 100000 in
theorem r_Result1 (q p m r : Nat) (b : Bld) (N : Nat) (SA : Option Addr) (sc : Nat) (bs : ByteArray) (CA : Option Addr) (ac : Int) (xs : List CB) (w : World) (rb : Bk w q #[.pointer (some ⟨p, 0, none⟩), .bool true, .pointer (some ⟨m, 0, none⟩)] 142) (mac : MacR w m r b N SA sc bs CA ac ac b.steps.length 0 xs) (ok : PrgOk b N) (hac : 0 ≤ ac ∧ ac ≤ 1000000000) :
  Calls Tryz.prog 94 #[.pointer (some ⟨q, 0, none⟩)] w (Ret (fun v w' => ∃ r' A' c' zs, v = .tuple #[.slice A' b.ln.toNat c', .nilIface] ∧ CR 53 w' r' A' b.ln.toNat c' zs ∧ zs.map cx = ((((xs.map cx).drop b.ou.toNat).take b.ln.toNat).map conjC).map (fun z => overC z b.ln) ∧ w.heap.size < r' ∧ Ch No w w')) := by
 have hln := ok.ln
 refine calls_of_VC (args := [.pointer (some ⟨q, 0, none⟩)]) Tryz.func94 rfl Tryz.ntmps94 rfl (VC.seq (VC.region (VO.mv (Rn.assign rfl) rfl rfl rfl (VO.mv (Rn.assign rfl) rfl rfl rfl (VO.nil (VQ.then_code (VC.seq ?_)))))))
 refine VC.region (VO.mv (Rn.move rfl) rfl rfl rfl (VO.mv (Rn.nilCheck rfl) rfl rfl rfl (VO.mv (Rn.field Tryz.underlying142 rfl Tryz.sizeOf133 rfl rfl rfl) rfl rfl rfl (VO.mv (Rn.load Tryz.isAgg133 rfl (rb.cell rfl)) rfl rfl rfl (VO.wk (Wk.call Tryz.call110 rfl (m_Out _ _ _ _ _ _ _ _ _ _ _ _ _ mac ok (by omega))) rfl rfl rfl ?_)))))
 rintro _ w1 ⟨r1, A1, k1, rfl, out1, yo1, c1⟩
 have z1 := c1.size
 refine VO.mv (Rn.move rfl) rfl rfl rfl (VO.mv (Rn.extract rfl rfl) rfl rfl rfl (VO.mv (Rn.extract rfl rfl) rfl rfl rfl (VO.mv (Rn.assign rfl) rfl rfl rfl (VO.mv (Rn.assign rfl) rfl rfl rfl (VO.nil (VQ.then_code (VC.seq ?_)))))))
 refine VC.seq (VC.region (VO.mv (Rn.move rfl) rfl rfl rfl (VO.mv (Rn.nil_neq_nil Tryz.underlying29 rfl) rfl rfl rfl (VO.mv (Rn.move rfl) rfl rfl rfl (VO.mv (Rn.move rfl) rfl rfl rfl (VO.mv (Rn.nilCheck rfl) rfl rfl rfl (VO.mv (Rn.field Tryz.underlying142 rfl Tryz.sizeOf4 rfl rfl rfl) rfl rfl rfl ?_)))))))
 have rb_1 := rb.keep c1
 refine VO.mv (Rn.load Tryz.isAgg4 rfl (rb_1.cell rfl)) rfl rfl rfl (VO.mv (Rn.not rfl) rfl rfl rfl (VO.mv (Rn.pick_false rfl rfl) rfl rfl rfl (VO.nil (VQ.then_code (VC.cond_false rfl (VC.skip (VQ.then_code ?_)))))))
 refine VC.seq (VC.region (VO.mv (Rn.move rfl) rfl rfl rfl ?_))
 refine VO.wk (Wk.call Tryz.call106 rfl (p_conj _ _ _ _ _ _ out1.sl (fun q hq => by have := (out1).lt; omega) (by omega))) rfl rfl rfl ?_
 rintro _ w2 ⟨q2, zs2, rfl, cj2, hz2, e2, c2⟩
 have ycj2 := Ow.lt cj2
 have z2 := c2.size
 refine VO.mv (Rn.assign rfl) rfl rfl rfl (VO.nil (VQ.then_code (VC.seq (VC.seq (VC.region (VO.mv (Rn.move rfl) rfl rfl rfl (VO.mv (Rn.len Tryz.underlying39 rfl) rfl rfl rfl ?_)))))))
 refine VO.mv (Rn.move rfl) rfl rfl rfl (VO.nil (VQ.then_code (VC.block ?_)))
 have CH_2 := (Ch.refl (No) w).and (c1.trans c2)
 refine VC.loopS (σ := Nat × List CB) (fun (j, zs) => [(4, .slice (some ⟨q2, 0, none⟩) b.ln.toNat b.ln.toNat), (29, .slice (some ⟨q2, 0, none⟩) b.ln.toNat b.ln.toNat), (30, .int .i64 (b.ln.toNat : Nat)), (31, .int .i64 j)]) (fun (j, zs) w' => j ≤ b.ln.toNat ∧ Upto (fun z => overC z b.ln) zs2 zs j ∧ (∀ i, j ≤ i → zs.getD i (0, 0) = zs2.getD i (0, 0)) ∧ w2.heap.size ≤ w'.heap.size ∧ CR 53 w' (q2 + 1) (some ⟨q2, 0, none⟩) b.ln.toNat b.ln.toNat zs ∧ Ch (No) w w') (fun (j, zs) => b.ln.toNat - j) (0, zs2) ?_ ⟨rfl, rfl, rfl, rfl, trivial⟩ ?_
 · exact ⟨(by omega), (Upto.zero _ _ _), (fun i _ => rfl), (Nat.le_refl _), cj2, CH_2⟩
 rintro ⟨j, zs⟩ w3 ⟨hj, hu, hsm, hsz3, cj_3, CH_3⟩
 show VC _ _ _ _ [(4, .slice (some ⟨q2, 0, none⟩) b.ln.toNat b.ln.toNat), (29, .slice (some ⟨q2, 0, none⟩) b.ln.toNat b.ln.toNat), (30, .int .i64 (b.ln.toNat : Nat)), (31, .int .i64 j)] _
 have hzl := CR.len cj_3
 have hlc : ((b.ln.toNat : Nat) : Int) = b.ln := by omega
 refine VC.seq (VC.region (VO.mv (Rn.lss rfl rfl) rfl rfl rfl (VO.nil (VQ.then_code (VC.seq (VC.cond_if rfl (fun hc1 => ?_) (fun hc1 => ?_)))))))
 ·
  refine VC.skip (VQ.then_code (VC.seq (VC.block (VC.seq (VC.region (VO.mv (Rn.move rfl) rfl rfl rfl (VO.mv (Rn.indexS Tryz.underlying39 Tryz.sizeOf53 rfl rfl (cj_3.sl.ne (by omega)) (by omega) (by omega)) rfl rfl rfl ?_)))))))
  refine VO.mv (Rn.load Tryz.isAgg53 rfl (cj_3.sl.getC (by omega) (by omega))) rfl rfl rfl (VO.mv (Rn.assign rfl) rfl rfl rfl (VO.mv (Rn.assign rfl) rfl rfl rfl (VO.nil (VQ.then_code (VC.region (VO.mv (Rn.move rfl) rfl rfl rfl (VO.mv (Rn.move rfl) rfl rfl rfl ?_)))))))
  refine VO.mv (Rn.move rfl) rfl rfl rfl (VO.mv (Rn.move rfl) rfl rfl rfl (VO.mv (Rn.len Tryz.underlying39 rfl) rfl rfl rfl (VO.wk (Wk.call Tryz.call111 rfl (cplx_Over _ _ _ _)) rfl rfl rfl ?_)))
  rintro _ w4 ⟨p4, q4, rfl, F4, c4⟩
  have z4 := c4.size
  have cj_4 := cj_3.keep c4
  refine VO.mv (Rn.indexS Tryz.underlying39 Tryz.sizeOf53 rfl rfl (cj_4.sl.ne (by omega)) (by omega) (by omega)) rfl rfl rfl (VO.wk0 (Wk.putC Tryz.sizeOf53 rfl rfl (by omega) cj_4) rfl rfl ?_)
  rintro _ w5 ⟨o5, c5, z5⟩
  have y5 := o5.lt
  refine VO.nil (VQ.block_normal (VQ.then_code (VC.region ?_)))
  refine VO.mv (Rn.add rfl rfl (by rw [IntKind.wrap_i64]; omega)) rfl rfl rfl ?_
  refine VO.mv (Rn.move rfl) rfl rfl rfl (VO.nil ?_)
  refine VQ.round (j + 1, zs.set j (p4, q4)) (by first | omega | (dsimp only; omega)) ?_ ⟨rfl, rfl, rfl, rfl, trivial⟩
  have CH_4 := CH_3.and c4
  have CH_5 : Ch (No) w w5 := CH_4.then c5 (by intro q h1 h2; rcases h2 with h2 | h2 <;> first | exact h2 | (exfalso; omega) | omega)
  exact ⟨(by omega), (hu.step (by omega) (by rw [F4, Int.toNat_natCast, hlc, ← hsm j (Nat.le_refl _)])), (fun i hi => by rw [set_getD (by omega), if_neg (by omega)]; exact hsm i (by omega)), (by omega), o5, CH_5⟩
 ·
  refine VC.exit (VQ.then_exit (VQ.then_exit (VQ.block_exit (VQ.then_code (VC.seq (VC.region (VO.mv (Rn.move rfl) rfl rfl rfl ?_)))))))
  refine VO.mv (Rn.assign rfl) rfl rfl rfl (VO.mv (Rn.assign rfl) rfl rfl rfl (VO.nil (VQ.then_code (VC.ret (VQ.ret2 rfl rfl rfl (Ret.mk ?_))))))
  have e : j = b.ln.toNat := by omega
  rw [e] at hu
  have hz9 := hu.all (CR.len cj2) (CR.len cj_3)
  have y9 := Ow.lt cj_3
  exact ⟨_, _, _, _, rfl, cj_3, by rw [hz9, hz2, List.map_take, List.map_drop], by omega, CH_3⟩
set_option maxHeartbeats 1000000 in
set_option maxRecDepth 100000 in
theorem p_whole0 (lo hi p : Nat) (P : Pln) (SX : Nat → Prop) (X : Option Addr) (n xc : Nat) (ys : List CB) (w : World) (sx : SlR SX w X n 1 (ys.map cxV)) (hX : ∀ q, SX q → q < w.heap.size) (pl : PlnR lo hi w p P) (hh : hi ≤ w.heap.size) (N : Nat) (ok : PrgOk P.b N) (okb : okB P.b) (hne : 1 ≤ P.b.steps.length) (hn : (n : Int) = P.b.ln) (st : StT w) (hG : 12 ≤ w.heap.size) (hac1 : 1 ≤ cntS P.b.steps)  :
  Calls Tryz.prog 70 #[.pointer (some ⟨p, 0, none⟩), .slice X n xc, .bool false] w (Ret (fun v w' => ∃ r' A' c' zs, v = .tuple #[.slice A' P.b.ln.toNat c', .nilIface] ∧ CR 53 w' r' A' P.b.ln.toNat c' zs ∧ zs.map cx = fwdC P.b (ys.map cx) ∧ w.heap.size < r' ∧ Ch No w w')) := by
 have hln := ok.ln; have hn1 := ok.n1; have hcl := ok.cl; have hlen := ok.len
 have hyl : ys.length = n := by have := sx.len; simpa using this
 refine calls_of_VC (args := [.pointer (some ⟨p, 0, none⟩), .slice X n xc, .bool false]) Tryz.func70 rfl Tryz.ntmps70 rfl (VC.seq (VC.region (VO.mv (Rn.assign rfl) rfl rfl rfl (VO.mv (Rn.assign rfl) rfl rfl rfl (VO.nil (VQ.then_code (VC.seq ?_)))))))
 refine VC.region (VO.mv (Rn.move rfl) rfl rfl rfl (VO.mv (Rn.move rfl) rfl rfl rfl (VO.mv (Rn.move rfl) rfl rfl rfl (VO.wk (Wk.call Tryz.call91 rfl (p_Begin0 _ _ _ _ _ _ _ _ _ _ sx hX pl (by omega) _ ok okb hne hn st (by omega))) rfl rfl rfl ?_))))
 rintro _ w1 ⟨q1, m1, r1, rs1, sA1, sc1, cA1, xs1, rfl, rb1, mac1, hx1, ss1, hb1, c1⟩
 obtain ⟨hb1, hb2, hb3, hb4, hb5, hb6, hb7, hb8⟩ := hb1
 have yq1 := rb1.lt; have ym1 := mac1.bk.lt; have yr1 := Ow.lt mac1.row
 have hS : ∀ y, At rs1 y → ¬ MS m1 r1 y := fun y h1 h2 => by omega
 have hok := ok.ok; have hac2 : cntS P.b.steps ≤ 100000000 := by have := ok.act; omega
 have z1 := c1.size
 refine VO.mv (Rn.move rfl) rfl rfl rfl (VO.mv (Rn.extract rfl rfl) rfl rfl rfl (VO.mv (Rn.extract rfl rfl) rfl rfl rfl (VO.mv (Rn.assign rfl) rfl rfl rfl (VO.mv (Rn.assign rfl) rfl rfl rfl (VO.nil (VQ.then_code (VC.seq ?_)))))))
 refine VC.seq (VC.region (VO.mv (Rn.move rfl) rfl rfl rfl (VO.mv (Rn.nil_neq_nil Tryz.underlying29 rfl) rfl rfl rfl (VO.nil (VQ.then_code (VC.cond_false rfl (VC.skip ?_)))))))
 refine VQ.then_code (VC.seq (VC.seq (VC.region (VO.mv (Rn.move rfl) rfl rfl rfl (VO.wk (Wk.call Tryz.call92 rfl (r_Left _ _ _ _ _ _ _ _ _ _ _ _ _ _ _ _ _ rb1 mac1 (by omega) (by omega))) rfl rfl rfl ?_)))))
 rintro _ w2 ⟨rfl, c2⟩
 have z2 := c2.size
 refine VO.mv (Rn.gtr rfl rfl) rfl rfl rfl (VO.nil (VQ.then_code (VC.cond_if rfl (fun hc1 => ?_) (fun hc1 => ?_))))
 ·
  refine VC.seq (VC.region (VO.mv (Rn.move rfl) rfl rfl rfl (VO.mv (Rn.move rfl) rfl rfl rfl ?_)))
  have rb_2 := rb1.keep c2
  have mac_2 := mac1.keep c2
  refine VO.wk (Wk.call Tryz.call92 rfl (r_Left _ _ _ _ _ _ _ _ _ _ _ _ _ _ _ _ _ rb_2 mac_2 (by omega) (by omega))) rfl rfl rfl ?_
  rintro _ w3 ⟨rfl, c3⟩
  have z3 := c3.size
  have rb_3 := rb_2.keep c3
  have mac_3 := mac_2.keep c3
  have ss_3 := ss1.keep (c2.trans c3)
  refine VO.wk (Wk.call Tryz.call93 rfl (r_Do _ _ _ _ _ _ _ _ _ _ _ _ _ _ rb_3 mac_3 (by omega) rfl hac1 hac2 hok (by omega) _ hS ss_3 _ (by omega))) rfl rfl rfl ?_
  rintro _ w4 ⟨rfl, ys4, mac4, hy4, c4⟩
  have z4 := c4.size
  refine VO.mv (Rn.move rfl) rfl rfl rfl (VO.mv (Rn.extract rfl rfl) rfl rfl rfl (VO.mv (Rn.extract rfl rfl) rfl rfl rfl (VO.mv (Rn.assign rfl) rfl rfl rfl (VO.mv (Rn.assign rfl) rfl rfl rfl (VO.nil (VQ.then_code (VC.seq ?_)))))))
  refine VC.region (VO.mv (Rn.move rfl) rfl rfl rfl (VO.mv (Rn.nil_neq_nil Tryz.underlying29 rfl) rfl rfl rfl (VO.nil (VQ.then_code (VC.cond_false rfl (VC.skip (VQ.then_code ?_)))))))
  refine VC.seq (VC.region (VO.mv (Rn.move rfl) rfl rfl rfl ?_))
  have rb_4 := rb_3.to c4 (by first | exact id | omega)
  refine VO.wk (Wk.call Tryz.call94 rfl (r_Result0 _ _ _ _ _ _ _ _ _ _ _ _ _ rb_4 mac4 ok (by omega))) rfl rfl rfl ?_
  rintro _ w5 ⟨r5, A5, k5, zs5, rfl, out5, hz5, yo5, c5⟩
  have z5 := c5.size
  refine VO.mv (Rn.extract rfl rfl) rfl rfl rfl (VO.mv (Rn.extract rfl rfl) rfl rfl rfl (VO.mv (Rn.assign rfl) rfl rfl rfl (VO.mv (Rn.assign rfl) rfl rfl rfl (VO.nil (VQ.then_code (VC.ret (VQ.ret2 rfl rfl rfl ?_)))))))
  refine Ret.mk ?_
  have CH_3 := (Ch.refl (No) w).and (c1.trans (c2.trans c3))
  have CH_4 : Ch (No) w w4 := CH_3.then c4 (by intro q h1 h2; rcases h2 with h2 | h2 <;> first | exact h2 | (exfalso; omega) | omega)
  have CH_5 := CH_4.and c5
  exact ⟨_, _, _, _, rfl, out5, by rw [hz5, hy4, hx1, show N = P.b.cl.toNat by omega]; rfl, by omega, CH_5⟩
 ·
  omega
set_option maxHeartbeats 1000000 in
set_option maxRecDepth 100000 in
theorem p_whole1 (lo hi p : Nat) (P : Pln) (SX : Nat → Prop) (X : Option Addr) (n xc : Nat) (ys : List CB) (w : World) (sx : SlR SX w X n 1 (ys.map cxV)) (hX : ∀ q, SX q → q < w.heap.size) (pl : PlnR lo hi w p P) (hh : hi ≤ w.heap.size) (N : Nat) (ok : PrgOk P.b N) (okb : okB P.b) (hne : 1 ≤ P.b.steps.length) (hn : (n : Int) = P.b.ln) (st : StT w) (hG : 12 ≤ w.heap.size) (hac1 : 1 ≤ cntS P.b.steps)  :
  Calls Tryz.prog 70 #[.pointer (some ⟨p, 0, none⟩), .slice X n xc, .bool true] w (Ret (fun v w' => ∃ r' A' c' zs, v = .tuple #[.slice A' P.b.ln.toNat c', .nilIface] ∧ CR 53 w' r' A' P.b.ln.toNat c' zs ∧ zs.map cx = invC P.b (ys.map cx) ∧ w.heap.size < r' ∧ Ch No w w')) := by
 have hln := ok.ln; have hn1 := ok.n1; have hcl := ok.cl; have hlen := ok.len
 have hyl : ys.length = n := by have := sx.len; simpa using this
 refine calls_of_VC (args := [.pointer (some ⟨p, 0, none⟩), .slice X n xc, .bool true]) Tryz.func70 rfl Tryz.ntmps70 rfl (VC.seq (VC.region (VO.mv (Rn.assign rfl) rfl rfl rfl (VO.mv (Rn.assign rfl) rfl rfl rfl (VO.nil (VQ.then_code (VC.seq ?_)))))))
 refine VC.region (VO.mv (Rn.move rfl) rfl rfl rfl (VO.mv (Rn.move rfl) rfl rfl rfl (VO.mv (Rn.move rfl) rfl rfl rfl (VO.wk (Wk.call Tryz.call91 rfl (p_Begin1 _ _ _ _ _ _ _ _ _ _ sx hX pl (by omega) _ ok okb hne hn st (by omega))) rfl rfl rfl ?_))))
 rintro _ w1 ⟨q1, m1, r1, rs1, sA1, sc1, cA1, xs1, rfl, rb1, mac1, hx1, ss1, hb1, c1⟩
 obtain ⟨hb1, hb2, hb3, hb4, hb5, hb6, hb7, hb8⟩ := hb1
 have yq1 := rb1.lt; have ym1 := mac1.bk.lt; have yr1 := Ow.lt mac1.row
 have hS : ∀ y, At rs1 y → ¬ MS m1 r1 y := fun y h1 h2 => by omega
 have hok := ok.ok; have hac2 : cntS P.b.steps ≤ 100000000 := by have := ok.act; omega
 have z1 := c1.size
 refine VO.mv (Rn.move rfl) rfl rfl rfl (VO.mv (Rn.extract rfl rfl) rfl rfl rfl (VO.mv (Rn.extract rfl rfl) rfl rfl rfl (VO.mv (Rn.assign rfl) rfl rfl rfl (VO.mv (Rn.assign rfl) rfl rfl rfl (VO.nil (VQ.then_code (VC.seq ?_)))))))
 refine VC.seq (VC.region (VO.mv (Rn.move rfl) rfl rfl rfl (VO.mv (Rn.nil_neq_nil Tryz.underlying29 rfl) rfl rfl rfl (VO.nil (VQ.then_code (VC.cond_false rfl (VC.skip ?_)))))))
 refine VQ.then_code (VC.seq (VC.seq (VC.region (VO.mv (Rn.move rfl) rfl rfl rfl (VO.wk (Wk.call Tryz.call92 rfl (r_Left _ _ _ _ _ _ _ _ _ _ _ _ _ _ _ _ _ rb1 mac1 (by omega) (by omega))) rfl rfl rfl ?_)))))
 rintro _ w2 ⟨rfl, c2⟩
 have z2 := c2.size
 refine VO.mv (Rn.gtr rfl rfl) rfl rfl rfl (VO.nil (VQ.then_code (VC.cond_if rfl (fun hc1 => ?_) (fun hc1 => ?_))))
 ·
  refine VC.seq (VC.region (VO.mv (Rn.move rfl) rfl rfl rfl (VO.mv (Rn.move rfl) rfl rfl rfl ?_)))
  have rb_2 := rb1.keep c2
  have mac_2 := mac1.keep c2
  refine VO.wk (Wk.call Tryz.call92 rfl (r_Left _ _ _ _ _ _ _ _ _ _ _ _ _ _ _ _ _ rb_2 mac_2 (by omega) (by omega))) rfl rfl rfl ?_
  rintro _ w3 ⟨rfl, c3⟩
  have z3 := c3.size
  have rb_3 := rb_2.keep c3
  have mac_3 := mac_2.keep c3
  have ss_3 := ss1.keep (c2.trans c3)
  refine VO.wk (Wk.call Tryz.call93 rfl (r_Do _ _ _ _ _ _ _ _ _ _ _ _ _ _ rb_3 mac_3 (by omega) rfl hac1 hac2 hok (by omega) _ hS ss_3 _ (by omega))) rfl rfl rfl ?_
  rintro _ w4 ⟨rfl, ys4, mac4, hy4, c4⟩
  have z4 := c4.size
  refine VO.mv (Rn.move rfl) rfl rfl rfl (VO.mv (Rn.extract rfl rfl) rfl rfl rfl (VO.mv (Rn.extract rfl rfl) rfl rfl rfl (VO.mv (Rn.assign rfl) rfl rfl rfl (VO.mv (Rn.assign rfl) rfl rfl rfl (VO.nil (VQ.then_code (VC.seq ?_)))))))
  refine VC.region (VO.mv (Rn.move rfl) rfl rfl rfl (VO.mv (Rn.nil_neq_nil Tryz.underlying29 rfl) rfl rfl rfl (VO.nil (VQ.then_code (VC.cond_false rfl (VC.skip (VQ.then_code ?_)))))))
  refine VC.seq (VC.region (VO.mv (Rn.move rfl) rfl rfl rfl ?_))
  have rb_4 := rb_3.to c4 (by first | exact id | omega)
  refine VO.wk (Wk.call Tryz.call94 rfl (r_Result1 _ _ _ _ _ _ _ _ _ _ _ _ _ rb_4 mac4 ok (by omega))) rfl rfl rfl ?_
  rintro _ w5 ⟨r5, A5, k5, zs5, rfl, out5, hz5, yo5, c5⟩
  have z5 := c5.size
  refine VO.mv (Rn.extract rfl rfl) rfl rfl rfl (VO.mv (Rn.extract rfl rfl) rfl rfl rfl (VO.mv (Rn.assign rfl) rfl rfl rfl (VO.mv (Rn.assign rfl) rfl rfl rfl (VO.nil (VQ.then_code (VC.ret (VQ.ret2 rfl rfl rfl ?_)))))))
  refine Ret.mk ?_
  have CH_3 := (Ch.refl (No) w).and (c1.trans (c2.trans c3))
  have CH_4 : Ch (No) w w4 := CH_3.then c4 (by intro q h1 h2; rcases h2 with h2 | h2 <;> first | exact h2 | (exfalso; omega) | omega)
  have CH_5 := CH_4.and c5
  exact ⟨_, _, _, _, rfl, out5, by rw [hz5, hy4, hx1, show N = P.b.cl.toNat by omega]; rfl, by omega, CH_5⟩
 ·
  omega
set_option maxRecDepth 100000 in
theorem p_Forward (lo hi p : Nat) (P : Pln) (SX : Nat → Prop) (X : Option Addr) (n xc : Nat) (ys : List CB) (w : World) (sx : SlR SX w X n 1 (ys.map cxV)) (hX : ∀ q, SX q → q < w.heap.size) (pl : PlnR lo hi w p P) (hh : hi ≤ w.heap.size) (N : Nat) (ok : PrgOk P.b N) (okb : okB P.b) (hne : 1 ≤ P.b.steps.length) (hn : (n : Int) = P.b.ln) (st : StT w) (hG : 12 ≤ w.heap.size) (hac1 : 1 ≤ cntS P.b.steps)  :
  Calls Tryz.prog 41 #[.pointer (some ⟨p, 0, none⟩), .slice X n xc] w (Ret (fun v w' => ∃ r' A' c' zs, v = .tuple #[.slice A' P.b.ln.toNat c', .nilIface] ∧ CR 53 w' r' A' P.b.ln.toNat c' zs ∧ zs.map cx = fwdC P.b (ys.map cx) ∧ w.heap.size < r' ∧ Ch No w w')) := by
 refine calls_of_VC (args := [.pointer (some ⟨p, 0, none⟩), .slice X n xc]) Tryz.func41 rfl Tryz.ntmps41 rfl (VC.seq (VC.region (VO.mv (Rn.assign rfl) rfl rfl rfl (VO.mv (Rn.assign rfl) rfl rfl rfl (VO.nil (VQ.then_code (VC.seq ?_)))))))
 refine VC.region (VO.mv (Rn.move rfl) rfl rfl rfl (VO.mv (Rn.move rfl) rfl rfl rfl (VO.wk (Wk.call Tryz.call70 rfl (p_whole0 _ _ _ _ _ _ _ _ _ _ sx hX pl (by omega) _ ok okb hne hn st (by omega) hac1)) rfl rfl rfl ?_)))
 rintro _ w1 ⟨r1, A1, k1, zs1, rfl, out1, hz1, yo1, c1⟩
 have z1 := c1.size
 refine VO.mv (Rn.extract rfl rfl) rfl rfl rfl (VO.mv (Rn.extract rfl rfl) rfl rfl rfl (VO.mv (Rn.assign rfl) rfl rfl rfl (VO.mv (Rn.assign rfl) rfl rfl rfl (VO.nil (VQ.then_code (VC.ret (VQ.ret2 rfl rfl rfl ?_)))))))
 refine Ret.mk ?_
 have CH_1 := (Ch.refl (No) w).and c1
 exact ⟨_, _, _, _, rfl, out1, hz1, by omega, CH_1⟩
set_option maxRecDepth 100000 in
theorem p_Inverse (lo hi p : Nat) (P : Pln) (SX : Nat → Prop) (X : Option Addr) (n xc : Nat) (ys : List CB) (w : World) (sx : SlR SX w X n 1 (ys.map cxV)) (hX : ∀ q, SX q → q < w.heap.size) (pl : PlnR lo hi w p P) (hh : hi ≤ w.heap.size) (N : Nat) (ok : PrgOk P.b N) (okb : okB P.b) (hne : 1 ≤ P.b.steps.length) (hn : (n : Int) = P.b.ln) (st : StT w) (hG : 12 ≤ w.heap.size) (hac1 : 1 ≤ cntS P.b.steps)  :
  Calls Tryz.prog 43 #[.pointer (some ⟨p, 0, none⟩), .slice X n xc] w (Ret (fun v w' => ∃ r' A' c' zs, v = .tuple #[.slice A' P.b.ln.toNat c', .nilIface] ∧ CR 53 w' r' A' P.b.ln.toNat c' zs ∧ zs.map cx = invC P.b (ys.map cx) ∧ w.heap.size < r' ∧ Ch No w w')) := by
 refine calls_of_VC (args := [.pointer (some ⟨p, 0, none⟩), .slice X n xc]) Tryz.func43 rfl Tryz.ntmps43 rfl (VC.seq (VC.region (VO.mv (Rn.assign rfl) rfl rfl rfl (VO.mv (Rn.assign rfl) rfl rfl rfl (VO.nil (VQ.then_code (VC.seq ?_)))))))
 refine VC.region (VO.mv (Rn.move rfl) rfl rfl rfl (VO.mv (Rn.move rfl) rfl rfl rfl (VO.wk (Wk.call Tryz.call70 rfl (p_whole1 _ _ _ _ _ _ _ _ _ _ sx hX pl (by omega) _ ok okb hne hn st (by omega) hac1)) rfl rfl rfl ?_)))
 rintro _ w1 ⟨r1, A1, k1, zs1, rfl, out1, hz1, yo1, c1⟩
 have z1 := c1.size
 refine VO.mv (Rn.extract rfl rfl) rfl rfl rfl (VO.mv (Rn.extract rfl rfl) rfl rfl rfl (VO.mv (Rn.assign rfl) rfl rfl rfl (VO.mv (Rn.assign rfl) rfl rfl rfl (VO.nil (VQ.then_code (VC.ret (VQ.ret2 rfl rfl rfl ?_)))))))
 refine Ret.mk ?_
 have CH_1 := (Ch.refl (No) w).and c1
 exact ⟨_, _, _, _, rfl, out1, hz1, by omega, CH_1⟩
end Go.Tm
namespace Go.Tm
abbrev flV (b : Nat) : Value := .float .f64 b
abbrev arrF (xs : List Nat) : Array Value := (xs.map flV).toArray
section
variable {P : Program} {n : Fr} {k : K} {w : World} {d : Option Tmp} {ty : TypeId} {pos : String} {aft : Array Edge} {g : Option (Nat × Bool)}
theorem arrF_get {xs : List Nat} {i : Nat} (h : i < xs.length) : (arrF xs)[i]? = some (flV (xs.getD i 0)) := by
  simp [arrF, List.getD, List.getElem?_eq_getElem h]
theorem Bk.getF {p i : Nat} {xs : List Nat} {te : TypeId} (h : Bk w p (arrF xs) te) (hi : i < xs.length) : w.cell? ⟨p, i, none⟩ = some (.float .f64 (xs.getD i 0)) := h.cell (arrF_get hi)
end
abbrev FR (e : TypeId) (w : World) (r : Nat) (A : Option Addr) (l c : Nat) (xs : List Nat) : Prop := Ow w r e 1 A l c (xs.map flV)
theorem FR.len {e : TypeId} {w : World} {r : Nat} {A : Option Addr} {l c : Nat} {xs : List Nat} (h : FR e w r A l c xs) : xs.length = l := by
  have := Ow.len h
  simpa using this
theorem SlR.getF {S : Nat → Prop} {w : World} {A : Option Addr} {l : Nat} {xs : List Nat} (h : SlR S w A l 1 (xs.map flV)) {i : Int} (h0 : 0 ≤ i) (h1 : i < l) : w.cell? ((sAddr A).add (i.toNat * 1)) = some (.float .f64 (xs.getD i.toNat 0)) := SlR.get (f := flV) h 0 h0 h1
section
variable {P : Program} {n : Fr} {k : K} {w : World} {d : Option Tmp} {ty : TypeId} {pos : String} {aft : Array Edge} {g : Option (Nat × Bool)}
theorem Wk.cbin {op : BinOp} {t t' : TypeId} {x y : Operand} {a b c e : Nat} (hop : op = .add ∨ op = .sub) (hx : ev k x = some (.complex .f64 a b)) (hy : ev k y = some (.complex .f64 c e)) :
    Wk P n k w { dst := d, op := .binOp op t x y t', type := ty, pos := pos, after := aft, guard := g } (fun v w' => ∃ p q, v = .complex .f64 p q ∧ cx (p, q) = (fop op (cn a) (cn c), fop op (cn b) (cn e)) ∧ Ch No w w') :=
  Wk.of_run fun ac ha => by
    have hop4 : op = .add ∨ op = .sub ∨ op = .mul ∨ op = .quo := hop.elim .inl (fun h => .inr (.inl h))
    obtain ⟨r, w1, hr, h1, h2⟩ := run_fl (P := P) (w := w) hop4 a c
    obtain ⟨s, w2, hs, h3, h4⟩ := run_fl (P := P) (w := w1) hop4 b e
    refine ⟨_, w2, ?_, r, s, rfl, ?_, h2.and h4⟩
    · rcases hop with rfl | rfl <;> simp [execOp, ha.eval hx, ha.eval hy, eqGuard_add, eqGuard_sub, binOp, Op.complexOp, Op.Complex.arith, hr, hs]
    · show (cn r, cn s) = _; rw [h1, h3]
theorem Wk.mkF {t e : TypeId} {by' : Nat} {x y : Operand} {ql qc : IntKind} {l : Int} (ht : P.underlying t = some (.slice e)) (hi : Inf P e (.float .f64 0) 1 by') (hx : ev k x = some (.int ql l)) (hy : ev k y = some (.int qc l)) (h0 : 0 ≤ l) (hb : (by' : Int) * l ≤ 281474976710656) (hm : l ≤ 281474976710656) :
    Wk P n k w { dst := d, op := .makeSlice t x y, type := ty, pos := pos, after := aft, guard := g }
      (fun v w' => ∃ p, v = .slice (some ⟨p, 0, none⟩) l.toNat l.toNat ∧ FR e w' (p + 1) (some ⟨p, 0, none⟩) l.toNat l.toNat (List.replicate l.toNat 0) ∧ Ch No w w' ∧ p = w.heap.size ∧ w'.heap.size = w.heap.size + 1) :=
  (Wk.make ht hi hx hy h0 (Int.le_refl _) hb (by omega)).mono fun v w' ⟨p, hv, N⟩ => by
    rw [Nat.mul_one] at N
    have e1 : (Value.float .f64 0).cells = #[.float .f64 0] := rfl
    rw [e1, made_one] at N
    refine ⟨p, hv, ?_, N.ch, N.p, N.size⟩
    have : (List.replicate l.toNat (0 : Nat)).map flV = List.replicate l.toNat (.float .f64 0) := by simp
    show Ow _ _ _ _ _ _ _ (List.map flV _)
    rw [this]
    exact Ow.of_new N (by simp) (by simp only [maxLen]; omega)
theorem Wk.putF {t e : TypeId} {r l c i : Nat} {A : Option Addr} {xs : List Nat} {x y : Operand} {a : Nat} (hz : ∀ w, (sizeOf t).run P w = .ok 1 w) (hx : ev k x = some (.pointer (some ((sAddr A).add (i * 1))))) (hy : ev k y = some (.float .f64 a)) (hi : i < l) (hown : FR e w r A l c xs) :
    Wk P n k w { dst := none, op := .store t x y, type := ty, pos := pos, after := aft, guard := g } (fun _ w' => FR e w' r A l c (xs.set i a) ∧ Ch (At r) w w' ∧ w'.heap.size = w.heap.size) :=
  (Wk.putOw hz hx hy rfl hi hown).mono fun _ w' ⟨h1, h2, h3⟩ => ⟨by show Ow _ _ _ _ _ _ _ (List.map flV _); rw [List.map_set]; exact h1, h2, h3⟩
end
def one : Fl := cn 4607182418800017408
def fl0 : Fl := cn 0
def facF : Nat → Fl
  | 0 => one
  | m + 1 => fmul (facF m) (fi ((m + 1 : Nat) : Int))
def cofF (first j i : Nat) : Fl := if 1 ≤ 2 * i + first ∧ 2 * i + first ≤ j then fquo one (facF (2 * i + first)) else fl0
def cofL (first i : Nat) : Fl := if first = 0 ∧ i = 0 then one else fquo one (facF (2 * i + first))
def hornP (first : Nat) (y : Fl) : Nat → Fl
  | 0 => cofL first 8
  | j + 1 => fsub (cofL first (7 - j)) (fmul y (hornP first y j))
def hornF (first : Nat) (y : Fl) : Fl := hornP first y 8
def halfB : Nat := 4604544271217802189
def twoPiB : Nat := 4618760256179416344
def eighF (r n : Int) : Cx :=
  if r = 0 then (one, fl0) else if 8 * r = n then (cn halfB, cn halfB) else
    (hornF 0 (fmul (fquo (fmul (cn twoPiB) (fi r)) (fi n)) (fquo (fmul (cn twoPiB) (fi r)) (fi n))), fmul (fquo (fmul (cn twoPiB) (fi r)) (fi n)) (hornF 1 (fmul (fquo (fmul (cn twoPiB) (fi r)) (fi n)) (fquo (fmul (cn twoPiB) (fi r)) (fi n)))))
def pzF (x : Fl) : Fl := x.map pzB
def turF (x : Cx) : Nat → Cx
  | 0 => x
  | q + 1 => (fneg (turF x q).2, (turF x q).1)
def pair0 (n k : Nat) : Cx :=
  if 2 * (4 * k % n) ≤ n then eighF ((4 * k % n : Nat) : Int) ((4 * n : Nat) : Int) else
    ((eighF ((n : Int) - ((4 * k % n : Nat) : Int)) ((4 * n : Nat) : Int)).2, (eighF ((n : Int) - ((4 * k % n : Nat) : Int)) ((4 * n : Nat) : Int)).1)
def pairF (n k : Nat) : Cx := (pzF (turF (pair0 n k) (4 * k / n)).1, pzF (turF (pair0 n k) (4 * k / n)).2)
def rootF (n k : Nat) : Cx := ((pairF n k).1, pzF (fneg (pairF n k).2))
def twistF (z : Cx) (n k : Nat) : Cx := if k = 0 then z else mulC z (rootF n k)
structure CofA (first j : Nat) (xs : List Nat) : Prop where
  len : xs.length = 9
  get : ∀ i, i < 9 → cn (xs.getD i 0) = cofF first j i
theorem CofA.zero (first : Nat) : CofA first 0 (List.replicate 9 0) := ⟨by simp, fun i hi => by
  rw [cofF, if_neg (by omega), List.getD, List.getElem?_replicate, if_pos hi]; rfl⟩
theorem getD_set {xs : List Nat} {i j a : Nat} (hj : j < xs.length) : (xs.set j a).getD i 0 = if i = j then a else xs.getD i 0 := by
  simp only [List.getD, List.getElem?_set]
  by_cases h : j = i
  · subst h; simp [hj]
  · have : ¬ i = j := fun e => h e.symm
    simp [h, this]
theorem CofA.put {first j : Nat} {xs : List Nat} (h : CofA first j xs) (hj : j ≤ 16 + first) {i a : Nat} (hi : 2 * i + first = j + 1) (ha : cn a = fquo one (facF (j + 1))) : CofA first (j + 1) (xs.set i a) := by
  refine ⟨by simp [h.len], fun m hm => ?_⟩
  rw [getD_set (by rw [h.len]; omega)]
  by_cases e : m = i
  · rw [if_pos e, ha, cofF, if_pos (by omega), e, hi]
  · rw [if_neg e, h.get m hm, cofF, cofF]
    by_cases c : 1 ≤ 2 * m + first ∧ 2 * m + first ≤ j
    · rw [if_pos c, if_pos (by omega)]
    · rw [if_neg c, if_neg (by omega)]
theorem CofA.skip {first j : Nat} {xs : List Nat} (h : CofA first j xs) (hn : ∀ i, 2 * i + first ≠ j + 1) : CofA first (j + 1) xs := by
  refine ⟨h.len, fun m hm => ?_⟩
  rw [h.get m hm, cofF, cofF]
  have := hn m
  by_cases c : 1 ≤ 2 * m + first ∧ 2 * m + first ≤ j
  · rw [if_pos c, if_pos (by omega)]
  · rw [if_neg c, if_neg (by omega)]
end Go.Tm
namespace Go.Tm
section
variable {P : Program} {n : Fr} {k : K} {w : World} {d : Option Tmp} {ty : TypeId} {pos : String} {aft : Array Edge} {g : Option (Nat × Bool)} {t t' : TypeId} {x y : Operand}
theorem Rn.cneqF {a b c e : Nat} (hx : ev k x = some (.complex .f64 a b)) (hy : ev k y = some (.complex .f64 c e)) (h : ceq (a, b) (c, e) = true) : Rn P n k w { dst := d, op := .binOp .neq t x y t', type := ty, pos := pos, after := aft, guard := g } (.bool false) := by
  have := Rn.cneq (P := P) (n := n) (w := w) (d := d) (ty := ty) (pos := pos) (aft := aft) (g := g) (t := t) (t' := t') hx hy
  rwa [h] at this
end
abbrev IV (i : Int) : Value := .int .i64 i
abbrev IR (e : TypeId) (w : World) (r : Nat) (A : Option Addr) (l c : Nat) (xs : List Int) : Prop := Ow w r e 1 A l c (xs.map IV)
def rowI (n : Nat) (f : Nat → Int) (j : Nat) : List Int := (List.range j).map f ++ List.replicate (n - j) 0
section
variable {P : Program} {n : Fr} {k : K} {w : World} {d : Option Tmp} {ty : TypeId} {pos : String} {aft : Array Edge} {g : Option (Nat × Bool)}
end
theorem SlR.getI {S : Nat → Prop} {w : World} {A : Option Addr} {l : Nat} {xs : List Int} (h : SlR S w A l 1 (xs.map IV)) {i : Int} (h0 : 0 ≤ i) (h1 : i < l) : w.cell? ((sAddr A).add (i.toNat * 1)) = some (.int .i64 (xs.getD i.toNat 0)) := SlR.get (f := IV) h 0 h0 h1
theorem Wk.lit0 {P : Program} {n : Fr} {k : K} {w : World} {d : Option Nat} {ty : TypeId} {pos : String} {aft : Array Edge} {g : Option (Nat × Bool)} {t e : TypeId} {z : Value} {sz by' : Nat} (ht : P.underlying t = some (.slice e)) (hi : Inf P e z sz by') :
    Wk P n k w { dst := d, op := .buildSlice t 0 #[], type := ty, pos := pos, after := aft, guard := g } (fun v w' => ∃ p, v = .slice (some ⟨p, 0, none⟩) 0 0 ∧ New w w' p (.cells #[] e)) :=
  Wk.of_run fun a ha => by
    obtain ⟨i, hi, hz, hs, rfl⟩ := hi
    exact ⟨_, _, by simp [execOp, Instr.buildSlice, run_underlying ht, sizeOf, typeInfo, hi, Instr.fill, show Array.map (fun (_ : Nat) => (default : Value)) (Array.range 0) = #[] from by simp [Array.range], newRow], _, rfl, rfl, rfl⟩
theorem Ow.cap {w : World} {r : Nat} {e : TypeId} {sz : Nat} {A : Option Addr} {l c : Nat} {cs : List Value} (h : Ow w r e sz A l c cs) (hl : 0 < l) : l ≤ c := by
  obtain ⟨_, _, _, _, _, hlc, _⟩ := Ow.open' h hl
  exact hlc
theorem SlR.subF {S : Nat → Prop} {w : World} {A : Option Addr} {l c : Nat} {xs : List Nat} (h : SlR S w A l 1 (xs.map flV)) {i j : Nat} (h1 : i ≤ j) (h2 : j ≤ l) (hc : l ≤ c) : SlR S w (if c = i then A else A.map (·.add (i * 1))) (j - i) 1 (((xs.drop i).take (j - i)).map flV) := by
  have := SlR.sub h h1 h2 hc
  rwa [← List.map_drop, ← List.map_take] at this
theorem sub_getD {xs : List Nat} {i m j : Nat} (h : j < m) : ((xs.drop i).take m).getD j 0 = xs.getD (i + j) 0 := by
  simp only [List.getD, List.getElem?_take, if_pos h, List.getElem?_drop]
end Go.Tm
namespace Go.Tm
open Go.RowKit Go.Proofs
end Go.Tm
namespace Go.Tm
open Ieee
def wd (s : Bool) (c : Nat) : Nat := (if s then 2 ^ 63 else 0) + (if c = 0 then 0 else (1022 + c.log2) * 2 ^ 52 + c * 2 ^ (52 - c.log2))
theorem log2_bd {c : Nat} (h0 : c ≠ 0) (h : c < 2 ^ 53) : c.log2 ≤ 52 ∧ 2 ^ 52 ≤ c * 2 ^ (52 - c.log2) ∧ c * 2 ^ (52 - c.log2) < 2 ^ 53 := by
  have h1 : 2 ^ c.log2 ≤ c := Nat.log2_self_le h0
  have h2 : c < 2 ^ (c.log2 + 1) := Nat.lt_log2_self
  have h3 : c.log2 ≤ 52 := by
    have : c.log2 < 53 := (Nat.log2_lt h0).2 h
    omega
  refine ⟨h3, ?_, ?_⟩
  · have := Nat.mul_le_mul_right (2 ^ (52 - c.log2)) h1
    rw [← Nat.pow_add, show c.log2 + (52 - c.log2) = 52 by omega] at this
    exact this
  · have := Nat.mul_lt_mul_of_pos_right h2 (Nat.two_pow_pos (52 - c.log2))
    rw [← Nat.pow_add, show c.log2 + 1 + (52 - c.log2) = 53 by omega] at this
    exact this
theorem read_wd (s : Bool) {c : Nat} (h : c < 2 ^ 53) : ∃ k : Nat, double.read (wd s c) = .number s (c * 2 ^ k) (-(k : Int)) ∧ (c ≠ 0 → k + c.log2 = 52) ∧ k ≤ 1074 := by
  by_cases h0 : c = 0
  · subst h0
    refine ⟨1074, ?_, fun h => absurd rfl h, by omega⟩
    generalize (2 : Nat) ^ 1074 = X
    rw [Nat.zero_mul]
    cases s <;> decide
  · obtain ⟨h1, h2, h3⟩ := log2_bd h0 h
    refine ⟨52 - c.log2, ?_, fun _ => by omega, by omega⟩
    have e1 : double.signWeight = 2 ^ 63 := rfl
    have e2 : double.binade = 2 ^ 52 := rfl
    have e3 : double.infRung = (2 ^ 11 - 1) * 2 ^ 52 := rfl
    have e4 : double.leastPlace = -1074 := rfl
    unfold wd
    rw [if_neg h0]
    generalize c * 2 ^ (52 - c.log2) = K at *
    generalize c.log2 = L at *
    unfold Format.read
    simp only [e1, e2, e3, e4]
    have r1 : ((if s = true then 2 ^ 63 else 0) + ((1022 + L) * 2 ^ 52 + K)) % 2 ^ 63 = (1022 + L) * 2 ^ 52 + K := by split <;> omega
    have r2 : (((if s = true then 2 ^ 63 else 0) + ((1022 + L) * 2 ^ 52 + K)) / 2 ^ 63 % 2 == 1) = s := by cases s <;> simp <;> omega
    rw [r1, r2, if_neg (by omega), if_pos (by omega)]
    have r3 : ((1022 + L) * 2 ^ 52 + K) % 2 ^ 52 = K - 2 ^ 52 := by omega
    have r4 : ((1022 + L) * 2 ^ 52 + K) / 2 ^ 52 = 1023 + L := by omega
    have r5 : 2 ^ 52 + (K - 2 ^ 52) = K := by omega
    have r6 : (-1074 : Int) + ((1023 + L - 1 : Nat) : Int) = -((52 - L : Nat) : Int) := by omega
    rw [r3, r4, r5, r6]
theorem cut_whole (s : Bool) {A d n : Nat} (hn : n = A * 2 ^ d) (hd : d ≤ n.log2 + 2) : Toward.even.cut s n d = A := by
  have h2 := Nat.two_pow_pos d
  have e1 : n / 2 ^ d = A := by rw [hn]; exact Nat.mul_div_cancel _ h2
  have e2 : n % 2 ^ d = 0 := by rw [hn]; exact Nat.mul_mod_left _ _
  unfold Toward.cut
  rw [Nat.min_eq_left hd, Nat.one_shiftLeft]
  simp only [e1, e2]
  have : ¬ (2 ^ d < 0) ∧ ¬ (2 ^ d = 0) := by omega
  simp
theorem log2_mul_pow (c k : Nat) (h : c ≠ 0) : (c * 2 ^ k).log2 = c.log2 + k := by
  have h1 : 2 ^ c.log2 ≤ c := Nat.log2_self_le h
  have h2 : c < 2 ^ (c.log2 + 1) := Nat.lt_log2_self
  have h3 : c * 2 ^ k ≠ 0 := by have := Nat.two_pow_pos k; exact Nat.mul_ne_zero h (by omega)
  have a1 := Nat.mul_le_mul_right (2 ^ k) h1
  have a2 := Nat.mul_lt_mul_of_pos_right h2 (Nat.two_pow_pos k)
  rw [← Nat.pow_add] at a1 a2
  have b1 : c.log2 + k ≤ (c * 2 ^ k).log2 := (Nat.le_log2 h3).2 a1
  have b2 : (c * 2 ^ k).log2 < c.log2 + 1 + k := (Nat.log2_lt h3).2 a2
  omega
theorem nearest_wd (s : Bool) {c M k : Nat} (h : c < 2 ^ 53) (hM : M = c * 2 ^ k) : double.nearest s M (-(k : Int)) = wd s c := by
  have e1 : double.signWeight = 2 ^ 63 := rfl
  by_cases h0 : c = 0
  · subst h0
    rw [Nat.zero_mul] at hM; subst hM
    simp [Format.nearest, wd, Format.word, e1]
  · obtain ⟨h1, h2, h3⟩ := log2_bd h0 h
    have hM0 : M ≠ 0 := by rw [hM]; have := Nat.two_pow_pos k; exact Nat.mul_ne_zero h0 (by omega)
    have hL : M.log2 = c.log2 + k := by rw [hM]; exact log2_mul_pow c k h0
    have e2 : double.fractionBits = 52 := rfl
    have e3 : double.infRung = (2 ^ 11 - 1) * 2 ^ 52 := rfl
    have e4 : double.leastPlace = -1074 := rfl
    have e5 : double.binade = 2 ^ 52 := rfl
    unfold Format.nearest
    rw [if_neg hM0, hL, e2, e3, e4, e5]
    have hl : max (-(k : Int) + ((c.log2 + k : Nat) : Int) - ((52 : Nat) : Int)) (-1074) = (c.log2 : Int) - 52 := by omega
    rw [hl]
    have hcut : Toward.even.cut s (M <<< (-(k : Int) - ((c.log2 : Int) - 52)).toNat) ((c.log2 : Int) - 52 - -(k : Int)).toNat = c * 2 ^ (52 - c.log2) := by
      by_cases hk : 52 - c.log2 ≤ k
      · rw [show (-(k : Int) - ((c.log2 : Int) - 52)).toNat = 0 by omega, show ((c.log2 : Int) - 52 - -(k : Int)).toNat = k - (52 - c.log2) by omega, Nat.shiftLeft_zero]
        refine cut_whole s ?_ (by omega)
        rw [hM, Nat.mul_assoc, ← Nat.pow_add, show 52 - c.log2 + (k - (52 - c.log2)) = k by omega]
      · rw [show ((c.log2 : Int) - 52 - -(k : Int)).toNat = 0 by omega, show (-(k : Int) - ((c.log2 : Int) - 52)).toNat = 52 - c.log2 - k by omega]
        refine cut_whole s ?_ (by omega)
        rw [hM, Nat.shiftLeft_eq, Nat.mul_assoc, ← Nat.pow_add, show k + (52 - c.log2 - k) = 52 - c.log2 by omega, Nat.pow_zero, Nat.mul_one]
    show double.word s (min (((c.log2 : Int) - 52 - -1074).toNat * 2 ^ 52 + Toward.even.cut s (M <<< (-(k : Int) - ((c.log2 : Int) - 52)).toNat) ((c.log2 : Int) - 52 - -(k : Int)).toNat) ((2 ^ 11 - 1) * 2 ^ 52)) = _
    rw [hcut]
    unfold wd
    rw [if_neg h0]
    simp only [Format.word, e1]
    generalize c * 2 ^ (52 - c.log2) = K at *
    generalize c.log2 = L at *
    rw [show ((L : Int) - 52 - -1074).toNat = 1022 + L by omega, Nat.min_eq_left (show (1022 + L) * 2 ^ 52 + K ≤ (2 ^ 11 - 1) * 2 ^ 52 by omega)]
    cases s <;> simp
def DW (d : Datum) (a : Int) : Prop := ∃ (s : Bool) (k : Nat), d = .number s (a.natAbs * 2 ^ k) (-(k : Int)) ∧ (a ≠ 0 → s = decide (a < 0)) ∧ k ≤ 1074 ∧ (a ≠ 0 → k + a.natAbs.log2 = 52)
def Wh (x : Fl) (a : Int) : Prop := ∃ s : Bool, x = some (wd s a.natAbs) ∧ (a ≠ 0 → s = decide (a < 0))
def Sm (a : Int) : Prop := a.natAbs < 2 ^ 53
theorem Wh.dw {x : Fl} {a : Int} (h : Wh x a) (ha : Sm a) : ∃ b, x = some b ∧ DW (double.read b) a := by
  obtain ⟨s, rfl, hs⟩ := h
  obtain ⟨k, e, h1, h2⟩ := read_wd s ha
  exact ⟨_, rfl, s, k, e, hs, h2, fun h => h1 (by omega)⟩
theorem signed_val {s : Bool} {a : Int} (hs : a ≠ 0 → s = decide (a < 0)) (k u : Nat) : signed s (a.natAbs * 2 ^ k) u = a * 2 ^ (k + u) := by
  have e : ((a.natAbs * 2 ^ k * 2 ^ u : Nat) : Int) = (a.natAbs : Int) * 2 ^ (k + u) := by
    rw [Nat.mul_assoc, ← Nat.pow_add]; push_cast; rfl
  unfold signed
  rw [Nat.shiftLeft_eq, e]
  by_cases h : a = 0
  · subst h; simp
  · have := hs h
    subst this
    by_cases h2 : a < 0
    · rw [if_pos (by simpa using h2), show (a.natAbs : Int) = -a by omega, Int.neg_mul, Int.neg_neg]
    · rw [if_neg (by simpa using h2), show (a.natAbs : Int) = a by omega]
theorem natAbs_pow (a : Int) (k : Nat) : (a * 2 ^ k).natAbs = a.natAbs * 2 ^ k := by
  rw [Int.natAbs_mul, Int.natAbs_pow]; rfl
theorem two_pow_posI (k : Nat) : (0 : Int) < 2 ^ k := by have := Nat.two_pow_pos k; exact_mod_cast this
theorem mulp_neg {a : Int} (k : Nat) : (a * 2 ^ k < 0) ↔ a < 0 := by
  have := two_pow_posI k
  constructor
  · intro h
    by_cases h2 : a < 0
    · exact h2
    · have := Int.mul_nonneg (show 0 ≤ a by omega) (show (0 : Int) ≤ 2 ^ k by omega)
      omega
  · intro h; exact Int.mul_neg_of_neg_of_pos h this
theorem mulp_zero {a : Int} (k : Nat) : (a * 2 ^ k = 0) ↔ a = 0 := by
  have := two_pow_posI k
  rw [Int.mul_eq_zero]
  omega
theorem sum_wh {x y : Datum} {a b : Int} (hx : DW x a) (hy : DW y b) (hc : Sm (a + b)) : ∃ d, x.sum y = some d ∧ Wh (some (double.write d)) (a + b) := by
  obtain ⟨s, k, rfl, hs, -, -⟩ := hx
  obtain ⟨t, l, rfl, ht, -, -⟩ := hy
  refine ⟨_, rfl, ?_⟩
  have main : ∀ K : Nat, min (-(k : Int)) (-(l : Int)) = -(K : Int) → k ≤ K → l ≤ K → Wh (some (double.write (.number (if signed s (a.natAbs * 2 ^ k) (-(k : Int) - min (-(k : Int)) (-(l : Int))).toNat + signed t (b.natAbs * 2 ^ l) (-(l : Int) - min (-(k : Int)) (-(l : Int))).toNat = 0 then s && t else decide (signed s (a.natAbs * 2 ^ k) (-(k : Int) - min (-(k : Int)) (-(l : Int))).toNat + signed t (b.natAbs * 2 ^ l) (-(l : Int) - min (-(k : Int)) (-(l : Int))).toNat < 0)) (signed s (a.natAbs * 2 ^ k) (-(k : Int) - min (-(k : Int)) (-(l : Int))).toNat + signed t (b.natAbs * 2 ^ l) (-(l : Int) - min (-(k : Int)) (-(l : Int))).toNat).natAbs (min (-(k : Int)) (-(l : Int)))))) (a + b) := by
    intro K h1 h2 h3
    rw [h1, show (-(k : Int) - -(K : Int)).toNat = K - k by omega, show (-(l : Int) - -(K : Int)).toNat = K - l by omega, signed_val hs, signed_val ht, show k + (K - k) = K by omega, show l + (K - l) = K by omega, ← Int.add_mul]
    simp only [mulp_neg, mulp_zero, natAbs_pow]
    refine ⟨if a + b = 0 then s && t else decide (a + b < 0), ?_, fun h => if_neg h⟩
    show some (double.nearest _ _ _) = _
    rw [nearest_wd _ hc rfl]
  exact main (max k l) (by omega) (by omega) (by omega)
theorem DW.opposite {x : Datum} {a : Int} (h : DW x a) : DW x.opposite (-a) := by
  obtain ⟨s, k, rfl, hs, hk, hl⟩ := h
  refine ⟨!s, k, by simp [Datum.opposite], fun h => ?_, hk, fun h => by rw [Int.natAbs_neg]; exact hl (by omega)⟩
  rw [hs (by omega)]
  by_cases h2 : a < 0
  · rw [decide_eq_true h2, decide_eq_false (by omega)]; rfl
  · rw [decide_eq_false h2, decide_eq_true (by omega)]; rfl
theorem Wh.add {x y : Fl} {a b : Int} (hx : Wh x a) (hy : Wh y b) (ha : Sm a) (hb : Sm b) (hc : Sm (a + b)) : Wh (fadd x y) (a + b) := by
  obtain ⟨u, rfl, hu⟩ := hx.dw ha
  obtain ⟨v, rfl, hv⟩ := hy.dw hb
  obtain ⟨d, e, hd⟩ := sum_wh hu hv hc
  show Wh (((double.read u).sum (double.read v)).map double.write) _
  rw [e]; exact hd
theorem Wh.sub {x y : Fl} {a b : Int} (hx : Wh x a) (hy : Wh y b) (ha : Sm a) (hb : Sm b) (hc : Sm (a - b)) : Wh (fsub x y) (a - b) := by
  obtain ⟨u, rfl, hu⟩ := hx.dw ha
  obtain ⟨v, rfl, hv⟩ := hy.dw hb
  obtain ⟨d, e, hd⟩ := sum_wh hu hv.opposite (by rw [← Int.sub_eq_add_neg]; exact hc)
  show Wh (((double.read u).sum (double.read v).opposite).map double.write) _
  rw [e, Int.sub_eq_add_neg]; exact hd
theorem Wh.mul {x y : Fl} {a b : Int} (hx : Wh x a) (hy : Wh y b) (ha : Sm a) (hb : Sm b) (hc : Sm (a * b)) : Wh (fmul x y) (a * b) := by
  obtain ⟨u, rfl, hu⟩ := hx.dw ha
  obtain ⟨v, rfl, hv⟩ := hy.dw hb
  obtain ⟨s, k, e, hs, -, -⟩ := hu
  obtain ⟨t, l, e', ht, -, -⟩ := hv
  show Wh (((double.read u).product (double.read v)).map double.write) _
  rw [e, e']
  refine ⟨s ^^ t, ?_, fun h => ?_⟩
  · show some (double.nearest (s ^^ t) (a.natAbs * 2 ^ k * (b.natAbs * 2 ^ l)) (-(k : Int) + -(l : Int))) = _
    rw [show (-(k : Int) + -(l : Int)) = -((k + l : Nat) : Int) by omega, nearest_wd (c := (a * b).natAbs) _ hc]
    rw [Int.natAbs_mul, Nat.pow_add]
    ac_rfl
  · have h1 : a ≠ 0 := fun h' => h (by rw [h', Int.zero_mul])
    have h2 : b ≠ 0 := fun h' => h (by rw [h', Int.mul_zero])
    rw [hs h1, ht h2]
    by_cases p : a < 0 <;> by_cases q : b < 0
    · have := Int.mul_pos_of_neg_of_neg p q
      simp [p, q]; omega
    · have := Int.mul_neg_of_neg_of_pos p (show 0 < b by omega)
      simp [p, q]; omega
    · have := Int.mul_neg_of_pos_of_neg (show 0 < a by omega) q
      simp [p, q]; omega
    · have := Int.mul_pos (show 0 < a by omega) (show 0 < b by omega)
      simp [p, q]; omega
theorem Wh.quo {x y : Fl} {a b q : Int} (hx : Wh x a) (hy : Wh y b) (ha : Sm a) (hb : Sm b) (hb0 : 0 < b) (hq : a = q * b) (hc : Sm q) : Wh (fquo x y) q := by
  obtain ⟨u, rfl, hu⟩ := hx.dw ha
  obtain ⟨v, rfl, hv⟩ := hy.dw hb
  obtain ⟨s, k, e, hs, hk, hl⟩ := hu
  obtain ⟨t, l, e', ht, hk', hl'⟩ := hv
  have ht' : t = false := by rw [ht (by omega)]; simp; omega
  subst ht'
  have hbn : b.natAbs ≠ 0 := by omega
  have hb2 : b.natAbs * 2 ^ l ≠ 0 := Nat.mul_ne_zero hbn (by have := Nat.two_pow_pos l; omega)
  have han : a.natAbs = q.natAbs * b.natAbs := by rw [hq, Int.natAbs_mul]
  show Wh (((double.read u).quotient (double.fractionBits + 2) (double.read v)).map double.write) _
  rw [e, e']
  have e2 : double.fractionBits + 2 = 54 := rfl
  rw [e2]
  show Wh (Option.map double.write (if b.natAbs * 2 ^ l = 0 then (if a.natAbs * 2 ^ k = 0 then none else some (.infinity (s ^^ false))) else some (.number (s ^^ false) (2 * ((a.natAbs * 2 ^ k) <<< (54 + (b.natAbs * 2 ^ l).log2 - (a.natAbs * 2 ^ k).log2) / (b.natAbs * 2 ^ l)) + ((a.natAbs * 2 ^ k) <<< (54 + (b.natAbs * 2 ^ l).log2 - (a.natAbs * 2 ^ k).log2) % (b.natAbs * 2 ^ l) != 0).toNat) (-(k : Int) - -(l : Int) - ((54 + (b.natAbs * 2 ^ l).log2 - (a.natAbs * 2 ^ k).log2 : Nat) : Int) - 1)))) q
  rw [if_neg hb2]
  simp only [Option.map_some, Bool.xor_false]
  refine ⟨s, ?_, fun h => ?_⟩
  · have hlb := hl' (by omega)
    have hlog : (b.natAbs * 2 ^ l).log2 = 52 := by rw [log2_mul_pow _ _ hbn]; omega
    rw [hlog]
    obtain ⟨more, hm⟩ : ∃ m, 54 + 52 - (a.natAbs * 2 ^ k).log2 = m := ⟨_, rfl⟩
    rw [hm]
    have hge : l ≤ k + more := by
      by_cases h0 : a = 0
      · subst h0; simp at hm; omega
      · have hla := hl h0
        have : (a.natAbs * 2 ^ k).log2 = 52 := by rw [log2_mul_pow _ _ (by omega)]; omega
        omega
    have hdiv : a.natAbs * 2 ^ k * 2 ^ more = q.natAbs * 2 ^ (k + more - l) * (b.natAbs * 2 ^ l) := by
      rw [han, Nat.mul_assoc (q.natAbs * b.natAbs), ← Nat.pow_add, show q.natAbs * 2 ^ (k + more - l) * (b.natAbs * 2 ^ l) = q.natAbs * b.natAbs * (2 ^ (k + more - l) * 2 ^ l) by ac_rfl, ← Nat.pow_add, show k + more - l + l = k + more by omega]
    have hpos : 0 < b.natAbs * 2 ^ l := by omega
    rw [Nat.shiftLeft_eq, hdiv, Nat.mul_div_cancel _ hpos, Nat.mul_mod_left]
    show some (double.nearest s (2 * (q.natAbs * 2 ^ (k + more - l)) + 0) (-(k : Int) - -(l : Int) - (more : Int) - 1)) = _
    rw [show (-(k : Int) - -(l : Int) - (more : Int) - 1) = -((k + more - l + 1 : Nat) : Int) by omega, nearest_wd (c := q.natAbs) _ hc]
    rw [Nat.pow_succ, Nat.add_zero]; ac_rfl
  · have h0 : a ≠ 0 := by rw [hq]; exact Int.mul_ne_zero h (by omega)
    rw [hs h0, hq]
    by_cases p : q < 0
    · have := Int.mul_neg_of_neg_of_pos p hb0; simp [p, this]
    · have := Int.mul_pos (show 0 < q by omega) hb0; simp [p]; omega
theorem wd_xor (s : Bool) {c : Nat} (h : c < 2 ^ 53) : wd s c ^^^ 2 ^ 63 = wd (!s) c := by
  have key : ∀ x, x < 2 ^ 63 → x ^^^ 2 ^ 63 = 2 ^ 63 + x := by
    intro x hx
    apply Nat.eq_of_testBit_eq
    intro i
    rw [Nat.testBit_xor, Nat.testBit_two_pow]
    by_cases hi : 63 = i
    · subst hi
      rw [Nat.testBit_two_pow_add_eq, Nat.testBit_lt_two_pow hx]; simp
    · by_cases hl : i < 63
      · rw [Nat.testBit_two_pow_add_gt hl]; simp [hi]
      · have h1 : x.testBit i = false := Nat.testBit_lt_two_pow (Nat.lt_of_lt_of_le hx (Nat.pow_le_pow_right (by omega) (by omega)))
        have h2 : (2 ^ 63 + x).testBit i = false := Nat.testBit_lt_two_pow (Nat.lt_of_lt_of_le (show 2 ^ 63 + x < 2 ^ 64 by omega) (Nat.pow_le_pow_right (by omega) (by omega)))
        rw [h1, h2]; simp [hi]
  have hlt : wd false c < 2 ^ 63 := by
    unfold wd
    simp only [Bool.false_eq_true, if_false, Nat.zero_add]
    split
    · simp
    · rename_i h0
      obtain ⟨h1, h2, h3⟩ := log2_bd h0 h
      simp; omega
  have e : wd true c = 2 ^ 63 + wd false c := by unfold wd; simp
  cases s
  · rw [key _ hlt]; exact e.symm
  · rw [e, ← key _ hlt, Nat.xor_assoc, Nat.xor_self, Nat.xor_zero]; rfl
theorem Wh.neg {x : Fl} {a : Int} (h : Wh x a) (ha : Sm a) : Wh (fneg x) (-a) := by
  obtain ⟨s, rfl, hs⟩ := h
  refine ⟨!s, ?_, fun h => ?_⟩
  · show some (wd s a.natAbs ^^^ 2 ^ 63) = _
    rw [wd_xor s ha, Int.natAbs_neg]
  · rw [hs (by omega)]
    by_cases h2 : a < 0
    · rw [decide_eq_true h2, decide_eq_false (by omega)]; rfl
    · rw [decide_eq_false h2, decide_eq_true (by omega)]; rfl
theorem Wh.of_int {a : Int} (ha : Sm a) : Wh (some (FloatKind.f64.nearest a)) a := by
  refine ⟨decide (a < 0), ?_, fun _ => rfl⟩
  show some (double.nearest (decide (a < 0)) a.natAbs 0) = _
  rw [show (0 : Int) = -((0 : Nat) : Int) from rfl, nearest_wd (c := a.natAbs) _ ha (by simp)]
theorem Wh.order {u v : Nat} {a b : Int} (hx : Wh (some u) a) (hy : Wh (some v) b) (ha : Sm a) (hb : Sm b) : double.order u v = some (compare a b) := by
  obtain ⟨u', e, hu⟩ := hx.dw ha; cases e
  obtain ⟨v', e, hv⟩ := hy.dw hb; cases e
  obtain ⟨s, k, e, hs, -, -⟩ := hu
  obtain ⟨t, l, e', ht, -, -⟩ := hv
  unfold Format.order
  rw [e, e']
  show some (compare (signed s _ _) (signed t _ _)) = _
  have main : ∀ K : Nat, min (-(k : Int)) (-(l : Int)) = -(K : Int) → k ≤ K → l ≤ K → compare (signed s (a.natAbs * 2 ^ k) (-(k : Int) - min (-(k : Int)) (-(l : Int))).toNat) (signed t (b.natAbs * 2 ^ l) (-(l : Int) - min (-(k : Int)) (-(l : Int))).toNat) = compare a b := by
    intro K h1 h2 h3
    rw [h1, show (-(k : Int) - -(K : Int)).toNat = K - k by omega, show (-(l : Int) - -(K : Int)).toNat = K - l by omega, signed_val hs, signed_val ht, show k + (K - k) = K by omega, show l + (K - l) = K by omega]
    have hp := two_pow_posI K
    rcases Int.lt_trichotomy a b with h | h | h
    · rw [Int.compare_eq_lt.2 h, Int.compare_eq_lt.2 (Int.mul_lt_mul_of_pos_right h hp)]
    · rw [h]; simp
    · rw [Int.compare_eq_gt.2 h, Int.compare_eq_gt.2 (Int.mul_lt_mul_of_pos_right h hp)]
  rw [main (max k l) (by omega) (by omega) (by omega)]
end Go.Tm
