/- Lemmas of this claim, joined by program. Walks of functions: a plan's transforms. Arrays of floats in an own block; roots of unity in plain Lean: series, eighths of a turn, pairs. Rules for comparisons whose outcome is known; rows of whole numbers. Walks of functions: roots of unity in general. Conditions: each lemma names its own. -/
import Derived.Test.YtdgiiehbbmfgoaaGreatDoorA14
import Derived.Test.YtdgiiehbbmfgoaaGreatDoorA12
set_option linter.all false
namespace Go.Tm
open Go.RowKit Go.Proofs
def Upto (f : Cx → Cx) (ys zs : List CB) (j : Nat) : Prop := ∀ i, i < j → cx (zs.getD i (0, 0)) = f (cx (ys.getD i (0, 0)))
theorem set_getD {zs : List CB} {i j : Nat} {z d : CB} (hj : j < zs.length) : (zs.set j z).getD i d = if i = j then z else zs.getD i d := by
  simp only [List.getD, List.getElem?_set]
  by_cases h : j = i
  · subst h; simp [hj]
  · have : ¬ i = j := fun e => h e.symm
    simp [h, this]
theorem Upto.zero (f : Cx → Cx) (ys zs : List CB) : Upto f ys zs 0 := fun i h => absurd h (Nat.not_lt_zero i)
theorem Upto.step {f : Cx → Cx} {ys zs : List CB} {j : Nat} {z : CB} (h : Upto f ys zs j) (hj : j < zs.length) (hz : cx z = f (cx (ys.getD j (0, 0)))) : Upto f ys (zs.set j z) (j + 1) := by
  intro i hi
  rw [set_getD hj]
  by_cases e : i = j
  · subst e; rw [if_pos rfl]; exact hz
  · rw [if_neg e]; exact h i (by omega)
theorem Upto.all {f : Cx → Cx} {ys zs : List CB} {n : Nat} (h : Upto f ys zs n) (h1 : ys.length = n) (h2 : zs.length = n) : zs.map cx = (ys.map cx).map f := by
  apply List.ext_getElem
  · simp [h1, h2]
  · intro i hi hi2
    simp only [List.length_map] at hi
    have := h i (by omega)
    simp only [List.getD, List.getElem?_eq_getElem hi, List.getElem?_eq_getElem (show i < ys.length by omega), Option.getD_some] at this
    simpa using this
/-- A list laid into the machine's cells. -/
def loadC (N off : Nat) (zs : List Cx) : List Cx := (List.replicate N z0).take off ++ zs ++ (List.replicate N z0).drop (off + zs.length)
theorem load_map (N off n : Nat) (ys : List CB) (h : ys.length = n) : ((List.replicate N (0, 0)).take off ++ ys ++ (List.replicate N (0, 0)).drop (off + n)).map cx = loadC N off (ys.map cx) := by
  subst h
  simp [loadC, z0]
/-- A plan's transform. -/
def fwdC (b : Bld) (zs : List Cx) : List Cx := ((runC b.steps (loadC b.cl.toNat b.i0.toNat zs)).drop b.ou.toNat).take b.ln.toNat
def invC (b : Bld) (zs : List Cx) : List Cx := ((fwdC b (zs.map conjC)).map conjC).map fun z => overC z b.ln

set_option maxRecDepth 100000 in
theorem inf53w45 : Inf Tryz.prog 53 (.complex .f64 0 0) 1 16 := ⟨Tryz.t53, Tryz.type53, rfl, rfl, rfl⟩
set_option maxRecDepth 100000 in
theorem inf163w45 : Inf Tryz.prog 163 (.agg #[.int .i64 0, .int .i64 0, .int .i64 0, .int .i64 0, .int .i64 0, .int .i64 0, .int .i64 0]) 7 56 := ⟨Tryz.t163, Tryz.type163, rfl, rfl, rfl⟩
theorem bld142_0_1_2w45 {v0 v1 v2 : Value} (h : [v0, v1, v2].all Value.oneCell' = true) (w : World) : (Instr.build 142 ([(0, v0), (1, v1), (2, v2)] : List (Nat × Value)).toArray).run Tryz.prog w = .ok (.agg #[v0, v1, v2]) w := by
  simp only [List.all_cons, Bool.and_eq_true, List.all_nil, and_true] at h
  have hv0 := oneCell_cells (v := v0) (by simp_all)
  have hv1 := oneCell_cells (v := v1) (by simp_all)
  have hv2 := oneCell_cells (v := v2) (by simp_all)
  have h1 := fill_set (fun i => ([(0, 1), (1, 1), (2, 1)] : List (Nat × Nat))[i]?) [(0, v0), (1, v1), (2, v2)] [.pointer none, .bool false, .pointer none] (by simp [okF, agg_cells, hv0, hv1, hv2, Nat.beq, Nat.ble])
  simp [setF, agg_cells, hv0, hv1, hv2] at h1
  simp [Instr.build, Tryz.runUnderlying142, Tryz.zeroValue142, Tryz.sizeOf4, Tryz.sizeOf70, Tryz.sizeOf133, agg_cells, h1]
set_option maxRecDepth 100000 in
theorem p_Length (lo hi p : Nat) (P : Pln) (w : World) (pl : PlnR lo hi w p P) (hh : hi ≤ w.heap.size)  :
    Calls Tryz.prog 99 #[.pointer (some ⟨p, 0, none⟩)] w (Ret (fun v w' => v = .int .i64 P.b.ln ∧ w = w')) := by
  obtain ⟨oA, oC, sA, sC, bp, pk, ps⟩ := id pl.ex; have hpa := pl.at_
  refine calls_of_VC (args := [.pointer (some ⟨p, 0, none⟩)]) Tryz.func99 rfl Tryz.ntmps99 rfl (VC.seq (VC.region (VO.mv (Rn.assign rfl) rfl rfl rfl (VO.nil (VQ.then_code (VC.seq (VC.region ?_)))))))
  refine VO.mv (Rn.move rfl) rfl rfl rfl (VO.mv (Rn.nilCheck rfl) rfl rfl rfl (VO.mv (Rn.field Tryz.underlying145 rfl Tryz.sizeOf138 rfl rfl rfl) rfl rfl rfl (VO.mv (Rn.field Tryz.underlying138 rfl Tryz.sizeOf3 rfl rfl rfl) rfl rfl rfl (VO.mv (Rn.load Tryz.isAgg3 rfl (bp.cell rfl)) rfl rfl rfl (VO.mv (Rn.assign rfl) rfl rfl rfl (VO.nil (VQ.then_code ?_)))))))
  refine VC.ret (VQ.ret1 rfl rfl (Ret.mk ?_))
  exact ⟨rfl, rfl⟩

set_option maxRecDepth 100000 in
theorem p_Program (lo hi p : Nat) (P : Pln) (w : World) (pl : PlnR lo hi w p P) (hh : hi ≤ w.heap.size) (hne : 1 ≤ P.b.steps.length) (hlen : P.b.steps.length ≤ 65536) :
    Calls Tryz.prog 105 #[.pointer (some ⟨p, 0, none⟩)] w (Ret (fun v w' => ∃ rs A c, v = .agg #[.int .i64 P.b.ln, .int .i64 P.b.cl, .int .i64 P.b.i0, .int .i64 P.b.ou, .slice A P.b.steps.length c] ∧ SlR (At rs) w' A P.b.steps.length 7 (flatS P.b.steps) ∧ w.heap.size < rs ∧ rs ≤ w'.heap.size ∧ Ch No w w')) := by
  obtain ⟨oA, oC, sA, sC, bp, pk, ps⟩ := id pl.ex; have hpa := pl.at_
  refine calls_of_VC (args := [.pointer (some ⟨p, 0, none⟩)]) Tryz.func105 rfl Tryz.ntmps105 rfl (VC.seq (VC.region (VO.wk (Wk.alloc Tryz.zeroValue138) rfl rfl rfl ?_)))
  rintro _ w1 ⟨p1, rfl, N1⟩
  have c1 := N1.ch
  have e1 := N1.p; have z1 := N1.size
  have b2 := Bk.new N1
  refine VO.nil (VQ.then_code (VC.seq (VC.region (VO.mv (Rn.move rfl) rfl rfl rfl (VO.mv (Rn.nilCheck rfl) rfl rfl rfl (VO.mv (Rn.field Tryz.underlying145 rfl Tryz.sizeOf138 rfl rfl rfl) rfl rfl rfl ?_))))))
  have bp_1 := bp.keep c1
  refine VO.mv (Rn.loads Tryz.isAgg138 Tryz.sizeOf138 rfl rfl (bp_1.part 5 rfl)) rfl rfl rfl (VO.wk (Wk.alloc Tryz.zeroValue138) rfl rfl rfl ?_)
  rintro _ w2 ⟨p2, rfl, N2⟩
  have c2 := N2.ch
  have e2 := N2.p; have z2 := N2.size
  have b3 := Bk.new N2
  refine VO.wk0 (Wk.puts Tryz.sizeOf138 rfl rfl rfl rfl b3 (Nat.le_of_ble_eq_true rfl)) rfl rfl ?_
  intro _ w3 Z3
  have c3 := Z3.ch; have z3 := Z3.size
  have b3_3 := Bk.put Z3
  refine VO.nil (VQ.then_code (VC.seq (VC.region (VO.mv (Rn.field Tryz.underlying138 rfl Tryz.sizeOf136 rfl rfl rfl) rfl rfl rfl (VO.mv (Rn.load Tryz.isAgg136 rfl (b3_3.cell rfl)) rfl rfl rfl ?_)))))
  have cc_0_3 : Ch No w w3 := (Ch.then (E := No) (c1.and c2) c3 (by intro q h1 h2; rcases h2 with h2 | h2 <;> first | exact h2 | (exfalso; omega)))
  have ps_3 := ps.keep cc_0_3
  refine VO.wk (Wk.append (S := _) Tryz.underlying136 inf163w45 rfl (by decide) rfl rfl (Ow.nil _ _ _) ps_3 (flatS_one _) (fun h => absurd h (by omega)) (by omega) (by simp only [maxLen]; omega)) rfl rfl rfl ?_
  rintro _ w4 ⟨r4, A4, k4, rfl, o4, c4, q4⟩
  have z4 := c4.size
  have y4 := o4.lt
  refine VO.mv (Rn.field Tryz.underlying138 rfl Tryz.sizeOf136 rfl rfl rfl) rfl rfl rfl ?_
  have b3_4 := b3_3.to c4 (by first | exact id | omega)
  refine VO.wk0 (Wk.put Tryz.sizeOf136 rfl rfl rfl rfl b3_4 rfl) rfl rfl ?_
  intro _ w5 Z5
  have c5 := Z5.ch; have z5 := Z5.size
  have b3_5 := Bk.put Z5
  refine VO.nil (VQ.then_code (VC.seq (VC.region (VO.mv (Rn.loads Tryz.isAgg138 Tryz.sizeOf138 rfl rfl (b3_5.all' rfl)) rfl rfl rfl ?_))))
  have cc_1_3 : Ch No w1 w3 := (Ch.then (E := No) c2 c3 (by intro q h1 h2; rcases h2 with h2 | h2 <;> first | exact h2 | (exfalso; omega)))
  have b2_3 := b2.keep cc_1_3
  have b2_4 := b2_3.to c4 (by first | exact id | omega)
  have b2_5 := b2_4.to c5 (by first | exact id | omega)
  refine VO.wk0 (Wk.puts Tryz.sizeOf138 rfl rfl rfl rfl b2_5 (Nat.le_of_ble_eq_true rfl)) rfl rfl ?_
  intro _ w6 Z6
  have c6 := Z6.ch; have z6 := Z6.size
  have b2_6 := Bk.put Z6
  refine VO.nil (VQ.then_code (VC.ret (VQ.retc rfl rfl Tryz.isAgg138 Tryz.sizeOf138 rfl (b2_6.all' rfl) (Ret.mk ?_))))
  have rs_5 := o4.to c5 (by first | exact fun _ _ _ _ => id | (intro q h1 h2 hx h3; omega))
  have rs_6 := rs_5.to c6 (by first | exact fun _ _ _ _ => id | (intro q h1 h2 hx h3; omega))
  have rs9 := rs_6; rw [Nat.zero_add, List.nil_append] at rs9
  have yrs := Ow.r_pos rs9 (by omega); have yr2 := rs9.lt
  have CH_3 := (Ch.refl (No) w).and cc_0_3
  have CH_4 : Ch (No) w w4 := CH_3.then c4 (by intro q h1 h2; rcases h2 with h2 | h2 <;> first | exact h2 | (exfalso; omega) | omega)
  have CH_5 : Ch (No) w w5 := CH_4.then c5 (by intro q h1 h2; rcases h2 with h2 | h2 <;> first | exact h2 | (exfalso; omega) | omega)
  have CH_6 : Ch (No) w w6 := CH_5.then c6 (by intro q h1 h2; rcases h2 with h2 | h2 <;> first | exact h2 | (exfalso; omega) | omega)
  exact ⟨_, _, _, congrArg (fun l => Value.agg #[.int .i64 P.b.ln, .int .i64 P.b.cl, .int .i64 P.b.i0, .int .i64 P.b.ou, .slice A4 l k4]) (Nat.zero_add P.b.steps.length), rs9.sl, by omega, by omega, CH_6⟩

set_option maxRecDepth 100000 in
theorem p_conj (SX : Nat → Prop) (X : Option Addr) (n xc : Nat) (ys : List CB) (w : World) (sx : SlR SX w X n 1 (ys.map cxV)) (hX : ∀ q, SX q → q < w.heap.size) (hn : n ≤ 16384)  :
    Calls Tryz.prog 106 #[.slice X n xc] w (Ret (fun v w' => ∃ q zs, v = .slice (some ⟨q, 0, none⟩) n n ∧ CR 53 w' (q + 1) (some ⟨q, 0, none⟩) n n zs ∧ zs.map cx = (ys.map cx).map conjC ∧ w.heap.size ≤ q ∧ Ch No w w')) := by
  have hyl : ys.length = n := by have := sx.len; simpa using this
  refine calls_of_VC (args := [.slice X n xc]) Tryz.func106 rfl Tryz.ntmps106 rfl (VC.seq (VC.region (VO.mv (Rn.assign rfl) rfl rfl rfl (VO.nil (VQ.then_code (VC.seq (VC.region ?_)))))))
  refine VO.mv (Rn.move rfl) rfl rfl rfl (VO.mv (Rn.len Tryz.underlying39 rfl) rfl rfl rfl (VO.wk (Wk.mkC Tryz.underlying39 inf53w45 rfl rfl (by omega) (by omega) (by omega)) rfl rfl rfl ?_))
  rintro _ w1 ⟨p1, rfl, o1, c1, e1, z1⟩
  refine VO.mv (Rn.assign rfl) rfl rfl rfl (VO.nil (VQ.then_code (VC.seq (VC.seq (VC.region (VO.mv (Rn.move rfl) rfl rfl rfl (VO.mv (Rn.len Tryz.underlying39 rfl) rfl rfl rfl ?_)))))))
  refine VO.mv (Rn.move rfl) rfl rfl rfl (VO.nil (VQ.then_code (VC.block ?_)))
  have sx_1 := sx.keep c1
  have CH_1 := (Ch.refl (No) w).and c1
  refine VC.loopS (σ := Nat × List CB) (fun (j, zs) => [(3, .slice (some ⟨p1, 0, none⟩) n n), (9, .slice X n xc), (10, .int .i64 n), (11, .int .i64 j)]) (fun (j, zs) w' => j ≤ n ∧ Upto conjC ys zs j ∧ w1.heap.size ≤ w'.heap.size ∧ CR 53 w' (p1 + 1) (some ⟨p1, 0, none⟩) n n zs ∧ SlR SX w' X n 1 (ys.map cxV) ∧ Ch (No) w w') (fun (j, zs) => n - j) (0, List.replicate n (0, 0)) ?_ ⟨rfl, rfl, rfl, rfl, trivial⟩ ?_
  · exact ⟨(by omega), (Upto.zero _ _ _), (Nat.le_refl _), o1, sx_1, CH_1⟩
  rintro ⟨j, zs⟩ w2 ⟨hj, hu, hsz2, row_2, sx_2, CH_2⟩
  show VC _ _ _ _ [(3, .slice (some ⟨p1, 0, none⟩) n n), (9, .slice X n xc), (10, .int .i64 n), (11, .int .i64 j)] _
  have hzl := CR.len row_2
  refine VC.seq (VC.region (VO.mv (Rn.lss rfl rfl) rfl rfl rfl (VO.nil (VQ.then_code (VC.seq (VC.cond_if rfl (fun hc1 => ?_) (fun hc1 => ?_)))))))
  · skip
    refine VC.skip (VQ.then_code (VC.seq (VC.block (VC.seq (VC.region (VO.mv (Rn.move rfl) rfl rfl rfl (VO.mv (Rn.indexS Tryz.underlying39 Tryz.sizeOf53 rfl rfl (sx_2.ne (by omega)) (by omega) (by omega)) rfl rfl rfl ?_)))))))
    refine VO.mv (Rn.load Tryz.isAgg53 rfl (sx_2.getC (by omega) (by omega))) rfl rfl rfl (VO.mv (Rn.assign rfl) rfl rfl rfl (VO.mv (Rn.assign rfl) rfl rfl rfl (VO.nil (VQ.then_code (VC.region (VO.mv (Rn.move rfl) rfl rfl rfl (VO.mv (Rn.move rfl) rfl rfl rfl ?_)))))))
    refine VO.mv (Rn.move rfl) rfl rfl rfl (VO.wk (Wk.call Tryz.call47 rfl (cplx_Conj _ _ _)) rfl rfl rfl ?_)
    rintro _ w3 ⟨p3, q3, rfl, F3, c3⟩
    have z3 := c3.size
    have row_3 := row_2.keep c3
    refine VO.mv (Rn.indexS Tryz.underlying39 Tryz.sizeOf53 rfl rfl (row_3.sl.ne (by omega)) (by omega) (by omega)) rfl rfl rfl (VO.wk0 (Wk.putC Tryz.sizeOf53 rfl rfl (by omega) row_3) rfl rfl ?_)
    rintro _ w4 ⟨o4, c4, z4⟩
    have y4 := o4.lt
    refine VO.nil (VQ.block_normal (VQ.then_code (VC.region ?_)))
    refine VO.mv (Rn.add rfl rfl (by rw [IntKind.wrap_i64]; omega)) rfl rfl rfl ?_
    refine VO.mv (Rn.move rfl) rfl rfl rfl (VO.nil ?_)
    refine VQ.round (j + 1, zs.set j (p3, q3)) (by first | omega | (dsimp only; omega)) ?_ ⟨rfl, rfl, rfl, rfl, trivial⟩
    have sx_3 := sx_2.keep c3
    have sx_4 := sx_3.to c4 (by first | exact fun _ _ _ _ => id | (intro q h1 h2 hx h3; have := hX q h2; omega))
    have CH_3 := CH_2.and c3
    have CH_4 : Ch (No) w w4 := CH_3.then c4 (by intro q h1 h2; rcases h2 with h2 | h2 <;> first | exact h2 | (exfalso; omega) | omega)
    exact ⟨(by omega), (hu.step (by omega) (by rw [F3, Int.toNat_natCast])), (by omega), o4, sx_4, CH_4⟩
  · skip
    refine VC.exit (VQ.then_exit (VQ.then_exit (VQ.block_exit (VQ.then_code (VC.seq (VC.region (VO.mv (Rn.move rfl) rfl rfl rfl ?_)))))))
    refine VO.mv (Rn.assign rfl) rfl rfl rfl (VO.nil (VQ.then_code (VC.ret (VQ.ret1 rfl rfl (Ret.mk ?_)))))
    have e : j = n := by omega
    rw [e] at hu
    exact ⟨_, _, rfl, row_2, hu.all hyl hzl, by omega, CH_2⟩

set_option maxHeartbeats 1000000 in
set_option maxRecDepth 100000 in
theorem p_Begin0 (lo hi p : Nat) (P : Pln) (SX : Nat → Prop) (X : Option Addr) (n xc : Nat) (ys : List CB) (w : World) (sx : SlR SX w X n 1 (ys.map cxV)) (hX : ∀ q, SX q → q < w.heap.size) (pl : PlnR lo hi w p P) (hh : hi ≤ w.heap.size) (N : Nat) (ok : PrgOk P.b N) (okb : okB P.b) (hne : 1 ≤ P.b.steps.length) (hn : (n : Int) = P.b.ln) (st : StT w) (hG : 12 ≤ w.heap.size)  :
    Calls Tryz.prog 91 #[.pointer (some ⟨p, 0, none⟩), .slice X n xc, .bool false] w (Ret (fun v w' => ∃ q m r rs SA sc CA xs, v = .tuple #[.pointer (some ⟨q, 0, none⟩), .nilIface] ∧ Bk w' q #[.pointer (some ⟨p, 0, none⟩), .bool false, .pointer (some ⟨m, 0, none⟩)] 142 ∧ MacR w' m r P.b N SA sc ⟨(encB P.b).toArray⟩ CA (cntS P.b.steps) 0 0 0 xs ∧ xs.map cx = loadC N P.b.i0.toNat (ys.map cx) ∧ SlR (At rs) w' SA P.b.steps.length 7 (flatS P.b.steps) ∧ (w.heap.size ≤ q ∧ w.heap.size ≤ m ∧ w.heap.size < r ∧ w.heap.size < rs ∧ ¬ rs = r ∧ ¬ rs = m + 1 ∧ ¬ q = m ∧ ¬ r = q + 1) ∧ Ch No w w')) := by
  have hln := ok.ln; have hn1 := ok.n1; have hcl := ok.cl; have hlen := ok.len
  have hyl : ys.length = n := by have := sx.len; simpa using this
  refine calls_of_VC (args := [.pointer (some ⟨p, 0, none⟩), .slice X n xc, .bool false]) Tryz.func91 rfl Tryz.ntmps91 rfl (VC.seq (VC.region (VO.mv (Rn.assign rfl) rfl rfl rfl (VO.mv (Rn.assign rfl) rfl rfl rfl (VO.nil (VQ.then_code (VC.seq ?_)))))))
  refine VC.seq (VC.region (VO.mv (Rn.move rfl) rfl rfl rfl (VO.mv (Rn.len Tryz.underlying39 rfl) rfl rfl rfl (VO.mv (Rn.move rfl) rfl rfl rfl (VO.wk (Wk.call Tryz.call99 rfl (p_Length _ _ _ _ _ pl (by omega))) rfl rfl rfl ?_)))))
  rintro _ _ ⟨rfl, rfl⟩
  refine VO.mv (Rn.neq rfl rfl) rfl rfl rfl (VO.nil (VQ.then_code (VC.cond_if rfl (fun hc1 => ?_) (fun hc1 => ?_))))
  · skip
    omega
  · skip
    refine VC.skip (VQ.then_code (VC.seq (VC.region (VO.mv (Rn.move rfl) rfl rfl rfl (VO.wk (Wk.call Tryz.call105 rfl (p_Program _ _ _ _ _ pl (by omega) hne hlen)) rfl rfl rfl ?_)))))
    rintro _ w1 ⟨r1, A1, k1, rfl, pg1, yr1, yr21, c1⟩
    have z1 := c1.size
    have st_1 := st.keep c1
    refine VO.wk (Wk.call Tryz.call104 rfl (m_New _ _ ok _ _ _ _ st_1 pg1 (by omega) okb (fun y hy => by omega) hne)) rfl rfl rfl ?_
    rintro _ w2 ⟨m2, r2, rs2, sA2, sc2, cA2, rfl, mac2, ss2, hb2, c2⟩
    have ym2 := mac2.bk.lt; have yr2 := Ow.lt mac2.row
    have z2 := c2.size
    refine VO.mv (Rn.move rfl) rfl rfl rfl (VO.mv (Rn.extract rfl rfl) rfl rfl rfl (VO.mv (Rn.extract rfl rfl) rfl rfl rfl (VO.mv (Rn.assign rfl) rfl rfl rfl (VO.mv (Rn.assign rfl) rfl rfl rfl (VO.nil (VQ.then_code (VC.seq ?_)))))))
    refine VC.seq (VC.region (VO.mv (Rn.move rfl) rfl rfl rfl (VO.mv (Rn.nil_neq_nil Tryz.underlying29 rfl) rfl rfl rfl (VO.nil (VQ.then_code (VC.cond_false rfl (VC.skip ?_)))))))
    refine VQ.then_code (VC.seq (VC.seq (VC.region (VO.mv (Rn.move rfl) rfl rfl rfl (VO.nil (VQ.then_code (VC.cond_false rfl ?_)))))))
    refine VC.skip (VQ.then_code (VC.seq (VC.seq (VC.region (VO.mv (Rn.move rfl) rfl rfl rfl (VO.mv (Rn.move rfl) rfl rfl rfl ?_))))))
    have sx_2 := sx.keep (c1.trans c2)
    refine VO.wk (Wk.call Tryz.call107 rfl (m_Load _ _ _ _ _ _ _ _ _ _ _ _ _ _ mac2 ok _ _ n _ _ hn sx_2 (fun q hq hm => by have := hX q hq; omega))) rfl rfl rfl ?_
    rintro _ w3 ⟨rfl, mac3, c3⟩
    have z3 := c3.size
    refine VO.mv (Rn.assign rfl) rfl rfl rfl (VO.nil (VQ.then_code (VC.seq (VC.region (VO.mv (Rn.move rfl) rfl rfl rfl (VO.mv (Rn.nil_neq_nil Tryz.underlying29 rfl) rfl rfl rfl (VO.nil ?_)))))))
    refine VQ.then_code (VC.cond_false rfl (VC.skip (VQ.then_code (VC.seq (VC.region (VO.mv (Rn.move rfl) rfl rfl rfl (VO.mv (Rn.move rfl) rfl rfl rfl ?_)))))))
    refine VO.mv (Rn.move rfl) rfl rfl rfl (VO.mv (Rn.build rfl (bld142_0_1_2w45 rfl)) rfl rfl rfl (VO.wk (Wk.box rfl) rfl rfl rfl ?_))
    rintro _ w4 ⟨p4, rfl, N4⟩
    have c4 := N4.ch
    have e4 := N4.p; have z4 := N4.size
    have b39 := Bk.new N4
    refine VO.mv (Rn.assign rfl) rfl rfl rfl (VO.mv (Rn.assign rfl) rfl rfl rfl (VO.nil (VQ.then_code (VC.ret (VQ.ret2 rfl rfl rfl (Ret.mk ?_))))))
    obtain ⟨hb1, hb2, hb3, hb4, hb5⟩ := hb2
    have mac_4 := mac3.keep c4
    have ss_3 := ss2.to c3 (by first | exact fun _ _ _ _ => id | (intro q h1 h2 hx h3; omega))
    have ss_4 := ss_3.keep c4
    have CH_2 := (Ch.refl (No) w).and (c1.trans c2)
    have CH_3 : Ch (No) w w3 := CH_2.then c3 (by intro q h1 h2; rcases h2 with h2 | h2 <;> first | exact h2 | (exfalso; omega) | omega)
    have CH_4 := CH_3.and c4
    exact ⟨_, _, _, _, _, _, _, _, rfl, b39, mac_4, load_map _ _ _ _ hyl, ss_4, ⟨by omega, by omega, by omega, by omega, by omega, by omega, by omega, by omega⟩, CH_4⟩

set_option maxHeartbeats 1000000 in
set_option maxRecDepth 100000 in
theorem p_Begin1 (lo hi p : Nat) (P : Pln) (SX : Nat → Prop) (X : Option Addr) (n xc : Nat) (ys : List CB) (w : World) (sx : SlR SX w X n 1 (ys.map cxV)) (hX : ∀ q, SX q → q < w.heap.size) (pl : PlnR lo hi w p P) (hh : hi ≤ w.heap.size) (N : Nat) (ok : PrgOk P.b N) (okb : okB P.b) (hne : 1 ≤ P.b.steps.length) (hn : (n : Int) = P.b.ln) (st : StT w) (hG : 12 ≤ w.heap.size)  :
    Calls Tryz.prog 91 #[.pointer (some ⟨p, 0, none⟩), .slice X n xc, .bool true] w (Ret (fun v w' => ∃ q m r rs SA sc CA xs, v = .tuple #[.pointer (some ⟨q, 0, none⟩), .nilIface] ∧ Bk w' q #[.pointer (some ⟨p, 0, none⟩), .bool true, .pointer (some ⟨m, 0, none⟩)] 142 ∧ MacR w' m r P.b N SA sc ⟨(encB P.b).toArray⟩ CA (cntS P.b.steps) 0 0 0 xs ∧ xs.map cx = loadC N P.b.i0.toNat ((ys.map cx).map conjC) ∧ SlR (At rs) w' SA P.b.steps.length 7 (flatS P.b.steps) ∧ (w.heap.size ≤ q ∧ w.heap.size ≤ m ∧ w.heap.size < r ∧ w.heap.size < rs ∧ ¬ rs = r ∧ ¬ rs = m + 1 ∧ ¬ q = m ∧ ¬ r = q + 1) ∧ Ch No w w')) := by
  have hln := ok.ln; have hn1 := ok.n1; have hcl := ok.cl; have hlen := ok.len
  have hyl : ys.length = n := by have := sx.len; simpa using this
  refine calls_of_VC (args := [.pointer (some ⟨p, 0, none⟩), .slice X n xc, .bool true]) Tryz.func91 rfl Tryz.ntmps91 rfl (VC.seq (VC.region (VO.mv (Rn.assign rfl) rfl rfl rfl (VO.mv (Rn.assign rfl) rfl rfl rfl (VO.nil (VQ.then_code (VC.seq ?_)))))))
  refine VC.seq (VC.region (VO.mv (Rn.move rfl) rfl rfl rfl (VO.mv (Rn.len Tryz.underlying39 rfl) rfl rfl rfl (VO.mv (Rn.move rfl) rfl rfl rfl (VO.wk (Wk.call Tryz.call99 rfl (p_Length _ _ _ _ _ pl (by omega))) rfl rfl rfl ?_)))))
  rintro _ _ ⟨rfl, rfl⟩
  refine VO.mv (Rn.neq rfl rfl) rfl rfl rfl (VO.nil (VQ.then_code (VC.cond_if rfl (fun hc1 => ?_) (fun hc1 => ?_))))
  · skip
    omega
  · skip
    refine VC.skip (VQ.then_code (VC.seq (VC.region (VO.mv (Rn.move rfl) rfl rfl rfl (VO.wk (Wk.call Tryz.call105 rfl (p_Program _ _ _ _ _ pl (by omega) hne hlen)) rfl rfl rfl ?_)))))
    rintro _ w1 ⟨r1, A1, k1, rfl, pg1, yr1, yr21, c1⟩
    have z1 := c1.size
    have st_1 := st.keep c1
    refine VO.wk (Wk.call Tryz.call104 rfl (m_New _ _ ok _ _ _ _ st_1 pg1 (by omega) okb (fun y hy => by omega) hne)) rfl rfl rfl ?_
    rintro _ w2 ⟨m2, r2, rs2, sA2, sc2, cA2, rfl, mac2, ss2, hb2, c2⟩
    have ym2 := mac2.bk.lt; have yr2 := Ow.lt mac2.row
    have z2 := c2.size
    refine VO.mv (Rn.move rfl) rfl rfl rfl (VO.mv (Rn.extract rfl rfl) rfl rfl rfl (VO.mv (Rn.extract rfl rfl) rfl rfl rfl (VO.mv (Rn.assign rfl) rfl rfl rfl (VO.mv (Rn.assign rfl) rfl rfl rfl (VO.nil (VQ.then_code (VC.seq ?_)))))))
    refine VC.seq (VC.region (VO.mv (Rn.move rfl) rfl rfl rfl (VO.mv (Rn.nil_neq_nil Tryz.underlying29 rfl) rfl rfl rfl (VO.nil (VQ.then_code (VC.cond_false rfl (VC.skip ?_)))))))
    refine VQ.then_code (VC.seq (VC.seq (VC.region (VO.mv (Rn.move rfl) rfl rfl rfl (VO.nil (VQ.then_code (VC.cond_true rfl ?_)))))))
    refine VC.region (VO.mv (Rn.move rfl) rfl rfl rfl ?_)
    have sx_2 := sx.keep (c1.trans c2)
    refine VO.wk (Wk.call Tryz.call106 rfl (p_conj _ _ _ _ _ _ sx_2 (fun q hq => by have := hX q hq; omega) (by omega))) rfl rfl rfl ?_
    rintro _ w3 ⟨q3, zs3, rfl, cj3, hz3, e3, c3⟩
    have ycj3 := Ow.lt cj3
    have z3 := c3.size
    refine VO.mv (Rn.assign rfl) rfl rfl rfl (VO.nil (VQ.then_code (VC.seq (VC.seq (VC.region (VO.mv (Rn.move rfl) rfl rfl rfl (VO.mv (Rn.move rfl) rfl rfl rfl ?_)))))))
    have mac_3 := mac2.keep c3
    refine VO.wk (Wk.call Tryz.call107 rfl (m_Load _ _ _ _ _ _ _ _ _ _ _ _ _ _ mac_3 ok _ _ n _ _ hn cj3.sl (fun q hq hm => by omega))) rfl rfl rfl ?_
    rintro _ w4 ⟨rfl, mac4, c4⟩
    have z4 := c4.size
    refine VO.mv (Rn.assign rfl) rfl rfl rfl (VO.nil (VQ.then_code (VC.seq (VC.region (VO.mv (Rn.move rfl) rfl rfl rfl (VO.mv (Rn.nil_neq_nil Tryz.underlying29 rfl) rfl rfl rfl (VO.nil ?_)))))))
    refine VQ.then_code (VC.cond_false rfl (VC.skip (VQ.then_code (VC.seq (VC.region (VO.mv (Rn.move rfl) rfl rfl rfl (VO.mv (Rn.move rfl) rfl rfl rfl ?_)))))))
    refine VO.mv (Rn.move rfl) rfl rfl rfl (VO.mv (Rn.build rfl (bld142_0_1_2w45 rfl)) rfl rfl rfl (VO.wk (Wk.box rfl) rfl rfl rfl ?_))
    rintro _ w5 ⟨p5, rfl, N5⟩
    have c5 := N5.ch
    have e5 := N5.p; have z5 := N5.size
    have b39 := Bk.new N5
    refine VO.mv (Rn.assign rfl) rfl rfl rfl (VO.mv (Rn.assign rfl) rfl rfl rfl (VO.nil (VQ.then_code (VC.ret (VQ.ret2 rfl rfl rfl (Ret.mk ?_))))))
    obtain ⟨hb1, hb2, hb3, hb4, hb5⟩ := hb2
    have mac_5 := mac4.keep c5
    have ss_3 := ss2.keep c3
    have ss_4 := ss_3.to c4 (by first | exact fun _ _ _ _ => id | (intro q h1 h2 hx h3; omega))
    have ss_5 := ss_4.keep c5
    have CH_3 := (Ch.refl (No) w).and (c1.trans (c2.trans c3))
    have CH_4 : Ch (No) w w4 := CH_3.then c4 (by intro q h1 h2; rcases h2 with h2 | h2 <;> first | exact h2 | (exfalso; omega) | omega)
    have CH_5 := CH_4.and c5
    exact ⟨_, _, _, _, _, _, _, _, rfl, b39, mac_5, (by rw [load_map _ _ _ _ (CR.len cj3), hz3]), ss_5, ⟨by omega, by omega, by omega, by omega, by omega, by omega, by omega, by omega⟩, CH_5⟩

set_option maxRecDepth 100000 in
theorem r_Left (q p m r : Nat) (b : Bld) (N : Nat) (SA : Option Addr) (sc : Nat) (bs : ByteArray) (CA : Option Addr) (ac dn sn at_ : Int) (xs : List CB) (w : World) (I : Bool) (rb : Bk w q #[.pointer (some ⟨p, 0, none⟩), .bool I, .pointer (some ⟨m, 0, none⟩)] 142) (mac : MacR w m r b N SA sc bs CA ac dn sn at_ xs) (hac : 0 ≤ ac ∧ ac ≤ 1000000000) (hdn : 0 ≤ dn ∧ dn ≤ 1000000000) :
    Calls Tryz.prog 92 #[.pointer (some ⟨q, 0, none⟩)] w (Ret (fun v w' => v = .int .i64 (ac - dn) ∧ Ch No w w')) := by
  refine calls_of_VC (args := [.pointer (some ⟨q, 0, none⟩)]) Tryz.func92 rfl Tryz.ntmps92 rfl (VC.seq (VC.region (VO.mv (Rn.assign rfl) rfl rfl rfl (VO.nil (VQ.then_code (VC.seq (VC.region ?_)))))))
  refine VO.mv (Rn.move rfl) rfl rfl rfl (VO.mv (Rn.nilCheck rfl) rfl rfl rfl (VO.mv (Rn.field Tryz.underlying142 rfl Tryz.sizeOf133 rfl rfl rfl) rfl rfl rfl (VO.mv (Rn.load Tryz.isAgg133 rfl (rb.cell rfl)) rfl rfl rfl (VO.wk (Wk.call Tryz.call108 rfl (m_Left _ _ _ _ _ _ _ _ _ _ _ _ mac.bk (by omega) (by omega))) rfl rfl rfl ?_))))
  rintro _ w1 ⟨rfl, c1⟩
  have z1 := c1.size
  refine VO.mv (Rn.assign rfl) rfl rfl rfl (VO.nil (VQ.then_code (VC.ret (VQ.ret1 rfl rfl (Ret.mk ?_)))))
  have CH_1 := (Ch.refl (No) w).and c1
  exact ⟨rfl, CH_1⟩

set_option maxRecDepth 100000 in
theorem r_Do (q p m r : Nat) (b : Bld) (N : Nat) (SA : Option Addr) (sc : Nat) (bs : ByteArray) (CA : Option Addr) (ac : Int) (xs : List CB) (w : World) (I : Bool) (rb : Bk w q #[.pointer (some ⟨p, 0, none⟩), .bool I, .pointer (some ⟨m, 0, none⟩)] 142) (mac : MacR w m r b N SA sc bs CA ac 0 0 0 xs) (hN : N ≤ 1000000) (hac : ac = cntS b.steps) (hac1 : 1 ≤ ac) (hac2 : ac ≤ 100000000) (hok : ∀ s ∈ b.steps, StepOk s N) (hl : b.steps.length ≤ 1000000) (S : Nat → Prop) (hS : ∀ q, S q → ¬ MS m r q) (ss : SlR S w SA b.steps.length 7 (flatS b.steps)) (z : Int) (hz : ac = z) :
    Calls Tryz.prog 93 #[.pointer (some ⟨q, 0, none⟩), .int .i64 z] w (Ret (fun v w' => v = .tuple #[.int .i64 ac, .nilIface] ∧ ∃ ys, MacR w' m r b N SA sc bs CA ac ac b.steps.length 0 ys ∧ ys.map cx = runC b.steps (xs.map cx) ∧ Ch (MS m r) w w')) := by
  refine calls_of_VC (args := [.pointer (some ⟨q, 0, none⟩), .int .i64 z]) Tryz.func93 rfl Tryz.ntmps93 rfl ?_
  subst hz
  refine VC.seq (VC.region (VO.mv (Rn.assign rfl) rfl rfl rfl (VO.mv (Rn.assign rfl) rfl rfl rfl (VO.nil (VQ.then_code (VC.seq (VC.region ?_)))))))
  refine VO.mv (Rn.move rfl) rfl rfl rfl (VO.mv (Rn.nilCheck rfl) rfl rfl rfl (VO.mv (Rn.field Tryz.underlying142 rfl Tryz.sizeOf133 rfl rfl rfl) rfl rfl rfl (VO.mv (Rn.load Tryz.isAgg133 rfl (rb.cell rfl)) rfl rfl rfl (VO.mv (Rn.move rfl) rfl rfl rfl (VO.wk (Wk.call Tryz.call109 rfl (m_Run m r b N SA sc bs CA ac xs _ mac (by omega) hac hac1 hac2 hok hl S hS ss)) rfl rfl rfl ?_)))))
  rintro _ w1 ⟨rfl, ys1, mac1, hy1, c1⟩
  have z1 := c1.size
  refine VO.mv (Rn.extract rfl rfl) rfl rfl rfl (VO.mv (Rn.extract rfl rfl) rfl rfl rfl (VO.mv (Rn.assign rfl) rfl rfl rfl (VO.mv (Rn.assign rfl) rfl rfl rfl (VO.nil (VQ.then_code (VC.ret (VQ.ret2 rfl rfl rfl ?_)))))))
  refine Ret.mk ?_
  have CH_1 : Ch (MS m r) w w1 := (Ch.refl (MS m r) w).then c1 (by intro q h1 h2; rcases h2 with h2 | h2 <;> first | exact h2 | (exfalso; omega) | omega)
  exact ⟨rfl, _, mac1, hy1, CH_1⟩

set_option maxHeartbeats 1000000 in
set_option maxRecDepth 100000 in
theorem r_Result0 (q p m r : Nat) (b : Bld) (N : Nat) (SA : Option Addr) (sc : Nat) (bs : ByteArray) (CA : Option Addr) (ac : Int) (xs : List CB) (w : World) (rb : Bk w q #[.pointer (some ⟨p, 0, none⟩), .bool false, .pointer (some ⟨m, 0, none⟩)] 142) (mac : MacR w m r b N SA sc bs CA ac ac b.steps.length 0 xs) (ok : PrgOk b N) (hac : 0 ≤ ac ∧ ac ≤ 1000000000) :
    Calls Tryz.prog 94 #[.pointer (some ⟨q, 0, none⟩)] w (Ret (fun v w' => ∃ r' A' c' zs, v = .tuple #[.slice A' b.ln.toNat c', .nilIface] ∧ CR 53 w' r' A' b.ln.toNat c' zs ∧ zs.map cx = ((xs.map cx).drop b.ou.toNat).take b.ln.toNat ∧ w.heap.size < r' ∧ Ch No w w')) := by
  have hln := ok.ln
  refine calls_of_VC (args := [.pointer (some ⟨q, 0, none⟩)]) Tryz.func94 rfl Tryz.ntmps94 rfl (VC.seq (VC.region (VO.mv (Rn.assign rfl) rfl rfl rfl (VO.mv (Rn.assign rfl) rfl rfl rfl (VO.nil (VQ.then_code (VC.seq ?_)))))))
  refine VC.region (VO.mv (Rn.move rfl) rfl rfl rfl (VO.mv (Rn.nilCheck rfl) rfl rfl rfl (VO.mv (Rn.field Tryz.underlying142 rfl Tryz.sizeOf133 rfl rfl rfl) rfl rfl rfl (VO.mv (Rn.load Tryz.isAgg133 rfl (rb.cell rfl)) rfl rfl rfl (VO.wk (Wk.call Tryz.call110 rfl (m_Out _ _ _ _ _ _ _ _ _ _ _ _ _ mac ok (by omega))) rfl rfl rfl ?_)))))
  rintro _ w1 ⟨r1, A1, k1, rfl, out1, yo1, c1⟩
  have z1 := c1.size
  refine VO.mv (Rn.move rfl) rfl rfl rfl (VO.mv (Rn.extract rfl rfl) rfl rfl rfl (VO.mv (Rn.extract rfl rfl) rfl rfl rfl (VO.mv (Rn.assign rfl) rfl rfl rfl (VO.mv (Rn.assign rfl) rfl rfl rfl (VO.nil (VQ.then_code (VC.seq ?_)))))))
  refine VC.seq (VC.region (VO.mv (Rn.move rfl) rfl rfl rfl (VO.mv (Rn.nil_neq_nil Tryz.underlying29 rfl) rfl rfl rfl (VO.mv (Rn.move rfl) rfl rfl rfl (VO.mv (Rn.move rfl) rfl rfl rfl (VO.mv (Rn.nilCheck rfl) rfl rfl rfl (VO.mv (Rn.field Tryz.underlying142 rfl Tryz.sizeOf4 rfl rfl rfl) rfl rfl rfl ?_)))))))
  have rb_1 := rb.keep c1
  refine VO.mv (Rn.load Tryz.isAgg4 rfl (rb_1.cell rfl)) rfl rfl rfl (VO.mv (Rn.not rfl) rfl rfl rfl (VO.mv (Rn.pick_false rfl rfl) rfl rfl rfl (VO.nil (VQ.then_code (VC.cond_true rfl (VC.seq (VC.region ?_)))))))
  refine VO.mv (Rn.move rfl) rfl rfl rfl (VO.mv (Rn.move rfl) rfl rfl rfl (VO.mv (Rn.assign rfl) rfl rfl rfl (VO.mv (Rn.assign rfl) rfl rfl rfl (VO.nil (VQ.then_code (VC.ret (VQ.then_ret ?_)))))))
  refine VQ.ret2 rfl rfl rfl (Ret.mk ?_)
  have CH_1 := (Ch.refl (No) w).and c1
  exact ⟨_, _, _, _, rfl, out1, by rw [List.map_take, List.map_drop], by omega, CH_1⟩

set_option maxHeartbeats 1000000 in
set_option maxRecDepth 100000 in
theorem r_Result1 (q p m r : Nat) (b : Bld) (N : Nat) (SA : Option Addr) (sc : Nat) (bs : ByteArray) (CA : Option Addr) (ac : Int) (xs : List CB) (w : World) (rb : Bk w q #[.pointer (some ⟨p, 0, none⟩), .bool true, .pointer (some ⟨m, 0, none⟩)] 142) (mac : MacR w m r b N SA sc bs CA ac ac b.steps.length 0 xs) (ok : PrgOk b N) (hac : 0 ≤ ac ∧ ac ≤ 1000000000) :
    Calls Tryz.prog 94 #[.pointer (some ⟨q, 0, none⟩)] w (Ret (fun v w' => ∃ r' A' c' zs, v = .tuple #[.slice A' b.ln.toNat c', .nilIface] ∧ CR 53 w' r' A' b.ln.toNat c' zs ∧ zs.map cx = ((((xs.map cx).drop b.ou.toNat).take b.ln.toNat).map conjC).map (fun z => overC z b.ln) ∧ w.heap.size < r' ∧ Ch No w w')) := by
  have hln := ok.ln
  refine calls_of_VC (args := [.pointer (some ⟨q, 0, none⟩)]) Tryz.func94 rfl Tryz.ntmps94 rfl (VC.seq (VC.region (VO.mv (Rn.assign rfl) rfl rfl rfl (VO.mv (Rn.assign rfl) rfl rfl rfl (VO.nil (VQ.then_code (VC.seq ?_)))))))
  refine VC.region (VO.mv (Rn.move rfl) rfl rfl rfl (VO.mv (Rn.nilCheck rfl) rfl rfl rfl (VO.mv (Rn.field Tryz.underlying142 rfl Tryz.sizeOf133 rfl rfl rfl) rfl rfl rfl (VO.mv (Rn.load Tryz.isAgg133 rfl (rb.cell rfl)) rfl rfl rfl (VO.wk (Wk.call Tryz.call110 rfl (m_Out _ _ _ _ _ _ _ _ _ _ _ _ _ mac ok (by omega))) rfl rfl rfl ?_)))))
  rintro _ w1 ⟨r1, A1, k1, rfl, out1, yo1, c1⟩
  have z1 := c1.size
  refine VO.mv (Rn.move rfl) rfl rfl rfl (VO.mv (Rn.extract rfl rfl) rfl rfl rfl (VO.mv (Rn.extract rfl rfl) rfl rfl rfl (VO.mv (Rn.assign rfl) rfl rfl rfl (VO.mv (Rn.assign rfl) rfl rfl rfl (VO.nil (VQ.then_code (VC.seq ?_)))))))
  refine VC.seq (VC.region (VO.mv (Rn.move rfl) rfl rfl rfl (VO.mv (Rn.nil_neq_nil Tryz.underlying29 rfl) rfl rfl rfl (VO.mv (Rn.move rfl) rfl rfl rfl (VO.mv (Rn.move rfl) rfl rfl rfl (VO.mv (Rn.nilCheck rfl) rfl rfl rfl (VO.mv (Rn.field Tryz.underlying142 rfl Tryz.sizeOf4 rfl rfl rfl) rfl rfl rfl ?_)))))))
  have rb_1 := rb.keep c1
  refine VO.mv (Rn.load Tryz.isAgg4 rfl (rb_1.cell rfl)) rfl rfl rfl (VO.mv (Rn.not rfl) rfl rfl rfl (VO.mv (Rn.pick_false rfl rfl) rfl rfl rfl (VO.nil (VQ.then_code (VC.cond_false rfl (VC.skip (VQ.then_code ?_)))))))
  refine VC.seq (VC.region (VO.mv (Rn.move rfl) rfl rfl rfl ?_))
  refine VO.wk (Wk.call Tryz.call106 rfl (p_conj _ _ _ _ _ _ out1.sl (fun q hq => by have := (out1).lt; omega) (by omega))) rfl rfl rfl ?_
  rintro _ w2 ⟨q2, zs2, rfl, cj2, hz2, e2, c2⟩
  have ycj2 := Ow.lt cj2
  have z2 := c2.size
  refine VO.mv (Rn.assign rfl) rfl rfl rfl (VO.nil (VQ.then_code (VC.seq (VC.seq (VC.region (VO.mv (Rn.move rfl) rfl rfl rfl (VO.mv (Rn.len Tryz.underlying39 rfl) rfl rfl rfl ?_)))))))
  refine VO.mv (Rn.move rfl) rfl rfl rfl (VO.nil (VQ.then_code (VC.block ?_)))
  have CH_2 := (Ch.refl (No) w).and (c1.trans c2)
  refine VC.loopS (σ := Nat × List CB) (fun (j, zs) => [(4, .slice (some ⟨q2, 0, none⟩) b.ln.toNat b.ln.toNat), (29, .slice (some ⟨q2, 0, none⟩) b.ln.toNat b.ln.toNat), (30, .int .i64 (b.ln.toNat : Nat)), (31, .int .i64 j)]) (fun (j, zs) w' => j ≤ b.ln.toNat ∧ Upto (fun z => overC z b.ln) zs2 zs j ∧ (∀ i, j ≤ i → zs.getD i (0, 0) = zs2.getD i (0, 0)) ∧ w2.heap.size ≤ w'.heap.size ∧ CR 53 w' (q2 + 1) (some ⟨q2, 0, none⟩) b.ln.toNat b.ln.toNat zs ∧ Ch (No) w w') (fun (j, zs) => b.ln.toNat - j) (0, zs2) ?_ ⟨rfl, rfl, rfl, rfl, trivial⟩ ?_
  · exact ⟨(by omega), (Upto.zero _ _ _), (fun i _ => rfl), (Nat.le_refl _), cj2, CH_2⟩
  rintro ⟨j, zs⟩ w3 ⟨hj, hu, hsm, hsz3, cj_3, CH_3⟩
  show VC _ _ _ _ [(4, .slice (some ⟨q2, 0, none⟩) b.ln.toNat b.ln.toNat), (29, .slice (some ⟨q2, 0, none⟩) b.ln.toNat b.ln.toNat), (30, .int .i64 (b.ln.toNat : Nat)), (31, .int .i64 j)] _
  have hzl := CR.len cj_3
  have hlc : ((b.ln.toNat : Nat) : Int) = b.ln := by omega
  refine VC.seq (VC.region (VO.mv (Rn.lss rfl rfl) rfl rfl rfl (VO.nil (VQ.then_code (VC.seq (VC.cond_if rfl (fun hc1 => ?_) (fun hc1 => ?_)))))))
  · skip
    refine VC.skip (VQ.then_code (VC.seq (VC.block (VC.seq (VC.region (VO.mv (Rn.move rfl) rfl rfl rfl (VO.mv (Rn.indexS Tryz.underlying39 Tryz.sizeOf53 rfl rfl (cj_3.sl.ne (by omega)) (by omega) (by omega)) rfl rfl rfl ?_)))))))
    refine VO.mv (Rn.load Tryz.isAgg53 rfl (cj_3.sl.getC (by omega) (by omega))) rfl rfl rfl (VO.mv (Rn.assign rfl) rfl rfl rfl (VO.mv (Rn.assign rfl) rfl rfl rfl (VO.nil (VQ.then_code (VC.region (VO.mv (Rn.move rfl) rfl rfl rfl (VO.mv (Rn.move rfl) rfl rfl rfl ?_)))))))
    refine VO.mv (Rn.move rfl) rfl rfl rfl (VO.mv (Rn.move rfl) rfl rfl rfl (VO.mv (Rn.len Tryz.underlying39 rfl) rfl rfl rfl (VO.wk (Wk.call Tryz.call111 rfl (cplx_Over _ _ _ _)) rfl rfl rfl ?_)))
    rintro _ w4 ⟨p4, q4, rfl, F4, c4⟩
    have z4 := c4.size
    have cj_4 := cj_3.keep c4
    refine VO.mv (Rn.indexS Tryz.underlying39 Tryz.sizeOf53 rfl rfl (cj_4.sl.ne (by omega)) (by omega) (by omega)) rfl rfl rfl (VO.wk0 (Wk.putC Tryz.sizeOf53 rfl rfl (by omega) cj_4) rfl rfl ?_)
    rintro _ w5 ⟨o5, c5, z5⟩
    have y5 := o5.lt
    refine VO.nil (VQ.block_normal (VQ.then_code (VC.region ?_)))
    refine VO.mv (Rn.add rfl rfl (by rw [IntKind.wrap_i64]; omega)) rfl rfl rfl ?_
    refine VO.mv (Rn.move rfl) rfl rfl rfl (VO.nil ?_)
    refine VQ.round (j + 1, zs.set j (p4, q4)) (by first | omega | (dsimp only; omega)) ?_ ⟨rfl, rfl, rfl, rfl, trivial⟩
    have CH_4 := CH_3.and c4
    have CH_5 : Ch (No) w w5 := CH_4.then c5 (by intro q h1 h2; rcases h2 with h2 | h2 <;> first | exact h2 | (exfalso; omega) | omega)
    exact ⟨(by omega), (hu.step (by omega) (by rw [F4, Int.toNat_natCast, hlc, ← hsm j (Nat.le_refl _)])), (fun i hi => by rw [set_getD (by omega), if_neg (by omega)]; exact hsm i (by omega)), (by omega), o5, CH_5⟩
  · skip
    refine VC.exit (VQ.then_exit (VQ.then_exit (VQ.block_exit (VQ.then_code (VC.seq (VC.region (VO.mv (Rn.move rfl) rfl rfl rfl ?_)))))))
    refine VO.mv (Rn.assign rfl) rfl rfl rfl (VO.mv (Rn.assign rfl) rfl rfl rfl (VO.nil (VQ.then_code (VC.ret (VQ.ret2 rfl rfl rfl (Ret.mk ?_))))))
    have e : j = b.ln.toNat := by omega
    rw [e] at hu
    have hz9 := hu.all (CR.len cj2) (CR.len cj_3)
    have y9 := Ow.lt cj_3
    exact ⟨_, _, _, _, rfl, cj_3, by rw [hz9, hz2, List.map_take, List.map_drop], by omega, CH_3⟩

set_option maxHeartbeats 1000000 in
set_option maxRecDepth 100000 in
theorem p_whole0 (lo hi p : Nat) (P : Pln) (SX : Nat → Prop) (X : Option Addr) (n xc : Nat) (ys : List CB) (w : World) (sx : SlR SX w X n 1 (ys.map cxV)) (hX : ∀ q, SX q → q < w.heap.size) (pl : PlnR lo hi w p P) (hh : hi ≤ w.heap.size) (N : Nat) (ok : PrgOk P.b N) (okb : okB P.b) (hne : 1 ≤ P.b.steps.length) (hn : (n : Int) = P.b.ln) (st : StT w) (hG : 12 ≤ w.heap.size) (hac1 : 1 ≤ cntS P.b.steps)  :
    Calls Tryz.prog 70 #[.pointer (some ⟨p, 0, none⟩), .slice X n xc, .bool false] w (Ret (fun v w' => ∃ r' A' c' zs, v = .tuple #[.slice A' P.b.ln.toNat c', .nilIface] ∧ CR 53 w' r' A' P.b.ln.toNat c' zs ∧ zs.map cx = fwdC P.b (ys.map cx) ∧ w.heap.size < r' ∧ Ch No w w')) := by
  have hln := ok.ln; have hn1 := ok.n1; have hcl := ok.cl; have hlen := ok.len
  have hyl : ys.length = n := by have := sx.len; simpa using this
  refine calls_of_VC (args := [.pointer (some ⟨p, 0, none⟩), .slice X n xc, .bool false]) Tryz.func70 rfl Tryz.ntmps70 rfl (VC.seq (VC.region (VO.mv (Rn.assign rfl) rfl rfl rfl (VO.mv (Rn.assign rfl) rfl rfl rfl (VO.nil (VQ.then_code (VC.seq ?_)))))))
  refine VC.region (VO.mv (Rn.move rfl) rfl rfl rfl (VO.mv (Rn.move rfl) rfl rfl rfl (VO.mv (Rn.move rfl) rfl rfl rfl (VO.wk (Wk.call Tryz.call91 rfl (p_Begin0 _ _ _ _ _ _ _ _ _ _ sx hX pl (by omega) _ ok okb hne hn st (by omega))) rfl rfl rfl ?_))))
  rintro _ w1 ⟨q1, m1, r1, rs1, sA1, sc1, cA1, xs1, rfl, rb1, mac1, hx1, ss1, hb1, c1⟩
  obtain ⟨hb1, hb2, hb3, hb4, hb5, hb6, hb7, hb8⟩ := hb1
  have yq1 := rb1.lt; have ym1 := mac1.bk.lt; have yr1 := Ow.lt mac1.row
  have hS : ∀ y, At rs1 y → ¬ MS m1 r1 y := fun y h1 h2 => by omega
  have hok := ok.ok; have hac2 : cntS P.b.steps ≤ 100000000 := by have := ok.act; omega
  have z1 := c1.size
  refine VO.mv (Rn.move rfl) rfl rfl rfl (VO.mv (Rn.extract rfl rfl) rfl rfl rfl (VO.mv (Rn.extract rfl rfl) rfl rfl rfl (VO.mv (Rn.assign rfl) rfl rfl rfl (VO.mv (Rn.assign rfl) rfl rfl rfl (VO.nil (VQ.then_code (VC.seq ?_)))))))
  refine VC.seq (VC.region (VO.mv (Rn.move rfl) rfl rfl rfl (VO.mv (Rn.nil_neq_nil Tryz.underlying29 rfl) rfl rfl rfl (VO.nil (VQ.then_code (VC.cond_false rfl (VC.skip ?_)))))))
  refine VQ.then_code (VC.seq (VC.seq (VC.region (VO.mv (Rn.move rfl) rfl rfl rfl (VO.wk (Wk.call Tryz.call92 rfl (r_Left _ _ _ _ _ _ _ _ _ _ _ _ _ _ _ _ _ rb1 mac1 (by omega) (by omega))) rfl rfl rfl ?_)))))
  rintro _ w2 ⟨rfl, c2⟩
  have z2 := c2.size
  refine VO.mv (Rn.gtr rfl rfl) rfl rfl rfl (VO.nil (VQ.then_code (VC.cond_if rfl (fun hc1 => ?_) (fun hc1 => ?_))))
  · skip
    refine VC.seq (VC.region (VO.mv (Rn.move rfl) rfl rfl rfl (VO.mv (Rn.move rfl) rfl rfl rfl ?_)))
    have rb_2 := rb1.keep c2
    have mac_2 := mac1.keep c2
    refine VO.wk (Wk.call Tryz.call92 rfl (r_Left _ _ _ _ _ _ _ _ _ _ _ _ _ _ _ _ _ rb_2 mac_2 (by omega) (by omega))) rfl rfl rfl ?_
    rintro _ w3 ⟨rfl, c3⟩
    have z3 := c3.size
    have rb_3 := rb_2.keep c3
    have mac_3 := mac_2.keep c3
    have ss_3 := ss1.keep (c2.trans c3)
    refine VO.wk (Wk.call Tryz.call93 rfl (r_Do _ _ _ _ _ _ _ _ _ _ _ _ _ _ rb_3 mac_3 (by omega) rfl hac1 hac2 hok (by omega) _ hS ss_3 _ (by omega))) rfl rfl rfl ?_
    rintro _ w4 ⟨rfl, ys4, mac4, hy4, c4⟩
    have z4 := c4.size
    refine VO.mv (Rn.move rfl) rfl rfl rfl (VO.mv (Rn.extract rfl rfl) rfl rfl rfl (VO.mv (Rn.extract rfl rfl) rfl rfl rfl (VO.mv (Rn.assign rfl) rfl rfl rfl (VO.mv (Rn.assign rfl) rfl rfl rfl (VO.nil (VQ.then_code (VC.seq ?_)))))))
    refine VC.region (VO.mv (Rn.move rfl) rfl rfl rfl (VO.mv (Rn.nil_neq_nil Tryz.underlying29 rfl) rfl rfl rfl (VO.nil (VQ.then_code (VC.cond_false rfl (VC.skip (VQ.then_code ?_)))))))
    refine VC.seq (VC.region (VO.mv (Rn.move rfl) rfl rfl rfl ?_))
    have rb_4 := rb_3.to c4 (by first | exact id | omega)
    refine VO.wk (Wk.call Tryz.call94 rfl (r_Result0 _ _ _ _ _ _ _ _ _ _ _ _ _ rb_4 mac4 ok (by omega))) rfl rfl rfl ?_
    rintro _ w5 ⟨r5, A5, k5, zs5, rfl, out5, hz5, yo5, c5⟩
    have z5 := c5.size
    refine VO.mv (Rn.extract rfl rfl) rfl rfl rfl (VO.mv (Rn.extract rfl rfl) rfl rfl rfl (VO.mv (Rn.assign rfl) rfl rfl rfl (VO.mv (Rn.assign rfl) rfl rfl rfl (VO.nil (VQ.then_code (VC.ret (VQ.ret2 rfl rfl rfl ?_)))))))
    refine Ret.mk ?_
    have CH_3 := (Ch.refl (No) w).and (c1.trans (c2.trans c3))
    have CH_4 : Ch (No) w w4 := CH_3.then c4 (by intro q h1 h2; rcases h2 with h2 | h2 <;> first | exact h2 | (exfalso; omega) | omega)
    have CH_5 := CH_4.and c5
    exact ⟨_, _, _, _, rfl, out5, by rw [hz5, hy4, hx1, show N = P.b.cl.toNat by omega]; rfl, by omega, CH_5⟩
  · skip
    omega

set_option maxHeartbeats 1000000 in
set_option maxRecDepth 100000 in
theorem p_whole1 (lo hi p : Nat) (P : Pln) (SX : Nat → Prop) (X : Option Addr) (n xc : Nat) (ys : List CB) (w : World) (sx : SlR SX w X n 1 (ys.map cxV)) (hX : ∀ q, SX q → q < w.heap.size) (pl : PlnR lo hi w p P) (hh : hi ≤ w.heap.size) (N : Nat) (ok : PrgOk P.b N) (okb : okB P.b) (hne : 1 ≤ P.b.steps.length) (hn : (n : Int) = P.b.ln) (st : StT w) (hG : 12 ≤ w.heap.size) (hac1 : 1 ≤ cntS P.b.steps)  :
    Calls Tryz.prog 70 #[.pointer (some ⟨p, 0, none⟩), .slice X n xc, .bool true] w (Ret (fun v w' => ∃ r' A' c' zs, v = .tuple #[.slice A' P.b.ln.toNat c', .nilIface] ∧ CR 53 w' r' A' P.b.ln.toNat c' zs ∧ zs.map cx = invC P.b (ys.map cx) ∧ w.heap.size < r' ∧ Ch No w w')) := by
  have hln := ok.ln; have hn1 := ok.n1; have hcl := ok.cl; have hlen := ok.len
  have hyl : ys.length = n := by have := sx.len; simpa using this
  refine calls_of_VC (args := [.pointer (some ⟨p, 0, none⟩), .slice X n xc, .bool true]) Tryz.func70 rfl Tryz.ntmps70 rfl (VC.seq (VC.region (VO.mv (Rn.assign rfl) rfl rfl rfl (VO.mv (Rn.assign rfl) rfl rfl rfl (VO.nil (VQ.then_code (VC.seq ?_)))))))
  refine VC.region (VO.mv (Rn.move rfl) rfl rfl rfl (VO.mv (Rn.move rfl) rfl rfl rfl (VO.mv (Rn.move rfl) rfl rfl rfl (VO.wk (Wk.call Tryz.call91 rfl (p_Begin1 _ _ _ _ _ _ _ _ _ _ sx hX pl (by omega) _ ok okb hne hn st (by omega))) rfl rfl rfl ?_))))
  rintro _ w1 ⟨q1, m1, r1, rs1, sA1, sc1, cA1, xs1, rfl, rb1, mac1, hx1, ss1, hb1, c1⟩
  obtain ⟨hb1, hb2, hb3, hb4, hb5, hb6, hb7, hb8⟩ := hb1
  have yq1 := rb1.lt; have ym1 := mac1.bk.lt; have yr1 := Ow.lt mac1.row
  have hS : ∀ y, At rs1 y → ¬ MS m1 r1 y := fun y h1 h2 => by omega
  have hok := ok.ok; have hac2 : cntS P.b.steps ≤ 100000000 := by have := ok.act; omega
  have z1 := c1.size
  refine VO.mv (Rn.move rfl) rfl rfl rfl (VO.mv (Rn.extract rfl rfl) rfl rfl rfl (VO.mv (Rn.extract rfl rfl) rfl rfl rfl (VO.mv (Rn.assign rfl) rfl rfl rfl (VO.mv (Rn.assign rfl) rfl rfl rfl (VO.nil (VQ.then_code (VC.seq ?_)))))))
  refine VC.seq (VC.region (VO.mv (Rn.move rfl) rfl rfl rfl (VO.mv (Rn.nil_neq_nil Tryz.underlying29 rfl) rfl rfl rfl (VO.nil (VQ.then_code (VC.cond_false rfl (VC.skip ?_)))))))
  refine VQ.then_code (VC.seq (VC.seq (VC.region (VO.mv (Rn.move rfl) rfl rfl rfl (VO.wk (Wk.call Tryz.call92 rfl (r_Left _ _ _ _ _ _ _ _ _ _ _ _ _ _ _ _ _ rb1 mac1 (by omega) (by omega))) rfl rfl rfl ?_)))))
  rintro _ w2 ⟨rfl, c2⟩
  have z2 := c2.size
  refine VO.mv (Rn.gtr rfl rfl) rfl rfl rfl (VO.nil (VQ.then_code (VC.cond_if rfl (fun hc1 => ?_) (fun hc1 => ?_))))
  · skip
    refine VC.seq (VC.region (VO.mv (Rn.move rfl) rfl rfl rfl (VO.mv (Rn.move rfl) rfl rfl rfl ?_)))
    have rb_2 := rb1.keep c2
    have mac_2 := mac1.keep c2
    refine VO.wk (Wk.call Tryz.call92 rfl (r_Left _ _ _ _ _ _ _ _ _ _ _ _ _ _ _ _ _ rb_2 mac_2 (by omega) (by omega))) rfl rfl rfl ?_
    rintro _ w3 ⟨rfl, c3⟩
    have z3 := c3.size
    have rb_3 := rb_2.keep c3
    have mac_3 := mac_2.keep c3
    have ss_3 := ss1.keep (c2.trans c3)
    refine VO.wk (Wk.call Tryz.call93 rfl (r_Do _ _ _ _ _ _ _ _ _ _ _ _ _ _ rb_3 mac_3 (by omega) rfl hac1 hac2 hok (by omega) _ hS ss_3 _ (by omega))) rfl rfl rfl ?_
    rintro _ w4 ⟨rfl, ys4, mac4, hy4, c4⟩
    have z4 := c4.size
    refine VO.mv (Rn.move rfl) rfl rfl rfl (VO.mv (Rn.extract rfl rfl) rfl rfl rfl (VO.mv (Rn.extract rfl rfl) rfl rfl rfl (VO.mv (Rn.assign rfl) rfl rfl rfl (VO.mv (Rn.assign rfl) rfl rfl rfl (VO.nil (VQ.then_code (VC.seq ?_)))))))
    refine VC.region (VO.mv (Rn.move rfl) rfl rfl rfl (VO.mv (Rn.nil_neq_nil Tryz.underlying29 rfl) rfl rfl rfl (VO.nil (VQ.then_code (VC.cond_false rfl (VC.skip (VQ.then_code ?_)))))))
    refine VC.seq (VC.region (VO.mv (Rn.move rfl) rfl rfl rfl ?_))
    have rb_4 := rb_3.to c4 (by first | exact id | omega)
    refine VO.wk (Wk.call Tryz.call94 rfl (r_Result1 _ _ _ _ _ _ _ _ _ _ _ _ _ rb_4 mac4 ok (by omega))) rfl rfl rfl ?_
    rintro _ w5 ⟨r5, A5, k5, zs5, rfl, out5, hz5, yo5, c5⟩
    have z5 := c5.size
    refine VO.mv (Rn.extract rfl rfl) rfl rfl rfl (VO.mv (Rn.extract rfl rfl) rfl rfl rfl (VO.mv (Rn.assign rfl) rfl rfl rfl (VO.mv (Rn.assign rfl) rfl rfl rfl (VO.nil (VQ.then_code (VC.ret (VQ.ret2 rfl rfl rfl ?_)))))))
    refine Ret.mk ?_
    have CH_3 := (Ch.refl (No) w).and (c1.trans (c2.trans c3))
    have CH_4 : Ch (No) w w4 := CH_3.then c4 (by intro q h1 h2; rcases h2 with h2 | h2 <;> first | exact h2 | (exfalso; omega) | omega)
    have CH_5 := CH_4.and c5
    exact ⟨_, _, _, _, rfl, out5, by rw [hz5, hy4, hx1, show N = P.b.cl.toNat by omega]; rfl, by omega, CH_5⟩
  · skip
    omega

set_option maxRecDepth 100000 in
theorem p_Forward (lo hi p : Nat) (P : Pln) (SX : Nat → Prop) (X : Option Addr) (n xc : Nat) (ys : List CB) (w : World) (sx : SlR SX w X n 1 (ys.map cxV)) (hX : ∀ q, SX q → q < w.heap.size) (pl : PlnR lo hi w p P) (hh : hi ≤ w.heap.size) (N : Nat) (ok : PrgOk P.b N) (okb : okB P.b) (hne : 1 ≤ P.b.steps.length) (hn : (n : Int) = P.b.ln) (st : StT w) (hG : 12 ≤ w.heap.size) (hac1 : 1 ≤ cntS P.b.steps)  :
    Calls Tryz.prog 41 #[.pointer (some ⟨p, 0, none⟩), .slice X n xc] w (Ret (fun v w' => ∃ r' A' c' zs, v = .tuple #[.slice A' P.b.ln.toNat c', .nilIface] ∧ CR 53 w' r' A' P.b.ln.toNat c' zs ∧ zs.map cx = fwdC P.b (ys.map cx) ∧ w.heap.size < r' ∧ Ch No w w')) := by
  refine calls_of_VC (args := [.pointer (some ⟨p, 0, none⟩), .slice X n xc]) Tryz.func41 rfl Tryz.ntmps41 rfl (VC.seq (VC.region (VO.mv (Rn.assign rfl) rfl rfl rfl (VO.mv (Rn.assign rfl) rfl rfl rfl (VO.nil (VQ.then_code (VC.seq ?_)))))))
  refine VC.region (VO.mv (Rn.move rfl) rfl rfl rfl (VO.mv (Rn.move rfl) rfl rfl rfl (VO.wk (Wk.call Tryz.call70 rfl (p_whole0 _ _ _ _ _ _ _ _ _ _ sx hX pl (by omega) _ ok okb hne hn st (by omega) hac1)) rfl rfl rfl ?_)))
  rintro _ w1 ⟨r1, A1, k1, zs1, rfl, out1, hz1, yo1, c1⟩
  have z1 := c1.size
  refine VO.mv (Rn.extract rfl rfl) rfl rfl rfl (VO.mv (Rn.extract rfl rfl) rfl rfl rfl (VO.mv (Rn.assign rfl) rfl rfl rfl (VO.mv (Rn.assign rfl) rfl rfl rfl (VO.nil (VQ.then_code (VC.ret (VQ.ret2 rfl rfl rfl ?_)))))))
  refine Ret.mk ?_
  have CH_1 := (Ch.refl (No) w).and c1
  exact ⟨_, _, _, _, rfl, out1, hz1, by omega, CH_1⟩

set_option maxRecDepth 100000 in
theorem p_Inverse (lo hi p : Nat) (P : Pln) (SX : Nat → Prop) (X : Option Addr) (n xc : Nat) (ys : List CB) (w : World) (sx : SlR SX w X n 1 (ys.map cxV)) (hX : ∀ q, SX q → q < w.heap.size) (pl : PlnR lo hi w p P) (hh : hi ≤ w.heap.size) (N : Nat) (ok : PrgOk P.b N) (okb : okB P.b) (hne : 1 ≤ P.b.steps.length) (hn : (n : Int) = P.b.ln) (st : StT w) (hG : 12 ≤ w.heap.size) (hac1 : 1 ≤ cntS P.b.steps)  :
    Calls Tryz.prog 43 #[.pointer (some ⟨p, 0, none⟩), .slice X n xc] w (Ret (fun v w' => ∃ r' A' c' zs, v = .tuple #[.slice A' P.b.ln.toNat c', .nilIface] ∧ CR 53 w' r' A' P.b.ln.toNat c' zs ∧ zs.map cx = invC P.b (ys.map cx) ∧ w.heap.size < r' ∧ Ch No w w')) := by
  refine calls_of_VC (args := [.pointer (some ⟨p, 0, none⟩), .slice X n xc]) Tryz.func43 rfl Tryz.ntmps43 rfl (VC.seq (VC.region (VO.mv (Rn.assign rfl) rfl rfl rfl (VO.mv (Rn.assign rfl) rfl rfl rfl (VO.nil (VQ.then_code (VC.seq ?_)))))))
  refine VC.region (VO.mv (Rn.move rfl) rfl rfl rfl (VO.mv (Rn.move rfl) rfl rfl rfl (VO.wk (Wk.call Tryz.call70 rfl (p_whole1 _ _ _ _ _ _ _ _ _ _ sx hX pl (by omega) _ ok okb hne hn st (by omega) hac1)) rfl rfl rfl ?_)))
  rintro _ w1 ⟨r1, A1, k1, zs1, rfl, out1, hz1, yo1, c1⟩
  have z1 := c1.size
  refine VO.mv (Rn.extract rfl rfl) rfl rfl rfl (VO.mv (Rn.extract rfl rfl) rfl rfl rfl (VO.mv (Rn.assign rfl) rfl rfl rfl (VO.mv (Rn.assign rfl) rfl rfl rfl (VO.nil (VQ.then_code (VC.ret (VQ.ret2 rfl rfl rfl ?_)))))))
  refine Ret.mk ?_
  have CH_1 := (Ch.refl (No) w).and c1
  exact ⟨_, _, _, _, rfl, out1, hz1, by omega, CH_1⟩

end Go.Tm
namespace Go.Tm
abbrev flV (b : Nat) : Value := .float .f64 b
abbrev arrF (xs : List Nat) : Array Value := (xs.map flV).toArray
section
variable {P : Program} {n : Fr} {k : K} {w : World} {d : Option Tmp} {ty : TypeId} {pos : String} {aft : Array Edge} {g : Option (Nat × Bool)}
theorem arrF_get {xs : List Nat} {i : Nat} (h : i < xs.length) : (arrF xs)[i]? = some (flV (xs.getD i 0)) := by
  simp [arrF, List.getD, List.getElem?_eq_getElem h]
/-- A float into a cell of an array. -/
theorem Wk.putArr {t : TypeId} {x y : Operand} {p i : Nat} {xs : List Nat} {te : TypeId} {a : Nat} (hz : ∀ w, (sizeOf t).run P w = .ok 1 w) (hx : ev k x = some (.pointer (some ⟨p, i, none⟩))) (hy : ev k y = some (.float .f64 a)) (hb : Bk w p (arrF xs) te) (hi : i < xs.length) :
    Wk P n k w { dst := none, op := .store t x y, type := ty, pos := pos, after := aft, guard := g } (fun _ w' => Bk w' p (arrF (xs.set i a)) te ∧ Ch (Is p) w w' ∧ w'.heap.size = w.heap.size) :=
  (Wk.put hz hx hy rfl rfl hb (arrF_get hi)).mono fun _ _ h => by
    refine ⟨⟨?_⟩, h.ch, h.size⟩
    rw [h.same]
    have e : (arrF xs).setIfInBounds i (.float .f64 a) = arrF (xs.set i a) := by simp [arrF, List.map_set]
    rw [e]
theorem Bk.getF {p i : Nat} {xs : List Nat} {te : TypeId} (h : Bk w p (arrF xs) te) (hi : i < xs.length) : w.cell? ⟨p, i, none⟩ = some (.float .f64 (xs.getD i 0)) := h.cell (arrF_get hi)
end
/-- A row of floats that the call owns. -/
abbrev FR (e : TypeId) (w : World) (r : Nat) (A : Option Addr) (l c : Nat) (xs : List Nat) : Prop := Ow w r e 1 A l c (xs.map flV)
theorem FR.len {e : TypeId} {w : World} {r : Nat} {A : Option Addr} {l c : Nat} {xs : List Nat} (h : FR e w r A l c xs) : xs.length = l := by
  have := Ow.len h
  simpa using this
theorem SlR.getF {S : Nat → Prop} {w : World} {A : Option Addr} {l : Nat} {xs : List Nat} (h : SlR S w A l 1 (xs.map flV)) {i : Int} (h0 : 0 ≤ i) (h1 : i < l) : w.cell? ((sAddr A).add (i.toNat * 1)) = some (.float .f64 (xs.getD i.toNat 0)) := SlR.get (f := flV) h 0 h0 h1
section
variable {P : Program} {n : Fr} {k : K} {w : World} {d : Option Tmp} {ty : TypeId} {pos : String} {aft : Array Edge} {g : Option (Nat × Bool)}
/-- Complex numbers added, taken away. -/
theorem Wk.cbin {op : BinOp} {t t' : TypeId} {x y : Operand} {a b c e : Nat} (hop : op = .add ∨ op = .sub) (hx : ev k x = some (.complex .f64 a b)) (hy : ev k y = some (.complex .f64 c e)) :
    Wk P n k w { dst := d, op := .binOp op t x y t', type := ty, pos := pos, after := aft, guard := g } (fun v w' => ∃ p q, v = .complex .f64 p q ∧ cx (p, q) = (fop op (cn a) (cn c), fop op (cn b) (cn e)) ∧ Ch No w w') :=
  Wk.of_run fun ac ha => by
    have hop4 : op = .add ∨ op = .sub ∨ op = .mul ∨ op = .quo := hop.elim .inl (fun h => .inr (.inl h))
    obtain ⟨r, w1, hr, h1, h2⟩ := run_fl (P := P) (w := w) hop4 a c
    obtain ⟨s, w2, hs, h3, h4⟩ := run_fl (P := P) (w := w1) hop4 b e
    refine ⟨_, w2, ?_, r, s, rfl, ?_, h2.and h4⟩
    · rcases hop with rfl | rfl <;> simp [execOp, ha.eval hx, ha.eval hy, eqGuard_add, eqGuard_sub, binOp, Op.complexOp, Op.Complex.arith, hr, hs]
    · show (cn r, cn s) = _; rw [h1, h3]
/-- make([]float64, l). -/
theorem Wk.mkF {t e : TypeId} {by' : Nat} {x y : Operand} {ql qc : IntKind} {l : Int} (ht : P.underlying t = some (.slice e)) (hi : Inf P e (.float .f64 0) 1 by') (hx : ev k x = some (.int ql l)) (hy : ev k y = some (.int qc l)) (h0 : 0 ≤ l) (hb : (by' : Int) * l ≤ 281474976710656) (hm : l ≤ 281474976710656) :
    Wk P n k w { dst := d, op := .makeSlice t x y, type := ty, pos := pos, after := aft, guard := g }
      (fun v w' => ∃ p, v = .slice (some ⟨p, 0, none⟩) l.toNat l.toNat ∧ FR e w' (p + 1) (some ⟨p, 0, none⟩) l.toNat l.toNat (List.replicate l.toNat 0) ∧ Ch No w w' ∧ p = w.heap.size ∧ w'.heap.size = w.heap.size + 1) :=
  (Wk.make ht hi hx hy h0 (Int.le_refl _) hb (by omega)).mono fun v w' ⟨p, hv, N⟩ => by
    rw [Nat.mul_one] at N
    have e1 : (Value.float .f64 0).cells = #[.float .f64 0] := rfl
    rw [e1, made_one] at N
    refine ⟨p, hv, ?_, N.ch, N.p, N.size⟩
    have : (List.replicate l.toNat (0 : Nat)).map flV = List.replicate l.toNat (.float .f64 0) := by simp
    show Ow _ _ _ _ _ _ _ (List.map flV _)
    rw [this]
    exact Ow.of_new N (by simp) (by simp only [maxLen]; omega)
theorem Wk.putF {t e : TypeId} {r l c i : Nat} {A : Option Addr} {xs : List Nat} {x y : Operand} {a : Nat} (hz : ∀ w, (sizeOf t).run P w = .ok 1 w) (hx : ev k x = some (.pointer (some ((sAddr A).add (i * 1))))) (hy : ev k y = some (.float .f64 a)) (hi : i < l) (hown : FR e w r A l c xs) :
    Wk P n k w { dst := none, op := .store t x y, type := ty, pos := pos, after := aft, guard := g } (fun _ w' => FR e w' r A l c (xs.set i a) ∧ Ch (At r) w w' ∧ w'.heap.size = w.heap.size) :=
  (Wk.putOw hz hx hy rfl hi hown).mono fun _ w' ⟨h1, h2, h3⟩ => ⟨by show Ow _ _ _ _ _ _ _ (List.map flV _); rw [List.map_set]; exact h1, h2, h3⟩
/-- A float of its bits. -/
theorem Rn.fbits {f : FuncId} {fn : Func} {x : Operand} {ts : Array TypeId} {m : Int} (hf : P.funcs[f]? = some fn) (hname : (fn.name == "runtime.NumGoroutine") = false) (hb : fn.body.isNone = true) (hn : Extern.findNext fn = none)
    (he : Extern.find fn = some Extern.MathFloatBits.float64frombits) (hx : ev k x = some (.int .u64 m)) :
    Rn P n k w { dst := d, op := .call { callee := .value (.func f), args := #[x], argTypes := ts }, type := ty, pos := pos, after := aft, guard := g } (.float .f64 m.toNat) :=
  fun ac ha => by
    have h1 : ¬ fn.name = "runtime.NumGoroutine" := by simpa using hname
    have h2 : fn.body = none := by simpa using hb
    have h3 : ac.eval (.func f) = .func (.func f) #[] #[] := rfl
    have h4 : (Extern.MathFloatBits.float64frombits #[.int .u64 m]).run P w = .ok (.float .f64 m.toNat) w := rfl
    simp [execOp, resolve, h3, Deferred.ofValue, invoke, callFunc, hf, h1, h2, hn, he, ha.eval hx, h4]
end
def one : Fl := cn 4607182418800017408
def fl0 : Fl := cn 0
/-- So many factorials. -/
def facF : Nat → Fl
  | 0 => one
  | m + 1 => fmul (facF m) (fi ((m + 1 : Nat) : Int))
/-- The coefficient i after so many rounds. -/
def cofF (first j i : Nat) : Fl := if 1 ≤ 2 * i + first ∧ 2 * i + first ≤ j then fquo one (facF (2 * i + first)) else fl0
def cofL (first i : Nat) : Fl := if first = 0 ∧ i = 0 then one else fquo one (facF (2 * i + first))
def hornP (first : Nat) (y : Fl) : Nat → Fl
  | 0 => cofL first 8
  | j + 1 => fsub (cofL first (7 - j)) (fmul y (hornP first y j))
/-- The series. -/
def hornF (first : Nat) (y : Fl) : Fl := hornP first y 8
def halfB : Nat := 4604544271217802189
def twoPiB : Nat := 4618760256179416344
/-- Cosine and sine of r/n of a turn, r/n at most an eighth. -/
def eighF (r n : Int) : Cx :=
  if r = 0 then (one, fl0) else if 8 * r = n then (cn halfB, cn halfB) else
    (hornF 0 (fmul (fquo (fmul (cn twoPiB) (fi r)) (fi n)) (fquo (fmul (cn twoPiB) (fi r)) (fi n))), fmul (fquo (fmul (cn twoPiB) (fi r)) (fi n)) (hornF 1 (fmul (fquo (fmul (cn twoPiB) (fi r)) (fi n)) (fquo (fmul (cn twoPiB) (fi r)) (fi n)))))
def pzF (x : Fl) : Fl := x.map pzB
theorem cn_pz (b : Nat) : cn (pzB b) = pzF (cn b) := by
  unfold pzB pzF
  split
  · rename_i h
    rw [cn_eq b]
    split
    · rename_i hn
      exfalso
      have hd : (FloatKind.f64.decode b).isNaN = true := by rw [decode_nan]; simpa using hn
      obtain ⟨s, f, e⟩ := isNaN_nan hd
      have e' : Ieee.double.read b = .nan s f := e
      simp [Ieee.Format.order, e', Ieee.Datum.order] at h
    · simp [h, pzB, cn_eq]
  · rename_i h
    rw [cn_eq b]
    split
    · rfl
    · simp [h, pzB]
def turF (x : Cx) : Nat → Cx
  | 0 => x
  | q + 1 => (fneg (turF x q).2, (turF x q).1)
/-- Cosine and sine of k/n of a turn (k below n), before the turns by quarters. -/
def pair0 (n k : Nat) : Cx :=
  if 2 * (4 * k % n) ≤ n then eighF ((4 * k % n : Nat) : Int) ((4 * n : Nat) : Int) else
    ((eighF ((n : Int) - ((4 * k % n : Nat) : Int)) ((4 * n : Nat) : Int)).2, (eighF ((n : Int) - ((4 * k % n : Nat) : Int)) ((4 * n : Nat) : Int)).1)
def pairF (n k : Nat) : Cx := (pzF (turF (pair0 n k) (4 * k / n)).1, pzF (turF (pair0 n k) (4 * k / n)).2)
def rootF (n k : Nat) : Cx := ((pairF n k).1, pzF (fneg (pairF n k).2))
/-- A number times a root (k below n). -/
def twistF (z : Cx) (n k : Nat) : Cx := if k = 0 then z else mulC z (rootF n k)
theorem tmod_mod {k : Int} {n : Nat} (hn : 0 < n) : (k.tmod n + n).tmod n = k % (n : Int) := by
  have h1 := Int.tmod_lt_of_pos k (show (0 : Int) < n by omega)
  have h2 : -(n : Int) < k.tmod n := by have := Int.tmod_lt_of_pos (-k) (show (0 : Int) < n by omega); rw [Int.neg_tmod] at this; omega
  rw [Int.tmod_eq_emod_of_nonneg (by omega)]
  have h4 : (k.tmod n + n) % (n : Int) = k.tmod n % (n : Int) := Int.add_emod_right _ _
  rw [h4, Int.tmod_def]
  have : k - (n : Int) * k.tdiv n = k + (n : Int) * (-(k.tdiv n)) := by rw [Int.mul_neg]; rfl
  rw [this, Int.add_mul_emod_self_left]
theorem emod_toNat {k : Int} {n : Nat} (hn : 0 < n) : k % (n : Int) = (((k % (n : Int)).toNat % n : Nat) : Int) := by
  have h1 := Int.emod_nonneg k (show (n : Int) ≠ 0 by omega)
  have h2 := Int.emod_lt_of_pos k (show (0 : Int) < n by omega)
  rw [Nat.mod_eq_of_lt (by omega)]
  omega
/-- A round of the table. -/
structure CofA (first j : Nat) (xs : List Nat) : Prop where
  len : xs.length = 9
  get : ∀ i, i < 9 → cn (xs.getD i 0) = cofF first j i
theorem CofA.zero (first : Nat) : CofA first 0 (List.replicate 9 0) := ⟨by simp, fun i hi => by
  rw [cofF, if_neg (by omega), List.getD, List.getElem?_replicate, if_pos hi]; rfl⟩
theorem getD_set {xs : List Nat} {i j a : Nat} (hj : j < xs.length) : (xs.set j a).getD i 0 = if i = j then a else xs.getD i 0 := by
  simp only [List.getD, List.getElem?_set]
  by_cases h : j = i
  · subst h; simp [hj]
  · have : ¬ i = j := fun e => h e.symm
    simp [h, this]
theorem CofA.put {first j : Nat} {xs : List Nat} (h : CofA first j xs) (hj : j ≤ 16 + first) {i a : Nat} (hi : 2 * i + first = j + 1) (ha : cn a = fquo one (facF (j + 1))) : CofA first (j + 1) (xs.set i a) := by
  refine ⟨by simp [h.len], fun m hm => ?_⟩
  rw [getD_set (by rw [h.len]; omega)]
  by_cases e : m = i
  · rw [if_pos e, ha, cofF, if_pos (by omega), e, hi]
  · rw [if_neg e, h.get m hm, cofF, cofF]
    by_cases c : 1 ≤ 2 * m + first ∧ 2 * m + first ≤ j
    · rw [if_pos c, if_pos (by omega)]
    · rw [if_neg c, if_neg (by omega)]
theorem CofA.skip {first j : Nat} {xs : List Nat} (h : CofA first j xs) (hn : ∀ i, 2 * i + first ≠ j + 1) : CofA first (j + 1) xs := by
  refine ⟨h.len, fun m hm => ?_⟩
  rw [h.get m hm, cofF, cofF]
  have := hn m
  by_cases c : 1 ≤ 2 * m + first ∧ 2 * m + first ≤ j
  · rw [if_pos c, if_pos (by omega)]
  · rw [if_neg c, if_neg (by omega)]
theorem CofA.last0 {xs : List Nat} (h : CofA 0 16 xs) : (xs.set 0 4607182418800017408).length = 9 ∧ ∀ i, i < 9 → cn ((xs.set 0 4607182418800017408).getD i 0) = cofL 0 i := by
  refine ⟨by simp [h.len], fun i hi => ?_⟩
  rw [getD_set (by rw [h.len]; omega)]
  by_cases e : i = 0
  · subst e; rfl
  · rw [if_neg e, h.get i hi, cofF, if_pos (by omega), cofL, if_neg (by omega)]
theorem CofA.last1 {first : Nat} {xs : List Nat} (h : CofA first (16 + first) xs) (hf : first = 1) : xs.length = 9 ∧ ∀ i, i < 9 → cn (xs.getD i 0) = cofL first i := by
  refine ⟨h.len, fun i hi => ?_⟩
  rw [h.get i hi, cofF, if_pos (by omega), cofL, if_neg (by omega)]
end Go.Tm
namespace Go.Tm
section
variable {P : Program} {n : Fr} {k : K} {w : World} {d : Option Tmp} {ty : TypeId} {pos : String} {aft : Array Edge} {g : Option (Nat × Bool)} {t t' : TypeId} {x y : Operand}
theorem Rn.neqF {q : IntKind} {a b : Int} (hx : ev k x = some (.int q a)) (hy : ev k y = some (.int q b)) (h : a = b) : Rn P n k w { dst := d, op := .binOp .neq t x y t', type := ty, pos := pos, after := aft, guard := g } (.bool false) := by
  have := Rn.neq (P := P) (n := n) (w := w) (d := d) (ty := ty) (pos := pos) (aft := aft) (g := g) (t := t) (t' := t') hx hy
  rwa [decide_eq_false (by simpa using h)] at this
theorem Rn.eqlT {q : IntKind} {a b : Int} (hx : ev k x = some (.int q a)) (hy : ev k y = some (.int q b)) (h : a = b) : Rn P n k w { dst := d, op := .binOp .eql t x y t', type := ty, pos := pos, after := aft, guard := g } (.bool true) := by
  have := Rn.eql (P := P) (n := n) (w := w) (d := d) (ty := ty) (pos := pos) (aft := aft) (g := g) (t := t) (t' := t') hx hy
  rwa [decide_eq_true h] at this
theorem Rn.ceqlT {a b c e : Nat} (hx : ev k x = some (.complex .f64 a b)) (hy : ev k y = some (.complex .f64 c e)) (h : ceq (a, b) (c, e) = true) : Rn P n k w { dst := d, op := .binOp .eql t x y t', type := ty, pos := pos, after := aft, guard := g } (.bool true) := by
  have := Rn.ceql (P := P) (n := n) (w := w) (d := d) (ty := ty) (pos := pos) (aft := aft) (g := g) (t := t) (t' := t') hx hy
  rwa [h] at this
theorem Rn.cneqF {a b c e : Nat} (hx : ev k x = some (.complex .f64 a b)) (hy : ev k y = some (.complex .f64 c e)) (h : ceq (a, b) (c, e) = true) : Rn P n k w { dst := d, op := .binOp .neq t x y t', type := ty, pos := pos, after := aft, guard := g } (.bool false) := by
  have := Rn.cneq (P := P) (n := n) (w := w) (d := d) (ty := ty) (pos := pos) (aft := aft) (g := g) (t := t) (t' := t') hx hy
  rwa [h] at this
theorem Rn.feqlT {a b : Nat} (hx : ev k x = some (.float .f64 a)) (hy : ev k y = some (.float .f64 b)) (h : (Ieee.double.order a b == some .eq) = true) : Rn P n k w { dst := d, op := .binOp .eql t x y t', type := ty, pos := pos, after := aft, guard := g } (.bool true) := by
  have := Rn.feql (P := P) (n := n) (w := w) (d := d) (ty := ty) (pos := pos) (aft := aft) (g := g) (t := t) (t' := t') hx hy
  rwa [h] at this
theorem Rn.fneqF {a b : Nat} (hx : ev k x = some (.float .f64 a)) (hy : ev k y = some (.float .f64 b)) (h : (Ieee.double.order a b == some .eq) = true) : Rn P n k w { dst := d, op := .binOp .neq t x y t', type := ty, pos := pos, after := aft, guard := g } (.bool false) := by
  have := Rn.fneq (P := P) (n := n) (w := w) (d := d) (ty := ty) (pos := pos) (aft := aft) (g := g) (t := t) (t' := t') hx hy
  rw [show (Ieee.double.order a b != some .eq) = !(Ieee.double.order a b == some .eq) from rfl, h] at this
  exact this
end
abbrev IV (i : Int) : Value := .int .i64 i
/-- A row of whole numbers that the call owns. -/
abbrev IR (e : TypeId) (w : World) (r : Nat) (A : Option Addr) (l c : Nat) (xs : List Int) : Prop := Ow w r e 1 A l c (xs.map IV)
def rowI (n : Nat) (f : Nat → Int) (j : Nat) : List Int := (List.range j).map f ++ List.replicate (n - j) 0
theorem rowI_set {n j : Nat} {f : Nat → Int} (h : j < n) : (rowI n f j).set j (f j) = rowI n f (j + 1) := by
  unfold rowI
  obtain ⟨m, hm⟩ : ∃ m, n - j = m + 1 := ⟨n - j - 1, by omega⟩
  rw [hm, show n - (j + 1) = m by omega, List.set_append_right _ _ (by simp), List.range_succ, List.map_append]
  simp [List.replicate_succ]
theorem rowI_get {n i j : Nat} {f : Nat → Int} (h : i < j) : (rowI n f j).getD i 0 = f i := by
  simp only [rowI, List.getD]
  rw [List.getElem?_append_left (by simpa using h)]
  simp [h]
theorem rowF_get {n i j : Nat} {f : Nat → CB} (h : i < j) : (rowF n f j).getD i (0, 0) = f i := by
  simp only [rowF, List.getD]
  rw [List.getElem?_append_left (by simpa using h)]
  simp [h]
section
variable {P : Program} {n : Fr} {k : K} {w : World} {d : Option Tmp} {ty : TypeId} {pos : String} {aft : Array Edge} {g : Option (Nat × Bool)}
theorem Wk.mkI {t e : TypeId} {by' : Nat} {x y : Operand} {ql qc : IntKind} {l : Int} (ht : P.underlying t = some (.slice e)) (hi : Inf P e (.int .i64 0) 1 by') (hx : ev k x = some (.int ql l)) (hy : ev k y = some (.int qc l)) (h0 : 0 ≤ l) (hb : (by' : Int) * l ≤ 281474976710656) (hm : l ≤ 281474976710656) (f : Nat → Int) :
    Wk P n k w { dst := d, op := .makeSlice t x y, type := ty, pos := pos, after := aft, guard := g }
      (fun v w' => ∃ p, v = .slice (some ⟨p, 0, none⟩) l.toNat l.toNat ∧ IR e w' (p + 1) (some ⟨p, 0, none⟩) l.toNat l.toNat (rowI l.toNat f 0) ∧ Ch No w w' ∧ p = w.heap.size ∧ w'.heap.size = w.heap.size + 1) :=
  (Wk.make ht hi hx hy h0 (Int.le_refl _) hb (by omega)).mono fun v w' ⟨p, hv, N⟩ => by
    rw [Nat.mul_one] at N
    have e1 : (Value.int .i64 0).cells = #[.int .i64 0] := rfl
    rw [e1, made_one] at N
    refine ⟨p, hv, ?_, N.ch, N.p, N.size⟩
    have : (rowI l.toNat f 0).map IV = List.replicate l.toNat (.int .i64 0) := by simp [rowI]
    show Ow _ _ _ _ _ _ _ (List.map IV _)
    rw [this]
    exact Ow.of_new N (by simp) (by simp only [maxLen]; omega)
theorem Wk.putI {t e : TypeId} {r l c j : Nat} {A : Option Addr} {m : Nat} {f : Nat → Int} {x y : Operand} {i v : Int} (hz : ∀ w, (sizeOf t).run P w = .ok 1 w) (hx : ev k x = some (.pointer (some ((sAddr A).add (i.toNat * 1))))) (hy : ev k y = some (.int .i64 v)) (hown : IR e w r A l c (rowI m f j)) (hi : i = j) (hv : v = f j) (hj : j < m) (hm : j < l) :
    Wk P n k w { dst := none, op := .store t x y, type := ty, pos := pos, after := aft, guard := g } (fun _ w' => IR e w' r A l c (rowI m f (j + 1)) ∧ Ch (At r) w w' ∧ w'.heap.size = w.heap.size) := by
  subst hi; subst hv
  exact (Wk.putOw hz hx hy rfl (by omega) hown).mono fun _ w' ⟨h1, h2, h3⟩ => ⟨by show Ow _ _ _ _ _ _ _ (List.map IV _); rw [← rowI_set hj, List.map_set]; exact h1, h2, h3⟩
end
theorem SlR.getI {S : Nat → Prop} {w : World} {A : Option Addr} {l : Nat} {xs : List Int} (h : SlR S w A l 1 (xs.map IV)) {i : Int} (h0 : 0 ≤ i) (h1 : i < l) : w.cell? ((sAddr A).add (i.toNat * 1)) = some (.int .i64 (xs.getD i.toNat 0)) := SlR.get (f := IV) h 0 h0 h1
theorem tm_bd (x : Int) : -1099511627776 ≤ x.tmod 1099511627777 ∧ x.tmod 1099511627777 ≤ 1099511627776 := by
  rcases Int.le_total 0 x with h | h
  · rw [Int.tmod_eq_emod_of_nonneg h]; omega
  · have e : x.tmod 1099511627777 = -((-x).tmod 1099511627777) := by rw [Int.neg_tmod, Int.neg_neg]
    rw [e, Int.tmod_eq_emod_of_nonneg (by omega)]; omega
theorem tm2 (x : Int) : x.tmod 2 = -1 ∨ x.tmod 2 = 0 ∨ x.tmod 2 = 1 := by
  rcases Int.le_total 0 x with h | h
  · rw [Int.tmod_eq_emod_of_nonneg h]; omega
  · have e : x.tmod 2 = -((-x).tmod 2) := by rw [Int.neg_tmod, Int.neg_neg]
    rw [e, Int.tmod_eq_emod_of_nonneg (by omega)]; omega
theorem Wk.lit0 {P : Program} {n : Fr} {k : K} {w : World} {d : Option Nat} {ty : TypeId} {pos : String} {aft : Array Edge} {g : Option (Nat × Bool)} {t e : TypeId} {z : Value} {sz by' : Nat} (ht : P.underlying t = some (.slice e)) (hi : Inf P e z sz by') :
    Wk P n k w { dst := d, op := .buildSlice t 0 #[], type := ty, pos := pos, after := aft, guard := g } (fun v w' => ∃ p, v = .slice (some ⟨p, 0, none⟩) 0 0 ∧ New w w' p (.cells #[] e)) :=
  Wk.of_run fun a ha => by
    obtain ⟨i, hi, hz, hs, rfl⟩ := hi
    exact ⟨_, _, by simp [execOp, Instr.buildSlice, run_underlying ht, sizeOf, typeInfo, hi, Instr.fill, show Array.map (fun (_ : Nat) => (default : Value)) (Array.range 0) = #[] from by simp [Array.range], newRow], _, rfl, rfl, rfl⟩
theorem Ow.cap {w : World} {r : Nat} {e : TypeId} {sz : Nat} {A : Option Addr} {l c : Nat} {cs : List Value} (h : Ow w r e sz A l c cs) (hl : 0 < l) : l ≤ c := by
  obtain ⟨_, _, _, _, _, hlc, _⟩ := Ow.open' h hl
  exact hlc
theorem SlR.subF {S : Nat → Prop} {w : World} {A : Option Addr} {l c : Nat} {xs : List Nat} (h : SlR S w A l 1 (xs.map flV)) {i j : Nat} (h1 : i ≤ j) (h2 : j ≤ l) (hc : l ≤ c) : SlR S w (if c = i then A else A.map (·.add (i * 1))) (j - i) 1 (((xs.drop i).take (j - i)).map flV) := by
  have := SlR.sub h h1 h2 hc
  rwa [← List.map_drop, ← List.map_take] at this
theorem sub_getD {xs : List Nat} {i m j : Nat} (h : j < m) : ((xs.drop i).take m).getD j 0 = xs.getD (i + j) 0 := by
  simp only [List.getD, List.getElem?_take, if_pos h, List.getElem?_drop]
end Go.Tm
namespace Go.Tm
open Go.RowKit Go.Proofs


set_option maxHeartbeats 1000000 in
set_option maxRecDepth 100000 in
theorem roots_horner0 (y : Nat) (w : World) :
    Calls Tryz.prog 100 #[.float .f64 y, .int .i64 0] w (Ret (fun v w' => ∃ b, v = .float .f64 b ∧ cn b = hornF 0 (cn y) ∧ Ch No w w')) := by
  refine calls_of_VC (args := [.float .f64 y, .int .i64 0]) Tryz.func100 rfl Tryz.ntmps100 rfl (VC.seq (VC.region (VO.mv (Rn.assign rfl) rfl rfl rfl (VO.nil (VQ.then_code (VC.seq (VC.region ?_)))))))
  refine VO.wk (Wk.alloc Tryz.zeroValue146) rfl rfl rfl ?_
  rintro _ w1 ⟨p1, rfl, N1⟩
  have c1 := N1.ch
  have e1 := N1.p; have z1 := N1.size
  have b5 := Bk.new N1
  refine VO.nil (VQ.then_code (VC.seq (VC.region (VO.mv (Rn.assign rfl) rfl rfl rfl (VO.nil (VQ.then_code (VC.seq ?_)))))))
  refine VC.seq (VC.region (VO.mv (Rn.assign rfl) rfl rfl rfl (VO.nil (VQ.then_code (VC.block ?_)))))
  have CH_1 := (Ch.refl (No) w).and c1
  refine VC.loopS (σ := Nat × Nat × List Nat) (fun (j, f, xs) => [(0, .float .f64 y), (1, .int .i64 0), (5, .pointer (some ⟨p1, 0, none⟩)), (6, .float .f64 f), (7, .int .i64 (j + 1))]) (fun (j, f, xs) w' => j ≤ 16 ∧ cn f = facF j ∧ CofA 0 j xs ∧ w1.heap.size ≤ w'.heap.size ∧ Bk w' p1 (arrF xs) 146 ∧ Ch (No) w w') (fun (j, f, xs) => 17 - j) (0, _, List.replicate 9 0) ?_ ⟨rfl, rfl, rfl, rfl, rfl, trivial⟩ ?_
  · exact ⟨(by omega), (by rfl), (CofA.zero _), (Nat.le_refl _), b5, CH_1⟩
  rintro ⟨j, f, xs⟩ w2 ⟨hj, hf, hx, hsz2, ar_2, CH_2⟩
  show VC _ _ _ _ [(0, .float .f64 y), (1, .int .i64 0), (5, .pointer (some ⟨p1, 0, none⟩)), (6, .float .f64 f), (7, .int .i64 (j + 1))] _
  have hxl := hx.len
  refine VC.seq (VC.seq (VC.region (VO.mv (Rn.move rfl) rfl rfl rfl (VO.mv (Rn.move rfl) rfl rfl rfl ?_))))
  refine VO.mv (Rn.add rfl rfl (by rw [IntKind.wrap_i64]; omega)) rfl rfl rfl ?_
  refine VO.mv (Rn.sub rfl rfl (by rw [IntKind.wrap_i64]; omega)) rfl rfl rfl ?_
  refine VO.mv (Rn.lss rfl rfl) rfl rfl rfl (VO.nil (VQ.then_code (VC.cond_if rfl (fun hc1 => ?_) (fun hc1 => ?_))))
  · skip
    refine VC.skip (VQ.then_code (VC.seq (VC.block (VC.seq (VC.region (VO.mv (Rn.move rfl) rfl rfl rfl (VO.mv (Rn.move rfl) rfl rfl rfl ?_)))))))
    refine VO.mv (Rn.conv_if Tryz.underlying3 Tryz.underlying25 rfl) rfl rfl rfl (VO.wk (Wk.fbin (.inr (.inr (.inl rfl))) rfl rfl) rfl rfl rfl ?_)
    rintro _ w3 ⟨r3, rfl, f3, c3⟩
    have z3 := c3.size
    refine VO.mv (Rn.assign rfl) rfl rfl rfl (VO.nil (VQ.then_code (VC.seq (VC.region (VO.mv (Rn.move rfl) rfl rfl rfl (VO.mv (Rn.move rfl) rfl rfl rfl (VO.mv (Rn.geq rfl rfl) rfl rfl rfl ?_)))))))
    refine VO.mv (Rn.move rfl) rfl rfl rfl ?_
    refine VO.andJoin (b := _) 6 24 30 rfl (fun hc2 Jhc2 => by
        try simp only [Bool.and_eq_true, Bool.or_eq_true, Bool.not_eq_true', Bool.not_eq_false', Bool.and_eq_false_iff, Bool.or_eq_false_iff, decide_eq_true_eq, decide_eq_false_iff_not] at hc2
        refine VO.mv (Rn.move rfl) rfl rfl rfl (VO.mv (Rn.move rfl) rfl rfl rfl ?_)
        refine VO.mv (Rn.sub rfl rfl (by rw [IntKind.wrap_i64]; omega)) rfl rfl rfl ?_
        refine VO.mv (Rn.rem0 rfl rfl (by omega) (by omega)) rfl rfl rfl (VO.mv (Rn.eql rfl rfl) rfl rfl rfl (VO.mv (Rn.pick_true rfl rfl) rfl rfl rfl ?_))
        exact (VO.fg rfl (VO.fg rfl (VO.fg rfl (VO.fg rfl (VO.fg rfl Jhc2)))))) (fun hc2 Jhc2 => by
        refine VO.skip rfl rfl rfl (VO.skip rfl rfl rfl (VO.skip rfl rfl rfl (VO.skip rfl rfl rfl (VO.skip rfl rfl rfl (VO.mv (Rn.pick_false rfl rfl) rfl rfl rfl ?_)))))
        exact (VO.fg rfl (VO.fg rfl (VO.fg rfl (VO.fg rfl (VO.fg rfl Jhc2)))))) ?_
    refine VO.nil (VQ.then_code (VC.cond rfl (fun hc3 => ?_) (fun hc3 => ?_)))
    · skip
      try simp only [Bool.and_eq_true, Bool.or_eq_true, Bool.not_eq_true', Bool.not_eq_false', Bool.and_eq_false_iff, Bool.or_eq_false_iff, decide_eq_true_eq, decide_eq_false_iff_not] at hc3
      refine VC.region (VO.mv (Rn.move rfl) rfl rfl rfl (VO.mv (Rn.move rfl) rfl rfl rfl ?_))
      refine VO.mv (Rn.sub rfl rfl (by rw [IntKind.wrap_i64]; omega)) rfl rfl rfl ?_
      refine VO.mv (Rn.quo0 rfl rfl (by omega) (by omega) (by omega)) rfl rfl rfl (VO.mv (Rn.move rfl) rfl rfl rfl (VO.wk (Wk.fbin (.inr (.inr (.inr rfl))) rfl rfl) rfl rfl rfl ?_))
      rintro _ w4 ⟨r4, rfl, f4, c4⟩
      have z4 := c4.size
      refine VO.mv (Rn.indexArrL (o' := (j + 1 - 0) / 2) Tryz.underlying146 Tryz.sizeOf25 rfl rfl (by omega) (by omega) (by omega)) rfl rfl rfl ?_
      have ar_4 := ar_2.keep (c3.trans c4)
      refine VO.wk0 (Wk.putArr Tryz.sizeOf25 rfl rfl ar_4 (by omega)) rfl rfl ?_
      rintro _ w5 ⟨ar5, c5, zz5⟩
      have z5 := c5.size
      refine VO.nil (VQ.block_normal (VQ.then_code (VC.region (VO.mv (Rn.move rfl) rfl rfl rfl ?_))))
      refine VO.mv (Rn.add rfl rfl (by rw [IntKind.wrap_i64]; omega)) rfl rfl rfl ?_
      refine VO.mv (Rn.assign rfl) rfl rfl rfl (VO.nil ?_)
      refine VQ.round (j + 1, _, xs.set ((j + 1 - 0) / 2) r4) (by first | omega | (dsimp only; omega)) ?_ ⟨rfl, rfl, rfl, rfl, rfl, trivial⟩
      have CH_4 := CH_2.and (c3.trans c4)
      have CH_5 : Ch (No) w w5 := CH_4.then c5 (by intro q h1 h2; rcases h2 with h2 | h2 <;> first | exact h2 | (exfalso; omega) | omega)
      exact ⟨by omega, (by rw [f3, hf]; rfl), hx.put (by omega) (by omega) (by rw [f4, f3, hf]; rfl), by omega, ar5, CH_5⟩
    · skip
      try simp only [Bool.and_eq_true, Bool.or_eq_true, Bool.not_eq_true', Bool.not_eq_false', Bool.and_eq_false_iff, Bool.or_eq_false_iff, decide_eq_true_eq, decide_eq_false_iff_not] at hc3
      refine VC.skip (VQ.block_normal (VQ.then_code (VC.region (VO.mv (Rn.move rfl) rfl rfl rfl ?_))))
      refine VO.mv (Rn.add rfl rfl (by rw [IntKind.wrap_i64]; omega)) rfl rfl rfl ?_
      refine VO.mv (Rn.assign rfl) rfl rfl rfl (VO.nil ?_)
      refine VQ.round (j + 1, _, xs) (by first | omega | (dsimp only; omega)) ?_ ⟨rfl, rfl, rfl, rfl, rfl, trivial⟩
      have ar_3 := ar_2.keep c3
      have CH_3 := CH_2.and c3
      exact ⟨by omega, (by rw [f3, hf]; rfl), hx.skip (fun i => by omega), by omega, ar_3, CH_3⟩
  · skip
    refine VC.exit (VQ.then_exit (VQ.then_exit (VQ.block_exit (VQ.then_code (VC.seq (VC.seq (VC.region ?_)))))))
    refine VO.mv (Rn.move rfl) rfl rfl rfl (VO.mv (Rn.eql rfl rfl) rfl rfl rfl (VO.nil (VQ.then_code (VC.cond_if rfl (fun hc4 => ?_) (fun hc4 => ?_)))))
    · skip
      refine VC.region (VO.mv (Rn.indexArrL (o' := 0) Tryz.underlying146 Tryz.sizeOf25 rfl rfl (by omega) (by omega) (by omega)) rfl rfl rfl (VO.wk0 (Wk.putArr Tryz.sizeOf25 rfl rfl ar_2 (by omega)) rfl rfl ?_))
      rintro _ w6 ⟨ar6, c6, zz6⟩
      have z6 := c6.size
      refine VO.nil (VQ.then_code (VC.seq ?_))
      have ej : j = 16 := by omega
      rw [ej] at hx
      obtain ⟨hxm, hxg⟩ := hx.last0
      refine VC.region (VO.mv (Rn.indexArrL (o' := 8) Tryz.underlying146 Tryz.sizeOf25 rfl rfl (by omega) (by omega) (by omega)) rfl rfl rfl (VO.mv (Rn.load Tryz.isAgg25 rfl ((ar6).getF (by omega))) rfl rfl rfl (VO.mv (Rn.assign rfl) rfl rfl rfl (VO.nil (VQ.then_code (VC.seq (VC.seq ?_)))))))
      refine VC.region (VO.mv (Rn.assign rfl) rfl rfl rfl (VO.nil (VQ.then_code (VC.block ?_))))
      have CH_6 : Ch (No) w w6 := CH_2.then c6 (by intro q h1 h2; rcases h2 with h2 | h2 <;> first | exact h2 | (exfalso; omega) | omega)
      refine VC.loopS (σ := Int × Nat) (fun (i, p) => [(0, .float .f64 y), (5, .pointer (some ⟨p1, 0, none⟩)), (8, .float .f64 p), (9, .int .i64 i)]) (fun (i, p) w' => (-1 ≤ i ∧ i ≤ 7) ∧ cn p = hornP 0 (cn y) (7 - i).toNat ∧ w6.heap.size ≤ w'.heap.size ∧ Bk w' p1 (arrF (xs.set 0 4607182418800017408)) 146 ∧ Ch (No) w w') (fun (i, p) => (i + 1).toNat) (7, _) ?_ ⟨rfl, rfl, rfl, rfl, trivial⟩ ?_
      · exact ⟨⟨by omega, by omega⟩, (hxg 8 (by omega)), (Nat.le_refl _), ar6, CH_6⟩
      rintro ⟨i, p⟩ w7 ⟨hj2, hp, hsz7, ar_7, CH_7⟩
      show VC _ _ _ _ [(0, .float .f64 y), (5, .pointer (some ⟨p1, 0, none⟩)), (8, .float .f64 p), (9, .int .i64 i)] _
      refine VC.seq (VC.seq (VC.region (VO.mv (Rn.move rfl) rfl rfl rfl (VO.mv (Rn.geq rfl rfl) rfl rfl rfl (VO.nil (VQ.then_code (VC.cond_if rfl (fun hc5 => ?_) (fun hc5 => ?_))))))))
      · skip
        refine VC.skip (VQ.then_code (VC.seq (VC.block (VC.region (VO.mv (Rn.move rfl) rfl rfl rfl (VO.mv (Rn.indexArrL (o' := i.toNat) Tryz.underlying146 Tryz.sizeOf25 rfl rfl (by omega) (by omega) (by omega)) rfl rfl rfl (VO.mv (Rn.load Tryz.isAgg25 rfl ((ar_7).getF (by omega))) rfl rfl rfl ?_)))))))
        refine VO.mv (Rn.move rfl) rfl rfl rfl (VO.mv (Rn.move rfl) rfl rfl rfl (VO.wk (Wk.fbin (.inr (.inr (.inl rfl))) rfl rfl) rfl rfl rfl ?_))
        rintro _ w8 ⟨r8, rfl, f8, c8⟩
        have z8 := c8.size
        refine VO.wk (Wk.fbin (.inr (.inl rfl)) rfl rfl) rfl rfl rfl ?_
        rintro _ w9 ⟨r9, rfl, f9, c9⟩
        have z9 := c9.size
        refine VO.mv (Rn.assign rfl) rfl rfl rfl (VO.nil (VQ.block_normal (VQ.then_code (VC.region (VO.mv (Rn.move rfl) rfl rfl rfl ?_)))))
        refine VO.mv (Rn.sub rfl rfl (by rw [IntKind.wrap_i64]; omega)) rfl rfl rfl ?_
        refine VO.mv (Rn.assign rfl) rfl rfl rfl (VO.nil ?_)
        refine VQ.round (i - 1, _) (by first | omega | (dsimp only; omega)) ?_ ⟨rfl, rfl, rfl, rfl, trivial⟩
        have ar_9 := ar_7.keep (c8.trans c9)
        have CH_9 := CH_7.and (c8.trans c9)
        exact ⟨⟨by omega, by omega⟩, (by rw [show (7 - (i - 1)).toNat = (7 - i).toNat + 1 by omega, f9, f8, hxg i.toNat (by omega), hp, hornP, show 7 - (7 - i).toNat = i.toNat by omega]; try rfl), by omega, ar_9, CH_9⟩
      · skip
        refine VC.exit (VQ.then_exit (VQ.then_exit (VQ.block_exit (VQ.then_code (VC.seq (VC.region (VO.mv (Rn.move rfl) rfl rfl rfl ?_)))))))
        refine VO.mv (Rn.assign rfl) rfl rfl rfl (VO.nil (VQ.then_code (VC.ret (VQ.ret1 rfl rfl (Ret.mk ?_)))))
        have ei : i = -1 := by omega
        subst ei
        exact ⟨_, rfl, hp, CH_7⟩
    · skip
      omega

set_option maxHeartbeats 1000000 in
set_option maxRecDepth 100000 in
theorem roots_horner1 (y : Nat) (w : World) :
    Calls Tryz.prog 100 #[.float .f64 y, .int .i64 1] w (Ret (fun v w' => ∃ b, v = .float .f64 b ∧ cn b = hornF 1 (cn y) ∧ Ch No w w')) := by
  refine calls_of_VC (args := [.float .f64 y, .int .i64 1]) Tryz.func100 rfl Tryz.ntmps100 rfl (VC.seq (VC.region (VO.mv (Rn.assign rfl) rfl rfl rfl (VO.nil (VQ.then_code (VC.seq (VC.region ?_)))))))
  refine VO.wk (Wk.alloc Tryz.zeroValue146) rfl rfl rfl ?_
  rintro _ w1 ⟨p1, rfl, N1⟩
  have c1 := N1.ch
  have e1 := N1.p; have z1 := N1.size
  have b5 := Bk.new N1
  refine VO.nil (VQ.then_code (VC.seq (VC.region (VO.mv (Rn.assign rfl) rfl rfl rfl (VO.nil (VQ.then_code (VC.seq ?_)))))))
  refine VC.seq (VC.region (VO.mv (Rn.assign rfl) rfl rfl rfl (VO.nil (VQ.then_code (VC.block ?_)))))
  have CH_1 := (Ch.refl (No) w).and c1
  refine VC.loopS (σ := Nat × Nat × List Nat) (fun (j, f, xs) => [(0, .float .f64 y), (1, .int .i64 1), (5, .pointer (some ⟨p1, 0, none⟩)), (6, .float .f64 f), (7, .int .i64 (j + 1))]) (fun (j, f, xs) w' => j ≤ 17 ∧ cn f = facF j ∧ CofA 1 j xs ∧ w1.heap.size ≤ w'.heap.size ∧ Bk w' p1 (arrF xs) 146 ∧ Ch (No) w w') (fun (j, f, xs) => 17 - j) (0, _, List.replicate 9 0) ?_ ⟨rfl, rfl, rfl, rfl, rfl, trivial⟩ ?_
  · exact ⟨(by omega), (by rfl), (CofA.zero _), (Nat.le_refl _), b5, CH_1⟩
  rintro ⟨j, f, xs⟩ w2 ⟨hj, hf, hx, hsz2, ar_2, CH_2⟩
  show VC _ _ _ _ [(0, .float .f64 y), (1, .int .i64 1), (5, .pointer (some ⟨p1, 0, none⟩)), (6, .float .f64 f), (7, .int .i64 (j + 1))] _
  have hxl := hx.len
  refine VC.seq (VC.seq (VC.region (VO.mv (Rn.move rfl) rfl rfl rfl (VO.mv (Rn.move rfl) rfl rfl rfl ?_))))
  refine VO.mv (Rn.add rfl rfl (by rw [IntKind.wrap_i64]; omega)) rfl rfl rfl ?_
  refine VO.mv (Rn.sub rfl rfl (by rw [IntKind.wrap_i64]; omega)) rfl rfl rfl ?_
  refine VO.mv (Rn.lss rfl rfl) rfl rfl rfl (VO.nil (VQ.then_code (VC.cond_if rfl (fun hc1 => ?_) (fun hc1 => ?_))))
  · skip
    refine VC.skip (VQ.then_code (VC.seq (VC.block (VC.seq (VC.region (VO.mv (Rn.move rfl) rfl rfl rfl (VO.mv (Rn.move rfl) rfl rfl rfl ?_)))))))
    refine VO.mv (Rn.conv_if Tryz.underlying3 Tryz.underlying25 rfl) rfl rfl rfl (VO.wk (Wk.fbin (.inr (.inr (.inl rfl))) rfl rfl) rfl rfl rfl ?_)
    rintro _ w3 ⟨r3, rfl, f3, c3⟩
    have z3 := c3.size
    refine VO.mv (Rn.assign rfl) rfl rfl rfl (VO.nil (VQ.then_code (VC.seq (VC.region (VO.mv (Rn.move rfl) rfl rfl rfl (VO.mv (Rn.move rfl) rfl rfl rfl (VO.mv (Rn.geq rfl rfl) rfl rfl rfl ?_)))))))
    refine VO.mv (Rn.move rfl) rfl rfl rfl ?_
    refine VO.andJoin (b := _) 6 24 30 rfl (fun hc2 Jhc2 => by
        try simp only [Bool.and_eq_true, Bool.or_eq_true, Bool.not_eq_true', Bool.not_eq_false', Bool.and_eq_false_iff, Bool.or_eq_false_iff, decide_eq_true_eq, decide_eq_false_iff_not] at hc2
        refine VO.mv (Rn.move rfl) rfl rfl rfl (VO.mv (Rn.move rfl) rfl rfl rfl ?_)
        refine VO.mv (Rn.sub rfl rfl (by rw [IntKind.wrap_i64]; omega)) rfl rfl rfl ?_
        refine VO.mv (Rn.rem0 rfl rfl (by omega) (by omega)) rfl rfl rfl (VO.mv (Rn.eql rfl rfl) rfl rfl rfl (VO.mv (Rn.pick_true rfl rfl) rfl rfl rfl ?_))
        exact (VO.fg rfl (VO.fg rfl (VO.fg rfl (VO.fg rfl (VO.fg rfl Jhc2)))))) (fun hc2 Jhc2 => by
        refine VO.skip rfl rfl rfl (VO.skip rfl rfl rfl (VO.skip rfl rfl rfl (VO.skip rfl rfl rfl (VO.skip rfl rfl rfl (VO.mv (Rn.pick_false rfl rfl) rfl rfl rfl ?_)))))
        exact (VO.fg rfl (VO.fg rfl (VO.fg rfl (VO.fg rfl (VO.fg rfl Jhc2)))))) ?_
    refine VO.nil (VQ.then_code (VC.cond rfl (fun hc3 => ?_) (fun hc3 => ?_)))
    · skip
      try simp only [Bool.and_eq_true, Bool.or_eq_true, Bool.not_eq_true', Bool.not_eq_false', Bool.and_eq_false_iff, Bool.or_eq_false_iff, decide_eq_true_eq, decide_eq_false_iff_not] at hc3
      refine VC.region (VO.mv (Rn.move rfl) rfl rfl rfl (VO.mv (Rn.move rfl) rfl rfl rfl ?_))
      refine VO.mv (Rn.sub rfl rfl (by rw [IntKind.wrap_i64]; omega)) rfl rfl rfl ?_
      refine VO.mv (Rn.quo0 rfl rfl (by omega) (by omega) (by omega)) rfl rfl rfl (VO.mv (Rn.move rfl) rfl rfl rfl (VO.wk (Wk.fbin (.inr (.inr (.inr rfl))) rfl rfl) rfl rfl rfl ?_))
      rintro _ w4 ⟨r4, rfl, f4, c4⟩
      have z4 := c4.size
      refine VO.mv (Rn.indexArrL (o' := (j + 1 - 1) / 2) Tryz.underlying146 Tryz.sizeOf25 rfl rfl (by omega) (by omega) (by omega)) rfl rfl rfl ?_
      have ar_4 := ar_2.keep (c3.trans c4)
      refine VO.wk0 (Wk.putArr Tryz.sizeOf25 rfl rfl ar_4 (by omega)) rfl rfl ?_
      rintro _ w5 ⟨ar5, c5, zz5⟩
      have z5 := c5.size
      refine VO.nil (VQ.block_normal (VQ.then_code (VC.region (VO.mv (Rn.move rfl) rfl rfl rfl ?_))))
      refine VO.mv (Rn.add rfl rfl (by rw [IntKind.wrap_i64]; omega)) rfl rfl rfl ?_
      refine VO.mv (Rn.assign rfl) rfl rfl rfl (VO.nil ?_)
      refine VQ.round (j + 1, _, xs.set ((j + 1 - 1) / 2) r4) (by first | omega | (dsimp only; omega)) ?_ ⟨rfl, rfl, rfl, rfl, rfl, trivial⟩
      have CH_4 := CH_2.and (c3.trans c4)
      have CH_5 : Ch (No) w w5 := CH_4.then c5 (by intro q h1 h2; rcases h2 with h2 | h2 <;> first | exact h2 | (exfalso; omega) | omega)
      exact ⟨by omega, (by rw [f3, hf]; rfl), hx.put (by omega) (by omega) (by rw [f4, f3, hf]; rfl), by omega, ar5, CH_5⟩
    · skip
      try simp only [Bool.and_eq_true, Bool.or_eq_true, Bool.not_eq_true', Bool.not_eq_false', Bool.and_eq_false_iff, Bool.or_eq_false_iff, decide_eq_true_eq, decide_eq_false_iff_not] at hc3
      refine VC.skip (VQ.block_normal (VQ.then_code (VC.region (VO.mv (Rn.move rfl) rfl rfl rfl ?_))))
      refine VO.mv (Rn.add rfl rfl (by rw [IntKind.wrap_i64]; omega)) rfl rfl rfl ?_
      refine VO.mv (Rn.assign rfl) rfl rfl rfl (VO.nil ?_)
      refine VQ.round (j + 1, _, xs) (by first | omega | (dsimp only; omega)) ?_ ⟨rfl, rfl, rfl, rfl, rfl, trivial⟩
      have ar_3 := ar_2.keep c3
      have CH_3 := CH_2.and c3
      exact ⟨by omega, (by rw [f3, hf]; rfl), hx.skip (fun i => by omega), by omega, ar_3, CH_3⟩
  · skip
    refine VC.exit (VQ.then_exit (VQ.then_exit (VQ.block_exit (VQ.then_code (VC.seq (VC.seq (VC.region ?_)))))))
    refine VO.mv (Rn.move rfl) rfl rfl rfl (VO.mv (Rn.eql rfl rfl) rfl rfl rfl (VO.nil (VQ.then_code (VC.cond_if rfl (fun hc4 => ?_) (fun hc4 => ?_)))))
    · skip
      omega
    · skip
      refine VC.skip (VQ.then_code (VC.seq ?_))
      have ej : j = 17 := by omega
      rw [ej] at hx
      obtain ⟨hxm, hxg⟩ := (CofA.last1 (first := 1) hx rfl)
      refine VC.region (VO.mv (Rn.indexArrL (o' := 8) Tryz.underlying146 Tryz.sizeOf25 rfl rfl (by omega) (by omega) (by omega)) rfl rfl rfl (VO.mv (Rn.load Tryz.isAgg25 rfl ((ar_2).getF (by omega))) rfl rfl rfl (VO.mv (Rn.assign rfl) rfl rfl rfl (VO.nil (VQ.then_code (VC.seq (VC.seq ?_)))))))
      refine VC.region (VO.mv (Rn.assign rfl) rfl rfl rfl (VO.nil (VQ.then_code (VC.block (VC.loopS (σ := Int × Nat) (fun (i, p) => [(0, .float .f64 y), (5, .pointer (some ⟨p1, 0, none⟩)), (8, .float .f64 p), (9, .int .i64 i)]) (fun (i, p) w' => (-1 ≤ i ∧ i ≤ 7) ∧ cn p = hornP 1 (cn y) (7 - i).toNat ∧ w2.heap.size ≤ w'.heap.size ∧ Bk w' p1 (arrF xs) 146 ∧ Ch (No) w w') (fun (i, p) => (i + 1).toNat) (7, _) ?_ ⟨rfl, rfl, rfl, rfl, trivial⟩ ?_)))))
      · exact ⟨⟨by omega, by omega⟩, (hxg 8 (by omega)), (Nat.le_refl _), ar_2, CH_2⟩
      rintro ⟨i, p⟩ w6 ⟨hj2, hp, hsz6, ar_6, CH_6⟩
      show VC _ _ _ _ [(0, .float .f64 y), (5, .pointer (some ⟨p1, 0, none⟩)), (8, .float .f64 p), (9, .int .i64 i)] _
      refine VC.seq (VC.seq (VC.region (VO.mv (Rn.move rfl) rfl rfl rfl (VO.mv (Rn.geq rfl rfl) rfl rfl rfl (VO.nil (VQ.then_code (VC.cond_if rfl (fun hc5 => ?_) (fun hc5 => ?_))))))))
      · skip
        refine VC.skip (VQ.then_code (VC.seq (VC.block (VC.region (VO.mv (Rn.move rfl) rfl rfl rfl (VO.mv (Rn.indexArrL (o' := i.toNat) Tryz.underlying146 Tryz.sizeOf25 rfl rfl (by omega) (by omega) (by omega)) rfl rfl rfl (VO.mv (Rn.load Tryz.isAgg25 rfl ((ar_6).getF (by omega))) rfl rfl rfl ?_)))))))
        refine VO.mv (Rn.move rfl) rfl rfl rfl (VO.mv (Rn.move rfl) rfl rfl rfl (VO.wk (Wk.fbin (.inr (.inr (.inl rfl))) rfl rfl) rfl rfl rfl ?_))
        rintro _ w7 ⟨r7, rfl, f7, c7⟩
        have z7 := c7.size
        refine VO.wk (Wk.fbin (.inr (.inl rfl)) rfl rfl) rfl rfl rfl ?_
        rintro _ w8 ⟨r8, rfl, f8, c8⟩
        have z8 := c8.size
        refine VO.mv (Rn.assign rfl) rfl rfl rfl (VO.nil (VQ.block_normal (VQ.then_code (VC.region (VO.mv (Rn.move rfl) rfl rfl rfl ?_)))))
        refine VO.mv (Rn.sub rfl rfl (by rw [IntKind.wrap_i64]; omega)) rfl rfl rfl ?_
        refine VO.mv (Rn.assign rfl) rfl rfl rfl (VO.nil ?_)
        refine VQ.round (i - 1, _) (by first | omega | (dsimp only; omega)) ?_ ⟨rfl, rfl, rfl, rfl, trivial⟩
        have ar_8 := ar_6.keep (c7.trans c8)
        have CH_8 := CH_6.and (c7.trans c8)
        exact ⟨⟨by omega, by omega⟩, (by rw [show (7 - (i - 1)).toNat = (7 - i).toNat + 1 by omega, f8, f7, hxg i.toNat (by omega), hp, hornP, show 7 - (7 - i).toNat = i.toNat by omega]; try rfl), by omega, ar_8, CH_8⟩
      · skip
        refine VC.exit (VQ.then_exit (VQ.then_exit (VQ.block_exit (VQ.then_code (VC.seq (VC.region (VO.mv (Rn.move rfl) rfl rfl rfl ?_)))))))
        refine VO.mv (Rn.assign rfl) rfl rfl rfl (VO.nil (VQ.then_code (VC.ret (VQ.ret1 rfl rfl (Ret.mk ?_)))))
        have ei : i = -1 := by omega
        subst ei
        exact ⟨_, rfl, hp, CH_6⟩

set_option maxRecDepth 100000 in
theorem roots_eighth (r m : Int) (hr : 0 ≤ r ∧ r ≤ 1000000000000) (w : World) :
    Calls Tryz.prog 87 #[.int .i64 r, .int .i64 m] w (Ret (fun v w' => ∃ a b, v = .tuple #[.float .f64 a, .float .f64 b] ∧ cx (a, b) = eighF r m ∧ Ch No w w')) := by
  refine calls_of_VC (args := [.int .i64 r, .int .i64 m]) Tryz.func87 rfl Tryz.ntmps87 rfl (VC.seq (VC.region (VO.mv (Rn.assign rfl) rfl rfl rfl (VO.mv (Rn.assign rfl) rfl rfl rfl (VO.nil (VQ.then_code (VC.seq ?_)))))))
  refine VC.block (VC.seq (VC.region (VO.mv (Rn.move rfl) rfl rfl rfl (VO.mv (Rn.eql rfl rfl) rfl rfl rfl (VO.mv (Rn.assign rfl) rfl rfl rfl (VO.nil (VQ.then_code ?_)))))))
  refine VC.cond_if rfl (fun hc1 => ?_) (fun hc1 => ?_)
  · skip
    refine VC.seq (VC.region (VO.mv (Rn.assign rfl) rfl rfl rfl (VO.mv (Rn.assign rfl) rfl rfl rfl (VO.nil (VQ.then_code (VC.ret (VQ.block_ret ?_)))))))
    refine VQ.then_ret (VQ.ret2 rfl rfl rfl (Ret.mk ?_))
    exact ⟨_, _, rfl, (by rw [eighF, if_pos (by omega)]; rfl), (Ch.refl (No) w)⟩
  · skip
    refine VC.seq (VC.region (VO.mv (Rn.move rfl) rfl rfl rfl ?_))
    refine VO.mv (Rn.mul rfl rfl (by rw [IntKind.wrap_i64]; omega)) rfl rfl rfl ?_
    refine VO.mv (Rn.move rfl) rfl rfl rfl (VO.mv (Rn.eql rfl rfl) rfl rfl rfl (VO.mv (Rn.assign rfl) rfl rfl rfl (VO.nil (VQ.then_code (VC.cond_if rfl (fun hc2 => ?_) (fun hc2 => ?_))))))
    · skip
      refine VC.seq (VC.region (VO.mv (Rn.fbits Tryz.func9 (by kernel_rfl) rfl (by kernel_rfl) (by kernel_rfl) rfl) rfl rfl rfl (VO.mv (Rn.assign rfl) rfl rfl rfl (VO.nil (VQ.then_code (VC.seq (VC.region ?_)))))))
      refine VO.mv (Rn.move rfl) rfl rfl rfl (VO.mv (Rn.move rfl) rfl rfl rfl (VO.mv (Rn.assign rfl) rfl rfl rfl (VO.mv (Rn.assign rfl) rfl rfl rfl (VO.nil (VQ.then_code (VC.ret (VQ.block_ret ?_)))))))
      refine VQ.then_ret (VQ.ret2 rfl rfl rfl (Ret.mk ?_))
      exact ⟨_, _, rfl, (by rw [eighF, if_neg (by omega), if_pos (by omega)]; rfl), (Ch.refl (No) w)⟩
    · skip
      refine VC.skip (VQ.block_normal (VQ.then_code (VC.seq (VC.region (VO.mv (Rn.fbits Tryz.func9 (by kernel_rfl) rfl (by kernel_rfl) (by kernel_rfl) rfl) rfl rfl rfl (VO.mv (Rn.move rfl) rfl rfl rfl (VO.mv (Rn.conv_if Tryz.underlying3 Tryz.underlying25 rfl) rfl rfl rfl ?_)))))))
      refine VO.wk (Wk.fbin (.inr (.inr (.inl rfl))) rfl rfl) rfl rfl rfl ?_
      rintro _ w1 ⟨r1, rfl, f1, c1⟩
      have z1 := c1.size
      refine VO.mv (Rn.move rfl) rfl rfl rfl (VO.mv (Rn.conv_if Tryz.underlying3 Tryz.underlying25 rfl) rfl rfl rfl (VO.wk (Wk.fbin (.inr (.inr (.inr rfl))) rfl rfl) rfl rfl rfl ?_))
      rintro _ w2 ⟨r2, rfl, f2, c2⟩
      have z2 := c2.size
      refine VO.mv (Rn.assign rfl) rfl rfl rfl (VO.nil (VQ.then_code (VC.seq (VC.region (VO.mv (Rn.move rfl) rfl rfl rfl (VO.mv (Rn.move rfl) rfl rfl rfl (VO.wk (Wk.fbin (.inr (.inr (.inl rfl))) rfl rfl) rfl rfl rfl ?_)))))))
      rintro _ w3 ⟨r3, rfl, f3, c3⟩
      have z3 := c3.size
      refine VO.mv (Rn.assign rfl) rfl rfl rfl (VO.nil (VQ.then_code (VC.seq (VC.region (VO.mv (Rn.move rfl) rfl rfl rfl (VO.wk (Wk.call Tryz.call100 rfl (roots_horner0 _ _)) rfl rfl rfl ?_))))))
      rintro _ w4 ⟨b4, rfl, F4, c4⟩
      have z4 := c4.size
      refine VO.mv (Rn.move rfl) rfl rfl rfl (VO.mv (Rn.move rfl) rfl rfl rfl (VO.wk (Wk.call Tryz.call100 rfl (roots_horner1 _ _)) rfl rfl rfl ?_))
      rintro _ w5 ⟨b5, rfl, F5, c5⟩
      have z5 := c5.size
      refine VO.wk (Wk.fbin (.inr (.inr (.inl rfl))) rfl rfl) rfl rfl rfl ?_
      rintro _ w6 ⟨r6, rfl, f6, c6⟩
      have z6 := c6.size
      refine VO.mv (Rn.assign rfl) rfl rfl rfl (VO.mv (Rn.assign rfl) rfl rfl rfl (VO.nil (VQ.then_code (VC.ret (VQ.ret2 rfl rfl rfl (Ret.mk ?_))))))
      have CH_6 := (Ch.refl (No) w).and (c1.trans (c2.trans (c3.trans (c4.trans (c5.trans c6)))))
      exact ⟨_, _, rfl, (by rw [eighF, if_neg (by omega), if_neg (by omega)]; show (cn _, cn _) = _; rw [F4, f6, F5, f3, f2, f1]; rfl), CH_6⟩

set_option maxRecDepth 100000 in
theorem roots_modI (a : Int) (n q : Nat) (hn : 0 < n) (ha : -1000000000000 ≤ a ∧ a ≤ 1000000000000) (hn2 : n ≤ 1000000000000) (hq : a % (n : Int) = (q : Int)) (w : World) :
    Calls Tryz.prog 72 #[.int .i64 a, .int .i64 n] w (Ret (fun v w' => v = .int .i64 q ∧ w = w')) := by
  have h0 := tmod_mod (k := a) hn
  have h1 := Int.tmod_lt_of_pos a (show (0 : Int) < n by omega)
  have h2 := Int.tmod_lt_of_pos (-a) (show (0 : Int) < n by omega)
  rw [Int.neg_tmod] at h2
  rw [Int.tmod_eq_emod_of_nonneg (by omega)] at h0
  refine calls_of_VC (args := [.int .i64 a, .int .i64 n]) Tryz.func72 rfl Tryz.ntmps72 rfl (VC.seq (VC.region (VO.mv (Rn.assign rfl) rfl rfl rfl (VO.nil (VQ.then_code (VC.seq (VC.region ?_)))))))
  refine VO.mv (Rn.move rfl) rfl rfl rfl (VO.mv (Rn.move rfl) rfl rfl rfl (VO.mv (Rn.rem rfl rfl (by omega)) rfl rfl rfl (VO.mv (Rn.move rfl) rfl rfl rfl ?_)))
  refine VO.mv (Rn.add rfl rfl (by rw [IntKind.wrap_i64]; omega)) rfl rfl rfl ?_
  refine VO.mv (Rn.move rfl) rfl rfl rfl (VO.mv (Rn.rem0 rfl rfl (by omega) (by omega)) rfl rfl rfl (VO.mv (Rn.assign rfl) rfl rfl rfl (VO.nil (VQ.then_code (VC.ret (VQ.ret1 rfl rfl (Ret.mk ?_)))))))
  exact ⟨by rw [h0, hq], rfl⟩

set_option maxRecDepth 100000 in
theorem roots_pairG (n : Nat) (a : Int) (q : Nat) (hn : 1 ≤ n) (hn2 : n ≤ 4194304) (ha : -1000000000000 ≤ a ∧ a ≤ 1000000000000) (hq : a % (n : Int) = (q : Int)) (w : World) :
    Calls Tryz.prog 68 #[.int .i64 n, .int .i64 a] w (Ret (fun v w' => ∃ c s, v = .tuple #[.float .f64 c, .float .f64 s, .nilIface] ∧ cx (c, s) = pairF n q ∧ Ch No w w')) := by
  have hql : q < n := by have := Int.emod_lt_of_pos a (show (0 : Int) < n by omega); omega
  have hm := Nat.mod_lt (4 * q) (show 0 < n by omega)
  have hr : (4 * (q : Int)) % (n : Int) = ((4 * q % n : Nat) : Int) := by push_cast; rfl
  have hd : (4 * (q : Int)) / (n : Int) = ((4 * q / n : Nat) : Int) := by push_cast; rfl
  have hd2 := Nat.div_le_self (4 * q) n
  refine calls_of_VC (args := [.int .i64 n, .int .i64 a]) Tryz.func68 rfl Tryz.ntmps68 rfl (VC.seq (VC.region (VO.mv (Rn.assign rfl) rfl rfl rfl (VO.mv (Rn.assign rfl) rfl rfl rfl (VO.mv (Rn.assign rfl) rfl rfl rfl (VO.nil (VQ.then_code ?_)))))))
  refine VC.seq (VC.seq (VC.region (VO.mv (Rn.move rfl) rfl rfl rfl (VO.mv (Rn.lss rfl rfl) rfl rfl rfl (VO.mv (Rn.move rfl) rfl rfl rfl ?_)))))
  refine VO.orJoin (b := _) 3 13 16 rfl (fun hc1 Jhc1 => by
      refine VO.skip rfl rfl rfl (VO.skip rfl rfl rfl (VO.mv (Rn.pick_true rfl rfl) rfl rfl rfl ?_))
      exact (VO.fg rfl (VO.fg rfl Jhc1))) (fun hc1 Jhc1 => by
      try simp only [Bool.and_eq_true, Bool.or_eq_true, Bool.not_eq_true', Bool.not_eq_false', Bool.and_eq_false_iff, Bool.or_eq_false_iff, decide_eq_true_eq, decide_eq_false_iff_not] at hc1
      refine VO.mv (Rn.move rfl) rfl rfl rfl (VO.mv (Rn.gtr rfl rfl) rfl rfl rfl (VO.mv (Rn.pick_false rfl rfl) rfl rfl rfl ?_))
      exact (VO.fg rfl (VO.fg rfl Jhc1))) ?_
  refine VO.nil (VQ.then_code (VC.cond rfl (fun hc2 => ?_) (fun hc2 => ?_)))
  · skip
    try simp only [Bool.and_eq_true, Bool.or_eq_true, Bool.not_eq_true', Bool.not_eq_false', Bool.and_eq_false_iff, Bool.or_eq_false_iff, decide_eq_true_eq, decide_eq_false_iff_not] at hc2
    omega
  · skip
    try simp only [Bool.and_eq_true, Bool.or_eq_true, Bool.not_eq_true', Bool.not_eq_false', Bool.and_eq_false_iff, Bool.or_eq_false_iff, decide_eq_true_eq, decide_eq_false_iff_not] at hc2
    refine VC.skip (VQ.then_code (VC.seq (VC.region (VO.mv (Rn.move rfl) rfl rfl rfl (VO.mv (Rn.move rfl) rfl rfl rfl (VO.wk (Wk.call Tryz.call72 rfl (roots_modI _ _ q (by omega) (by omega) (by omega) hq _)) rfl rfl rfl ?_))))))
    rintro _ _ ⟨rfl, rfl⟩
    refine VO.mv (Rn.mul rfl rfl (by rw [IntKind.wrap_i64]; omega)) rfl rfl rfl ?_
    refine VO.mv (Rn.assign rfl) rfl rfl rfl (VO.nil (VQ.then_code (VC.seq (VC.region (VO.mv (Rn.move rfl) rfl rfl rfl (VO.mv (Rn.move rfl) rfl rfl rfl (VO.mv (Rn.rem0 rfl rfl (by omega) (by omega)) rfl rfl rfl ?_)))))))
    refine VO.mv (Rn.assign rfl) rfl rfl rfl (VO.nil (VQ.then_code (VC.seq (VC.region (VO.mv (Rn.assign rfl) rfl rfl rfl (VO.mv (Rn.assign rfl) rfl rfl rfl (VO.nil ?_)))))))
    refine VQ.then_code (VC.cut (σ := Nat × Nat) (fun (c, s) => [(0, .int .i64 n), (7, .int .i64 (4 * (q : Int))), (9, .float .f64 c), (10, .float .f64 s)]) (fun (c, s) w' => cx (c, s) = pair0 n q ∧ w.heap.size ≤ w'.heap.size ∧ Ch No w w') ?_ ?_)
    · skip
      refine VC.seq (VC.region (VO.mv (Rn.move rfl) rfl rfl rfl ?_))
      refine VO.mv (Rn.mul rfl rfl (by rw [IntKind.wrap_i64]; omega)) rfl rfl rfl ?_
      refine VO.mv (Rn.move rfl) rfl rfl rfl (VO.mv (Rn.leq rfl rfl) rfl rfl rfl (VO.nil (VQ.then_code (VC.cond_if rfl (fun hc3 => ?_) (fun hc3 => ?_)))))
      · skip
        refine VC.region (VO.mv (Rn.move rfl) rfl rfl rfl (VO.mv (Rn.move rfl) rfl rfl rfl ?_))
        refine VO.mv (Rn.mul rfl rfl (by rw [IntKind.wrap_i64]; omega)) rfl rfl rfl ?_
        refine VO.wk (Wk.call Tryz.call87 rfl (roots_eighth _ _ (by omega) _)) rfl rfl rfl ?_
        rintro _ w1 ⟨a1, b1, rfl, F1, c1⟩
        have z1 := c1.size
        refine VO.mv (Rn.move rfl) rfl rfl rfl (VO.mv (Rn.extract rfl rfl) rfl rfl rfl (VO.mv (Rn.extract rfl rfl) rfl rfl rfl (VO.mv (Rn.assign rfl) rfl rfl rfl (VO.mv (Rn.assign rfl) rfl rfl rfl (VO.nil (VQ.cut (_, _) ?_ ⟨rfl, rfl, rfl, rfl, trivial⟩))))))
        have CH_1 := (Ch.refl (No) w).and c1
        exact ⟨(by rw [hr] at F1 hc3; rw [pair0, if_pos (by omega)]; exact F1), by omega, CH_1⟩
      · skip
        refine VC.region (VO.mv (Rn.move rfl) rfl rfl rfl (VO.mv (Rn.move rfl) rfl rfl rfl ?_))
        refine VO.mv (Rn.sub rfl rfl (by rw [IntKind.wrap_i64]; omega)) rfl rfl rfl ?_
        refine VO.mv (Rn.move rfl) rfl rfl rfl ?_
        refine VO.mv (Rn.mul rfl rfl (by rw [IntKind.wrap_i64]; omega)) rfl rfl rfl ?_
        refine VO.wk (Wk.call Tryz.call87 rfl (roots_eighth _ _ (by omega) _)) rfl rfl rfl ?_
        rintro _ w2 ⟨a2, b2, rfl, F2, c2⟩
        have z2 := c2.size
        refine VO.mv (Rn.move rfl) rfl rfl rfl (VO.mv (Rn.extract rfl rfl) rfl rfl rfl (VO.mv (Rn.extract rfl rfl) rfl rfl rfl (VO.mv (Rn.assign rfl) rfl rfl rfl (VO.mv (Rn.assign rfl) rfl rfl rfl (VO.nil (VQ.cut (_, _) ?_ ⟨rfl, rfl, rfl, rfl, trivial⟩))))))
        have CH_2 := (Ch.refl (No) w).and c2
        exact ⟨(by rw [hr] at F2 hc3; rw [pair0, if_neg (by omega)]; exact congrArg (fun z : Cx => (z.2, z.1)) F2), by omega, CH_2⟩
    rintro ⟨c, s⟩ w3 ⟨hcs, hszc, CH_3⟩
    show VC _ _ _ _ [(0, .int .i64 n), (7, .int .i64 (4 * (q : Int))), (9, .float .f64 c), (10, .float .f64 s)] _
    refine VC.seq (VC.seq (VC.region (VO.mv (Rn.move rfl) rfl rfl rfl (VO.mv (Rn.move rfl) rfl rfl rfl (VO.mv (Rn.quo0 rfl rfl (by omega) (by omega) (by omega)) rfl rfl rfl (VO.mv (Rn.move rfl) rfl rfl rfl (VO.nil ?_)))))))
    refine VQ.then_code (VC.block (VC.loopS (σ := Nat × Nat × Nat) (fun (j, c, s) => [(9, .float .f64 c), (10, .float .f64 s), (47, .int .i64 (4 * (q : Int) / (n : Int))), (48, .int .i64 j)]) (fun (j, c, s) w' => j ≤ 4 * q / n ∧ cx (c, s) = turF (pair0 n q) j ∧ w3.heap.size ≤ w'.heap.size ∧ Ch (No) w w') (fun (j, c, s) => 4 * q / n - j) (0, c, s) ?_ ⟨rfl, rfl, rfl, rfl, trivial⟩ ?_))
    · exact ⟨(Nat.zero_le _), (by rw [hcs]; rfl), (Nat.le_refl _), CH_3⟩
    rintro ⟨j, c, s⟩ w4 ⟨hj, ht, hsz4, CH_4⟩
    show VC _ _ _ _ [(9, .float .f64 c), (10, .float .f64 s), (47, .int .i64 (4 * (q : Int) / (n : Int))), (48, .int .i64 j)] _
    refine VC.seq (VC.region (VO.mv (Rn.lss rfl rfl) rfl rfl rfl (VO.nil (VQ.then_code (VC.seq (VC.cond_if rfl (fun hc4 => ?_) (fun hc4 => ?_)))))))
    · skip
      refine VC.skip (VQ.then_code (VC.seq (VC.block (VC.region (VO.mv (Rn.move rfl) rfl rfl rfl (VO.mv (Rn.fneg rfl) rfl rfl rfl (VO.mv (Rn.move rfl) rfl rfl rfl ?_)))))))
      refine VO.mv (Rn.assign rfl) rfl rfl rfl (VO.mv (Rn.assign rfl) rfl rfl rfl (VO.nil (VQ.block_normal (VQ.then_code (VC.region ?_)))))
      refine VO.mv (Rn.add rfl rfl (by rw [IntKind.wrap_i64]; omega)) rfl rfl rfl ?_
      refine VO.mv (Rn.move rfl) rfl rfl rfl (VO.nil ?_)
      refine VQ.round (j + 1, _, _) (by first | omega | (dsimp only; omega)) ?_ ⟨rfl, rfl, rfl, rfl, trivial⟩
      exact ⟨(by omega), (by rw [turF, ← ht]; show (cn _, cn _) = _; rw [cn_neg]; rfl), (by omega), CH_4⟩
    · skip
      refine VC.exit (VQ.then_exit (VQ.then_exit (VQ.block_exit (VQ.then_code (VC.seq (VC.region (VO.mv (Rn.move rfl) rfl rfl rfl ?_)))))))
      refine VO.wk (Wk.call Tryz.call88 rfl (roots_plus _ _)) rfl rfl rfl ?_
      rintro _ _ ⟨rfl, rfl⟩
      refine VO.mv (Rn.move rfl) rfl rfl rfl (VO.wk (Wk.call Tryz.call88 rfl (roots_plus _ _)) rfl rfl rfl ?_)
      rintro _ _ ⟨rfl, rfl⟩
      refine VO.mv (Rn.assign rfl) rfl rfl rfl (VO.mv (Rn.assign rfl) rfl rfl rfl (VO.mv (Rn.assign rfl) rfl rfl rfl (VO.nil (VQ.then_code (VC.ret (VQ.ret3 rfl rfl rfl rfl (Ret.mk ?_)))))))
      have e : j = 4 * q / n := by omega
      subst e
      exact ⟨_, _, rfl, (by show (cn _, cn _) = _; rw [cn_pz, cn_pz, pairF, ← ht]; rfl), CH_4⟩

set_option maxRecDepth 100000 in
theorem roots_RootG (n : Nat) (a : Int) (q : Nat) (hn : 1 ≤ n) (hn2 : n ≤ 4194304) (ha : -1000000000000 ≤ a ∧ a ≤ 1000000000000) (hq : a % (n : Int) = (q : Int)) (w : World) :
    Calls Tryz.prog 71 #[.int .i64 n, .int .i64 a] w (Ret (fun v w' => ∃ x y, v = .tuple #[.complex .f64 x y, .nilIface] ∧ cx (x, y) = rootF n q ∧ Ch No w w')) := by
  refine calls_of_VC (args := [.int .i64 n, .int .i64 a]) Tryz.func71 rfl Tryz.ntmps71 rfl (VC.seq (VC.region (VO.mv (Rn.assign rfl) rfl rfl rfl (VO.mv (Rn.assign rfl) rfl rfl rfl (VO.nil (VQ.then_code (VC.seq ?_)))))))
  refine VC.region (VO.mv (Rn.move rfl) rfl rfl rfl (VO.mv (Rn.move rfl) rfl rfl rfl (VO.wk (Wk.call Tryz.call68 rfl (roots_pairG _ _ q (by omega) (by omega) (by omega) hq _)) rfl rfl rfl ?_)))
  rintro _ w1 ⟨x1, y1, rfl, F1, c1⟩
  have z1 := c1.size
  refine VO.mv (Rn.move rfl) rfl rfl rfl (VO.mv (Rn.extract rfl rfl) rfl rfl rfl (VO.mv (Rn.extract rfl rfl) rfl rfl rfl (VO.mv (Rn.extract rfl rfl) rfl rfl rfl (VO.mv (Rn.assign rfl) rfl rfl rfl (VO.mv (Rn.assign rfl) rfl rfl rfl (VO.mv (Rn.assign rfl) rfl rfl rfl (VO.nil ?_)))))))
  refine VQ.then_code (VC.seq (VC.seq (VC.region (VO.mv (Rn.move rfl) rfl rfl rfl (VO.mv (Rn.nil_neq_nil Tryz.underlying29 rfl) rfl rfl rfl (VO.nil (VQ.then_code ?_)))))))
  refine VC.cond_false rfl (VC.skip (VQ.then_code (VC.seq (VC.region (VO.mv (Rn.move rfl) rfl rfl rfl (VO.mv (Rn.move rfl) rfl rfl rfl (VO.mv (Rn.fneg rfl) rfl rfl rfl ?_)))))))
  refine VO.wk (Wk.call Tryz.call88 rfl (roots_plus _ _)) rfl rfl rfl ?_
  rintro _ _ ⟨rfl, rfl⟩
  refine VO.mv (Rn.complex rfl rfl) rfl rfl rfl (VO.mv (Rn.assign rfl) rfl rfl rfl (VO.mv (Rn.assign rfl) rfl rfl rfl (VO.nil (VQ.then_code (VC.ret (VQ.ret2 rfl rfl rfl (Ret.mk ?_)))))))
  have CH_1 := (Ch.refl (No) w).and c1
  exact ⟨_, _, rfl, (by show (cn _, cn _) = _; rw [cn_pz, cn_neg, rootF, ← F1]; rfl), CH_1⟩

set_option maxRecDepth 100000 in
theorem roots_Twist (u v : Nat) (n : Nat) (a : Int) (q : Nat) (hn : 1 ≤ n) (hn2 : n ≤ 4194304) (ha : -1000000000000 ≤ a ∧ a ≤ 1000000000000) (hq : a % (n : Int) = (q : Int)) (w : World) :
    Calls Tryz.prog 42 #[.complex .f64 u v, .int .i64 n, .int .i64 a] w (Ret (fun v_ w' => ∃ x y, v_ = .tuple #[.complex .f64 x y, .nilIface] ∧ cx (x, y) = twistF (cx (u, v)) n q ∧ Ch No w w')) := by
  refine calls_of_VC (args := [.complex .f64 u v, .int .i64 n, .int .i64 a]) Tryz.func42 rfl Tryz.ntmps42 rfl (VC.seq (VC.region (VO.mv (Rn.assign rfl) rfl rfl rfl (VO.mv (Rn.assign rfl) rfl rfl rfl (VO.nil (VQ.then_code (VC.seq ?_)))))))
  refine VC.region (VO.mv (Rn.move rfl) rfl rfl rfl (VO.mv (Rn.move rfl) rfl rfl rfl (VO.wk (Wk.call Tryz.call71 rfl (roots_RootG _ _ q (by omega) (by omega) (by omega) hq _)) rfl rfl rfl ?_)))
  rintro _ w1 ⟨x1, y1, rfl, F1, c1⟩
  have z1 := c1.size
  refine VO.mv (Rn.move rfl) rfl rfl rfl (VO.mv (Rn.extract rfl rfl) rfl rfl rfl (VO.mv (Rn.extract rfl rfl) rfl rfl rfl (VO.mv (Rn.assign rfl) rfl rfl rfl (VO.mv (Rn.assign rfl) rfl rfl rfl (VO.nil (VQ.then_code (VC.seq ?_)))))))
  refine VC.seq (VC.region (VO.mv (Rn.move rfl) rfl rfl rfl (VO.mv (Rn.nil_neq_nil Tryz.underlying29 rfl) rfl rfl rfl (VO.nil (VQ.then_code (VC.cond_false rfl (VC.skip ?_)))))))
  refine VQ.then_code (VC.seq (VC.seq (VC.region (VO.mv (Rn.move rfl) rfl rfl rfl (VO.mv (Rn.move rfl) rfl rfl rfl (VO.wk (Wk.call Tryz.call72 rfl (roots_modI _ _ q (by omega) (by omega) (by omega) hq _)) rfl rfl rfl ?_))))))
  rintro _ _ ⟨rfl, rfl⟩
  refine VO.mv (Rn.eql rfl rfl) rfl rfl rfl (VO.nil (VQ.then_code (VC.cond_if rfl (fun hc1 => ?_) (fun hc1 => ?_))))
  · skip
    refine VC.seq (VC.region (VO.mv (Rn.move rfl) rfl rfl rfl (VO.mv (Rn.assign rfl) rfl rfl rfl (VO.mv (Rn.assign rfl) rfl rfl rfl (VO.nil (VQ.then_code (VC.ret ?_)))))))
    refine VQ.then_ret (VQ.ret2 rfl rfl rfl (Ret.mk ?_))
    have CH_1 := (Ch.refl (No) w).and c1
    exact ⟨_, _, rfl, (by rw [twistF, if_pos (by omega)]), CH_1⟩
  · skip
    refine VC.skip (VQ.then_code (VC.seq (VC.region (VO.mv (Rn.move rfl) rfl rfl rfl (VO.mv (Rn.move rfl) rfl rfl rfl (VO.wk (Wk.call Tryz.call59 rfl (cplx_Mul _ _ _ _ _)) rfl rfl rfl ?_))))))
    rintro _ w2 ⟨p2, q2, rfl, F2, c2⟩
    have z2 := c2.size
    refine VO.mv (Rn.assign rfl) rfl rfl rfl (VO.mv (Rn.assign rfl) rfl rfl rfl (VO.nil (VQ.then_code (VC.ret (VQ.ret2 rfl rfl rfl (Ret.mk ?_))))))
    have CH_2 := (Ch.refl (No) w).and (c1.trans c2)
    exact ⟨_, _, rfl, (by rw [twistF, if_neg (by omega), F2, F1]), CH_2⟩

end Go.Tm
