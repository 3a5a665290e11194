/- Lemmas of this claim, joined by program. Walks of functions: a plan's transforms. Walks of functions: compile, wide, of one leaf. Whole numbers as floats: sums, differences, products and quotients that are whole are exact. Conditions: each lemma names its own. -/
import Derived.Test.YtkinecckopionaaGreatDoorB14
import Derived.Test.YtkinecckopionaaGreatDoorB11
set_option linter.all false
namespace Go.Tm
open Go.RowKit Go.Proofs
def Upto (f : Cx → Cx) (ys zs : List CB) (j : Nat) : Prop := ∀ i, i < j → cx (zs.getD i (0, 0)) = f (cx (ys.getD i (0, 0)))
theorem set_getD {zs : List CB} {i j : Nat} {z d : CB} (hj : j < zs.length) : (zs.set j z).getD i d = if i = j then z else zs.getD i d := by
  simp only [List.getD, List.getElem?_set]
  by_cases h : j = i
  · subst h; simp [hj]
  · have : ¬ i = j := fun e => h e.symm
    simp [h, this]
theorem Upto.zero (f : Cx → Cx) (ys zs : List CB) : Upto f ys zs 0 := fun i h => absurd h (Nat.not_lt_zero i)
theorem Upto.step {f : Cx → Cx} {ys zs : List CB} {j : Nat} {z : CB} (h : Upto f ys zs j) (hj : j < zs.length) (hz : cx z = f (cx (ys.getD j (0, 0)))) : Upto f ys (zs.set j z) (j + 1) := by
  intro i hi
  rw [set_getD hj]
  by_cases e : i = j
  · subst e; rw [if_pos rfl]; exact hz
  · rw [if_neg e]; exact h i (by omega)
theorem Upto.all {f : Cx → Cx} {ys zs : List CB} {n : Nat} (h : Upto f ys zs n) (h1 : ys.length = n) (h2 : zs.length = n) : zs.map cx = (ys.map cx).map f := by
  apply List.ext_getElem
  · simp [h1, h2]
  · intro i hi hi2
    simp only [List.length_map] at hi
    have := h i (by omega)
    simp only [List.getD, List.getElem?_eq_getElem hi, List.getElem?_eq_getElem (show i < ys.length by omega), Option.getD_some] at this
    simpa using this
/-- A list laid into the machine's cells. -/
def loadC (N off : Nat) (zs : List Cx) : List Cx := (List.replicate N z0).take off ++ zs ++ (List.replicate N z0).drop (off + zs.length)
theorem load_map (N off n : Nat) (ys : List CB) (h : ys.length = n) : ((List.replicate N (0, 0)).take off ++ ys ++ (List.replicate N (0, 0)).drop (off + n)).map cx = loadC N off (ys.map cx) := by
  subst h
  simp [loadC, z0]
/-- A plan's transform. -/
def fwdC (b : Bld) (zs : List Cx) : List Cx := ((runC b.steps (loadC b.cl.toNat b.i0.toNat zs)).drop b.ou.toNat).take b.ln.toNat
def invC (b : Bld) (zs : List Cx) : List Cx := ((fwdC b (zs.map conjC)).map conjC).map fun z => overC z b.ln

set_option maxRecDepth 100000 in
theorem inf34w45 : Inf Tryz.prog 34 (.complex .f64 0 0) 1 16 := ⟨Tryz.t34, Tryz.type34, rfl, rfl, rfl⟩
set_option maxRecDepth 100000 in
theorem inf119w45 : Inf Tryz.prog 119 (.agg #[.int .i64 0, .int .i64 0, .int .i64 0, .int .i64 0, .int .i64 0, .int .i64 0, .int .i64 0]) 7 56 := ⟨Tryz.t119, Tryz.type119, rfl, rfl, rfl⟩
theorem bld98_0_1_2w45 {v0 v1 v2 : Value} (h : [v0, v1, v2].all Value.oneCell' = true) (w : World) : (Instr.build 98 ([(0, v0), (1, v1), (2, v2)] : List (Nat × Value)).toArray).run Tryz.prog w = .ok (.agg #[v0, v1, v2]) w := by
  simp only [List.all_cons, Bool.and_eq_true, List.all_nil, and_true] at h
  have hv0 := oneCell_cells (v := v0) (by simp_all)
  have hv1 := oneCell_cells (v := v1) (by simp_all)
  have hv2 := oneCell_cells (v := v2) (by simp_all)
  have h1 := fill_set (fun i => ([(0, 1), (1, 1), (2, 1)] : List (Nat × Nat))[i]?) [(0, v0), (1, v1), (2, v2)] [.pointer none, .bool false, .pointer none] (by simp [okF, agg_cells, hv0, hv1, hv2, Nat.beq, Nat.ble])
  simp [setF, agg_cells, hv0, hv1, hv2] at h1
  simp [Instr.build, Tryz.runUnderlying98, Tryz.zeroValue98, Tryz.sizeOf4, Tryz.sizeOf23, Tryz.sizeOf91, agg_cells, h1]
set_option maxRecDepth 100000 in
theorem p_Length (lo hi p : Nat) (P : Pln) (w : World) (pl : PlnR lo hi w p P) (hh : hi ≤ w.heap.size)  :
    Calls Tryz.prog 7 #[.pointer (some ⟨p, 0, none⟩)] w (Ret (fun v w' => v = .int .i64 P.b.ln ∧ w = w')) := by
  obtain ⟨oA, oC, sA, sC, bp, pk, ps⟩ := id pl.ex; have hpa := pl.at_
  refine calls_of_VC (args := [.pointer (some ⟨p, 0, none⟩)]) Tryz.func7 rfl Tryz.ntmps7 rfl (VC.seq (VC.region (VO.mv (Rn.assign rfl) rfl rfl rfl (VO.nil (VQ.then_code (VC.seq (VC.region ?_)))))))
  refine VO.mv (Rn.move rfl) rfl rfl rfl (VO.mv (Rn.nilCheck rfl) rfl rfl rfl (VO.mv (Rn.field Tryz.underlying53 rfl Tryz.sizeOf51 rfl rfl rfl) rfl rfl rfl (VO.mv (Rn.field Tryz.underlying51 rfl Tryz.sizeOf3 rfl rfl rfl) rfl rfl rfl (VO.mv (Rn.load Tryz.isAgg3 rfl (bp.cell rfl)) rfl rfl rfl (VO.mv (Rn.assign rfl) rfl rfl rfl (VO.nil (VQ.then_code ?_)))))))
  refine VC.ret (VQ.ret1 rfl rfl (Ret.mk ?_))
  exact ⟨rfl, rfl⟩

set_option maxRecDepth 100000 in
theorem p_Program (lo hi p : Nat) (P : Pln) (w : World) (pl : PlnR lo hi w p P) (hh : hi ≤ w.heap.size) (hne : 1 ≤ P.b.steps.length) (hlen : P.b.steps.length ≤ 65536) :
    Calls Tryz.prog 37 #[.pointer (some ⟨p, 0, none⟩)] w (Ret (fun v w' => ∃ rs A c, v = .agg #[.int .i64 P.b.ln, .int .i64 P.b.cl, .int .i64 P.b.i0, .int .i64 P.b.ou, .slice A P.b.steps.length c] ∧ SlR (At rs) w' A P.b.steps.length 7 (flatS P.b.steps) ∧ w.heap.size < rs ∧ rs ≤ w'.heap.size ∧ Ch No w w')) := by
  obtain ⟨oA, oC, sA, sC, bp, pk, ps⟩ := id pl.ex; have hpa := pl.at_
  refine calls_of_VC (args := [.pointer (some ⟨p, 0, none⟩)]) Tryz.func37 rfl Tryz.ntmps37 rfl (VC.seq (VC.region (VO.wk (Wk.alloc Tryz.zeroValue51) rfl rfl rfl ?_)))
  rintro _ w1 ⟨p1, rfl, N1⟩
  have c1 := N1.ch
  have e1 := N1.p; have z1 := N1.size
  have b2 := Bk.new N1
  refine VO.nil (VQ.then_code (VC.seq (VC.region (VO.mv (Rn.move rfl) rfl rfl rfl (VO.mv (Rn.nilCheck rfl) rfl rfl rfl (VO.mv (Rn.field Tryz.underlying53 rfl Tryz.sizeOf51 rfl rfl rfl) rfl rfl rfl ?_))))))
  have bp_1 := bp.keep c1
  refine VO.mv (Rn.loads Tryz.isAgg51 Tryz.sizeOf51 rfl rfl (bp_1.part 5 rfl)) rfl rfl rfl (VO.wk (Wk.alloc Tryz.zeroValue51) rfl rfl rfl ?_)
  rintro _ w2 ⟨p2, rfl, N2⟩
  have c2 := N2.ch
  have e2 := N2.p; have z2 := N2.size
  have b3 := Bk.new N2
  refine VO.wk0 (Wk.puts Tryz.sizeOf51 rfl rfl rfl rfl b3 (Nat.le_of_ble_eq_true rfl)) rfl rfl ?_
  intro _ w3 Z3
  have c3 := Z3.ch; have z3 := Z3.size
  have b3_3 := Bk.put Z3
  refine VO.nil (VQ.then_code (VC.seq (VC.region (VO.mv (Rn.field Tryz.underlying51 rfl Tryz.sizeOf49 rfl rfl rfl) rfl rfl rfl (VO.mv (Rn.load Tryz.isAgg49 rfl (b3_3.cell rfl)) rfl rfl rfl ?_)))))
  have cc_0_3 : Ch No w w3 := (Ch.then (E := No) (c1.and c2) c3 (by intro q h1 h2; rcases h2 with h2 | h2 <;> first | exact h2 | (exfalso; omega)))
  have ps_3 := ps.keep cc_0_3
  refine VO.wk (Wk.append (S := _) Tryz.underlying49 inf119w45 rfl (by decide) rfl rfl (Ow.nil _ _ _) ps_3 (flatS_one _) (fun h => absurd h (by omega)) (by omega) (by simp only [maxLen]; omega)) rfl rfl rfl ?_
  rintro _ w4 ⟨r4, A4, k4, rfl, o4, c4, q4⟩
  have z4 := c4.size
  have y4 := o4.lt
  refine VO.mv (Rn.field Tryz.underlying51 rfl Tryz.sizeOf49 rfl rfl rfl) rfl rfl rfl ?_
  have b3_4 := b3_3.to c4 (by first | exact id | omega)
  refine VO.wk0 (Wk.put Tryz.sizeOf49 rfl rfl rfl rfl b3_4 rfl) rfl rfl ?_
  intro _ w5 Z5
  have c5 := Z5.ch; have z5 := Z5.size
  have b3_5 := Bk.put Z5
  refine VO.nil (VQ.then_code (VC.seq (VC.region (VO.mv (Rn.loads Tryz.isAgg51 Tryz.sizeOf51 rfl rfl (b3_5.all' rfl)) rfl rfl rfl ?_))))
  have cc_1_3 : Ch No w1 w3 := (Ch.then (E := No) c2 c3 (by intro q h1 h2; rcases h2 with h2 | h2 <;> first | exact h2 | (exfalso; omega)))
  have b2_3 := b2.keep cc_1_3
  have b2_4 := b2_3.to c4 (by first | exact id | omega)
  have b2_5 := b2_4.to c5 (by first | exact id | omega)
  refine VO.wk0 (Wk.puts Tryz.sizeOf51 rfl rfl rfl rfl b2_5 (Nat.le_of_ble_eq_true rfl)) rfl rfl ?_
  intro _ w6 Z6
  have c6 := Z6.ch; have z6 := Z6.size
  have b2_6 := Bk.put Z6
  refine VO.nil (VQ.then_code (VC.ret (VQ.retc rfl rfl Tryz.isAgg51 Tryz.sizeOf51 rfl (b2_6.all' rfl) (Ret.mk ?_))))
  have rs_5 := o4.to c5 (by first | exact fun _ _ _ _ => id | (intro q h1 h2 hx h3; omega))
  have rs_6 := rs_5.to c6 (by first | exact fun _ _ _ _ => id | (intro q h1 h2 hx h3; omega))
  have rs9 := rs_6; rw [Nat.zero_add, List.nil_append] at rs9
  have yrs := Ow.r_pos rs9 (by omega); have yr2 := rs9.lt
  have CH_3 := (Ch.refl (No) w).and cc_0_3
  have CH_4 : Ch (No) w w4 := CH_3.then c4 (by intro q h1 h2; rcases h2 with h2 | h2 <;> first | exact h2 | (exfalso; omega) | omega)
  have CH_5 : Ch (No) w w5 := CH_4.then c5 (by intro q h1 h2; rcases h2 with h2 | h2 <;> first | exact h2 | (exfalso; omega) | omega)
  have CH_6 : Ch (No) w w6 := CH_5.then c6 (by intro q h1 h2; rcases h2 with h2 | h2 <;> first | exact h2 | (exfalso; omega) | omega)
  exact ⟨_, _, _, congrArg (fun l => Value.agg #[.int .i64 P.b.ln, .int .i64 P.b.cl, .int .i64 P.b.i0, .int .i64 P.b.ou, .slice A4 l k4]) (Nat.zero_add P.b.steps.length), rs9.sl, by omega, by omega, CH_6⟩

set_option maxRecDepth 100000 in
theorem p_conj (SX : Nat → Prop) (X : Option Addr) (n xc : Nat) (ys : List CB) (w : World) (sx : SlR SX w X n 1 (ys.map cxV)) (hX : ∀ q, SX q → q < w.heap.size) (hn : n ≤ 16384)  :
    Calls Tryz.prog 38 #[.slice X n xc] w (Ret (fun v w' => ∃ q zs, v = .slice (some ⟨q, 0, none⟩) n n ∧ CR 34 w' (q + 1) (some ⟨q, 0, none⟩) n n zs ∧ zs.map cx = (ys.map cx).map conjC ∧ w.heap.size ≤ q ∧ Ch No w w')) := by
  have hyl : ys.length = n := by have := sx.len; simpa using this
  refine calls_of_VC (args := [.slice X n xc]) Tryz.func38 rfl Tryz.ntmps38 rfl (VC.seq (VC.region (VO.mv (Rn.assign rfl) rfl rfl rfl (VO.nil (VQ.then_code (VC.seq (VC.region ?_)))))))
  refine VO.mv (Rn.move rfl) rfl rfl rfl (VO.mv (Rn.len Tryz.underlying33 rfl) rfl rfl rfl (VO.wk (Wk.mkC Tryz.underlying33 inf34w45 rfl rfl (by omega) (by omega) (by omega)) rfl rfl rfl ?_))
  rintro _ w1 ⟨p1, rfl, o1, c1, e1, z1⟩
  refine VO.mv (Rn.assign rfl) rfl rfl rfl (VO.nil (VQ.then_code (VC.seq (VC.seq (VC.region (VO.mv (Rn.move rfl) rfl rfl rfl (VO.mv (Rn.len Tryz.underlying33 rfl) rfl rfl rfl ?_)))))))
  refine VO.mv (Rn.move rfl) rfl rfl rfl (VO.nil (VQ.then_code (VC.block ?_)))
  have sx_1 := sx.keep c1
  have CH_1 := (Ch.refl (No) w).and c1
  refine VC.loopS (σ := Nat × List CB) (fun (j, zs) => [(3, .slice (some ⟨p1, 0, none⟩) n n), (9, .slice X n xc), (10, .int .i64 n), (11, .int .i64 j)]) (fun (j, zs) w' => j ≤ n ∧ Upto conjC ys zs j ∧ w1.heap.size ≤ w'.heap.size ∧ CR 34 w' (p1 + 1) (some ⟨p1, 0, none⟩) n n zs ∧ SlR SX w' X n 1 (ys.map cxV) ∧ Ch (No) w w') (fun (j, zs) => n - j) (0, List.replicate n (0, 0)) ?_ ⟨rfl, rfl, rfl, rfl, trivial⟩ ?_
  · exact ⟨(by omega), (Upto.zero _ _ _), (Nat.le_refl _), o1, sx_1, CH_1⟩
  rintro ⟨j, zs⟩ w2 ⟨hj, hu, hsz2, row_2, sx_2, CH_2⟩
  show VC _ _ _ _ [(3, .slice (some ⟨p1, 0, none⟩) n n), (9, .slice X n xc), (10, .int .i64 n), (11, .int .i64 j)] _
  have hzl := CR.len row_2
  refine VC.seq (VC.region (VO.mv (Rn.lss rfl rfl) rfl rfl rfl (VO.nil (VQ.then_code (VC.seq (VC.cond_if rfl (fun hc1 => ?_) (fun hc1 => ?_)))))))
  · skip
    refine VC.skip (VQ.then_code (VC.seq (VC.block (VC.seq (VC.region (VO.mv (Rn.move rfl) rfl rfl rfl (VO.mv (Rn.indexS Tryz.underlying33 Tryz.sizeOf34 rfl rfl (sx_2.ne (by omega)) (by omega) (by omega)) rfl rfl rfl ?_)))))))
    refine VO.mv (Rn.load Tryz.isAgg34 rfl (sx_2.getC (by omega) (by omega))) rfl rfl rfl (VO.mv (Rn.assign rfl) rfl rfl rfl (VO.mv (Rn.assign rfl) rfl rfl rfl (VO.nil (VQ.then_code (VC.region (VO.mv (Rn.move rfl) rfl rfl rfl (VO.mv (Rn.move rfl) rfl rfl rfl ?_)))))))
    refine VO.mv (Rn.move rfl) rfl rfl rfl (VO.wk (Wk.call Tryz.call67 rfl (cplx_Conj _ _ _)) rfl rfl rfl ?_)
    rintro _ w3 ⟨p3, q3, rfl, F3, c3⟩
    have z3 := c3.size
    have row_3 := row_2.keep c3
    refine VO.mv (Rn.indexS Tryz.underlying33 Tryz.sizeOf34 rfl rfl (row_3.sl.ne (by omega)) (by omega) (by omega)) rfl rfl rfl (VO.wk0 (Wk.putC Tryz.sizeOf34 rfl rfl (by omega) row_3) rfl rfl ?_)
    rintro _ w4 ⟨o4, c4, z4⟩
    have y4 := o4.lt
    refine VO.nil (VQ.block_normal (VQ.then_code (VC.region ?_)))
    refine VO.mv (Rn.add rfl rfl (by rw [IntKind.wrap_i64]; omega)) rfl rfl rfl ?_
    refine VO.mv (Rn.move rfl) rfl rfl rfl (VO.nil ?_)
    refine VQ.round (j + 1, zs.set j (p3, q3)) (by first | omega | (dsimp only; omega)) ?_ ⟨rfl, rfl, rfl, rfl, trivial⟩
    have sx_3 := sx_2.keep c3
    have sx_4 := sx_3.to c4 (by first | exact fun _ _ _ _ => id | (intro q h1 h2 hx h3; have := hX q h2; omega))
    have CH_3 := CH_2.and c3
    have CH_4 : Ch (No) w w4 := CH_3.then c4 (by intro q h1 h2; rcases h2 with h2 | h2 <;> first | exact h2 | (exfalso; omega) | omega)
    exact ⟨(by omega), (hu.step (by omega) (by rw [F3, Int.toNat_natCast])), (by omega), o4, sx_4, CH_4⟩
  · skip
    refine VC.exit (VQ.then_exit (VQ.then_exit (VQ.block_exit (VQ.then_code (VC.seq (VC.region (VO.mv (Rn.move rfl) rfl rfl rfl ?_)))))))
    refine VO.mv (Rn.assign rfl) rfl rfl rfl (VO.nil (VQ.then_code (VC.ret (VQ.ret1 rfl rfl (Ret.mk ?_)))))
    have e : j = n := by omega
    rw [e] at hu
    exact ⟨_, _, rfl, row_2, hu.all hyl hzl, by omega, CH_2⟩

set_option maxHeartbeats 1000000 in
set_option maxRecDepth 100000 in
theorem p_Begin0 (lo hi p : Nat) (P : Pln) (SX : Nat → Prop) (X : Option Addr) (n xc : Nat) (ys : List CB) (w : World) (sx : SlR SX w X n 1 (ys.map cxV)) (hX : ∀ q, SX q → q < w.heap.size) (pl : PlnR lo hi w p P) (hh : hi ≤ w.heap.size) (N : Nat) (ok : PrgOk P.b N) (okb : okB P.b) (hne : 1 ≤ P.b.steps.length) (hn : (n : Int) = P.b.ln) (st : StT w) (hG : 11 ≤ w.heap.size)  :
    Calls Tryz.prog 23 #[.pointer (some ⟨p, 0, none⟩), .slice X n xc, .bool false] w (Ret (fun v w' => ∃ q m r rs SA sc CA xs, v = .tuple #[.pointer (some ⟨q, 0, none⟩), .nilIface] ∧ Bk w' q #[.pointer (some ⟨p, 0, none⟩), .bool false, .pointer (some ⟨m, 0, none⟩)] 98 ∧ MacR w' m r P.b N SA sc ⟨(encB P.b).toArray⟩ CA (cntS P.b.steps) 0 0 0 xs ∧ xs.map cx = loadC N P.b.i0.toNat (ys.map cx) ∧ SlR (At rs) w' SA P.b.steps.length 7 (flatS P.b.steps) ∧ (w.heap.size ≤ q ∧ w.heap.size ≤ m ∧ w.heap.size < r ∧ w.heap.size < rs ∧ ¬ rs = r ∧ ¬ rs = m + 1 ∧ ¬ q = m ∧ ¬ r = q + 1) ∧ Ch No w w')) := by
  have hln := ok.ln; have hn1 := ok.n1; have hcl := ok.cl; have hlen := ok.len
  have hyl : ys.length = n := by have := sx.len; simpa using this
  refine calls_of_VC (args := [.pointer (some ⟨p, 0, none⟩), .slice X n xc, .bool false]) Tryz.func23 rfl Tryz.ntmps23 rfl (VC.seq (VC.region (VO.mv (Rn.assign rfl) rfl rfl rfl (VO.mv (Rn.assign rfl) rfl rfl rfl (VO.nil (VQ.then_code (VC.seq ?_)))))))
  refine VC.seq (VC.region (VO.mv (Rn.move rfl) rfl rfl rfl (VO.mv (Rn.len Tryz.underlying33 rfl) rfl rfl rfl (VO.mv (Rn.move rfl) rfl rfl rfl (VO.wk (Wk.call Tryz.call7 rfl (p_Length _ _ _ _ _ pl (by omega))) rfl rfl rfl ?_)))))
  rintro _ _ ⟨rfl, rfl⟩
  refine VO.mv (Rn.neq rfl rfl) rfl rfl rfl (VO.nil (VQ.then_code (VC.cond_if rfl (fun hc1 => ?_) (fun hc1 => ?_))))
  · skip
    omega
  · skip
    refine VC.skip (VQ.then_code (VC.seq (VC.region (VO.mv (Rn.move rfl) rfl rfl rfl (VO.wk (Wk.call Tryz.call37 rfl (p_Program _ _ _ _ _ pl (by omega) hne hlen)) rfl rfl rfl ?_)))))
    rintro _ w1 ⟨r1, A1, k1, rfl, pg1, yr1, yr21, c1⟩
    have z1 := c1.size
    have st_1 := st.keep c1
    refine VO.wk (Wk.call Tryz.call36 rfl (m_New _ _ ok _ _ _ _ st_1 pg1 (by omega) okb (fun y hy => by omega) hne)) rfl rfl rfl ?_
    rintro _ w2 ⟨m2, r2, rs2, sA2, sc2, cA2, rfl, mac2, ss2, hb2, c2⟩
    have ym2 := mac2.bk.lt; have yr2 := Ow.lt mac2.row
    have z2 := c2.size
    refine VO.mv (Rn.move rfl) rfl rfl rfl (VO.mv (Rn.extract rfl rfl) rfl rfl rfl (VO.mv (Rn.extract rfl rfl) rfl rfl rfl (VO.mv (Rn.assign rfl) rfl rfl rfl (VO.mv (Rn.assign rfl) rfl rfl rfl (VO.nil (VQ.then_code (VC.seq ?_)))))))
    refine VC.seq (VC.region (VO.mv (Rn.move rfl) rfl rfl rfl (VO.mv (Rn.nil_neq_nil Tryz.underlying25 rfl) rfl rfl rfl (VO.nil (VQ.then_code (VC.cond_false rfl (VC.skip ?_)))))))
    refine VQ.then_code (VC.seq (VC.seq (VC.region (VO.mv (Rn.move rfl) rfl rfl rfl (VO.nil (VQ.then_code (VC.cond_false rfl ?_)))))))
    refine VC.skip (VQ.then_code (VC.seq (VC.seq (VC.region (VO.mv (Rn.move rfl) rfl rfl rfl (VO.mv (Rn.move rfl) rfl rfl rfl ?_))))))
    have sx_2 := sx.keep (c1.trans c2)
    refine VO.wk (Wk.call Tryz.call39 rfl (m_Load _ _ _ _ _ _ _ _ _ _ _ _ _ _ mac2 ok _ _ n _ _ hn sx_2 (fun q hq hm => by have := hX q hq; omega))) rfl rfl rfl ?_
    rintro _ w3 ⟨rfl, mac3, c3⟩
    have z3 := c3.size
    refine VO.mv (Rn.assign rfl) rfl rfl rfl (VO.nil (VQ.then_code (VC.seq (VC.region (VO.mv (Rn.move rfl) rfl rfl rfl (VO.mv (Rn.nil_neq_nil Tryz.underlying25 rfl) rfl rfl rfl (VO.nil ?_)))))))
    refine VQ.then_code (VC.cond_false rfl (VC.skip (VQ.then_code (VC.seq (VC.region (VO.mv (Rn.move rfl) rfl rfl rfl (VO.mv (Rn.move rfl) rfl rfl rfl ?_)))))))
    refine VO.mv (Rn.move rfl) rfl rfl rfl (VO.mv (Rn.build rfl (bld98_0_1_2w45 rfl)) rfl rfl rfl (VO.wk (Wk.box rfl) rfl rfl rfl ?_))
    rintro _ w4 ⟨p4, rfl, N4⟩
    have c4 := N4.ch
    have e4 := N4.p; have z4 := N4.size
    have b39 := Bk.new N4
    refine VO.mv (Rn.assign rfl) rfl rfl rfl (VO.mv (Rn.assign rfl) rfl rfl rfl (VO.nil (VQ.then_code (VC.ret (VQ.ret2 rfl rfl rfl (Ret.mk ?_))))))
    obtain ⟨hb1, hb2, hb3, hb4, hb5⟩ := hb2
    have mac_4 := mac3.keep c4
    have ss_3 := ss2.to c3 (by first | exact fun _ _ _ _ => id | (intro q h1 h2 hx h3; omega))
    have ss_4 := ss_3.keep c4
    have CH_2 := (Ch.refl (No) w).and (c1.trans c2)
    have CH_3 : Ch (No) w w3 := CH_2.then c3 (by intro q h1 h2; rcases h2 with h2 | h2 <;> first | exact h2 | (exfalso; omega) | omega)
    have CH_4 := CH_3.and c4
    exact ⟨_, _, _, _, _, _, _, _, rfl, b39, mac_4, load_map _ _ _ _ hyl, ss_4, ⟨by omega, by omega, by omega, by omega, by omega, by omega, by omega, by omega⟩, CH_4⟩

set_option maxHeartbeats 1000000 in
set_option maxRecDepth 100000 in
theorem p_Begin1 (lo hi p : Nat) (P : Pln) (SX : Nat → Prop) (X : Option Addr) (n xc : Nat) (ys : List CB) (w : World) (sx : SlR SX w X n 1 (ys.map cxV)) (hX : ∀ q, SX q → q < w.heap.size) (pl : PlnR lo hi w p P) (hh : hi ≤ w.heap.size) (N : Nat) (ok : PrgOk P.b N) (okb : okB P.b) (hne : 1 ≤ P.b.steps.length) (hn : (n : Int) = P.b.ln) (st : StT w) (hG : 11 ≤ w.heap.size)  :
    Calls Tryz.prog 23 #[.pointer (some ⟨p, 0, none⟩), .slice X n xc, .bool true] w (Ret (fun v w' => ∃ q m r rs SA sc CA xs, v = .tuple #[.pointer (some ⟨q, 0, none⟩), .nilIface] ∧ Bk w' q #[.pointer (some ⟨p, 0, none⟩), .bool true, .pointer (some ⟨m, 0, none⟩)] 98 ∧ MacR w' m r P.b N SA sc ⟨(encB P.b).toArray⟩ CA (cntS P.b.steps) 0 0 0 xs ∧ xs.map cx = loadC N P.b.i0.toNat ((ys.map cx).map conjC) ∧ SlR (At rs) w' SA P.b.steps.length 7 (flatS P.b.steps) ∧ (w.heap.size ≤ q ∧ w.heap.size ≤ m ∧ w.heap.size < r ∧ w.heap.size < rs ∧ ¬ rs = r ∧ ¬ rs = m + 1 ∧ ¬ q = m ∧ ¬ r = q + 1) ∧ Ch No w w')) := by
  have hln := ok.ln; have hn1 := ok.n1; have hcl := ok.cl; have hlen := ok.len
  have hyl : ys.length = n := by have := sx.len; simpa using this
  refine calls_of_VC (args := [.pointer (some ⟨p, 0, none⟩), .slice X n xc, .bool true]) Tryz.func23 rfl Tryz.ntmps23 rfl (VC.seq (VC.region (VO.mv (Rn.assign rfl) rfl rfl rfl (VO.mv (Rn.assign rfl) rfl rfl rfl (VO.nil (VQ.then_code (VC.seq ?_)))))))
  refine VC.seq (VC.region (VO.mv (Rn.move rfl) rfl rfl rfl (VO.mv (Rn.len Tryz.underlying33 rfl) rfl rfl rfl (VO.mv (Rn.move rfl) rfl rfl rfl (VO.wk (Wk.call Tryz.call7 rfl (p_Length _ _ _ _ _ pl (by omega))) rfl rfl rfl ?_)))))
  rintro _ _ ⟨rfl, rfl⟩
  refine VO.mv (Rn.neq rfl rfl) rfl rfl rfl (VO.nil (VQ.then_code (VC.cond_if rfl (fun hc1 => ?_) (fun hc1 => ?_))))
  · skip
    omega
  · skip
    refine VC.skip (VQ.then_code (VC.seq (VC.region (VO.mv (Rn.move rfl) rfl rfl rfl (VO.wk (Wk.call Tryz.call37 rfl (p_Program _ _ _ _ _ pl (by omega) hne hlen)) rfl rfl rfl ?_)))))
    rintro _ w1 ⟨r1, A1, k1, rfl, pg1, yr1, yr21, c1⟩
    have z1 := c1.size
    have st_1 := st.keep c1
    refine VO.wk (Wk.call Tryz.call36 rfl (m_New _ _ ok _ _ _ _ st_1 pg1 (by omega) okb (fun y hy => by omega) hne)) rfl rfl rfl ?_
    rintro _ w2 ⟨m2, r2, rs2, sA2, sc2, cA2, rfl, mac2, ss2, hb2, c2⟩
    have ym2 := mac2.bk.lt; have yr2 := Ow.lt mac2.row
    have z2 := c2.size
    refine VO.mv (Rn.move rfl) rfl rfl rfl (VO.mv (Rn.extract rfl rfl) rfl rfl rfl (VO.mv (Rn.extract rfl rfl) rfl rfl rfl (VO.mv (Rn.assign rfl) rfl rfl rfl (VO.mv (Rn.assign rfl) rfl rfl rfl (VO.nil (VQ.then_code (VC.seq ?_)))))))
    refine VC.seq (VC.region (VO.mv (Rn.move rfl) rfl rfl rfl (VO.mv (Rn.nil_neq_nil Tryz.underlying25 rfl) rfl rfl rfl (VO.nil (VQ.then_code (VC.cond_false rfl (VC.skip ?_)))))))
    refine VQ.then_code (VC.seq (VC.seq (VC.region (VO.mv (Rn.move rfl) rfl rfl rfl (VO.nil (VQ.then_code (VC.cond_true rfl ?_)))))))
    refine VC.region (VO.mv (Rn.move rfl) rfl rfl rfl ?_)
    have sx_2 := sx.keep (c1.trans c2)
    refine VO.wk (Wk.call Tryz.call38 rfl (p_conj _ _ _ _ _ _ sx_2 (fun q hq => by have := hX q hq; omega) (by omega))) rfl rfl rfl ?_
    rintro _ w3 ⟨q3, zs3, rfl, cj3, hz3, e3, c3⟩
    have ycj3 := Ow.lt cj3
    have z3 := c3.size
    refine VO.mv (Rn.assign rfl) rfl rfl rfl (VO.nil (VQ.then_code (VC.seq (VC.seq (VC.region (VO.mv (Rn.move rfl) rfl rfl rfl (VO.mv (Rn.move rfl) rfl rfl rfl ?_)))))))
    have mac_3 := mac2.keep c3
    refine VO.wk (Wk.call Tryz.call39 rfl (m_Load _ _ _ _ _ _ _ _ _ _ _ _ _ _ mac_3 ok _ _ n _ _ hn cj3.sl (fun q hq hm => by omega))) rfl rfl rfl ?_
    rintro _ w4 ⟨rfl, mac4, c4⟩
    have z4 := c4.size
    refine VO.mv (Rn.assign rfl) rfl rfl rfl (VO.nil (VQ.then_code (VC.seq (VC.region (VO.mv (Rn.move rfl) rfl rfl rfl (VO.mv (Rn.nil_neq_nil Tryz.underlying25 rfl) rfl rfl rfl (VO.nil ?_)))))))
    refine VQ.then_code (VC.cond_false rfl (VC.skip (VQ.then_code (VC.seq (VC.region (VO.mv (Rn.move rfl) rfl rfl rfl (VO.mv (Rn.move rfl) rfl rfl rfl ?_)))))))
    refine VO.mv (Rn.move rfl) rfl rfl rfl (VO.mv (Rn.build rfl (bld98_0_1_2w45 rfl)) rfl rfl rfl (VO.wk (Wk.box rfl) rfl rfl rfl ?_))
    rintro _ w5 ⟨p5, rfl, N5⟩
    have c5 := N5.ch
    have e5 := N5.p; have z5 := N5.size
    have b39 := Bk.new N5
    refine VO.mv (Rn.assign rfl) rfl rfl rfl (VO.mv (Rn.assign rfl) rfl rfl rfl (VO.nil (VQ.then_code (VC.ret (VQ.ret2 rfl rfl rfl (Ret.mk ?_))))))
    obtain ⟨hb1, hb2, hb3, hb4, hb5⟩ := hb2
    have mac_5 := mac4.keep c5
    have ss_3 := ss2.keep c3
    have ss_4 := ss_3.to c4 (by first | exact fun _ _ _ _ => id | (intro q h1 h2 hx h3; omega))
    have ss_5 := ss_4.keep c5
    have CH_3 := (Ch.refl (No) w).and (c1.trans (c2.trans c3))
    have CH_4 : Ch (No) w w4 := CH_3.then c4 (by intro q h1 h2; rcases h2 with h2 | h2 <;> first | exact h2 | (exfalso; omega) | omega)
    have CH_5 := CH_4.and c5
    exact ⟨_, _, _, _, _, _, _, _, rfl, b39, mac_5, (by rw [load_map _ _ _ _ (CR.len cj3), hz3]), ss_5, ⟨by omega, by omega, by omega, by omega, by omega, by omega, by omega, by omega⟩, CH_5⟩

set_option maxRecDepth 100000 in
theorem r_Left (q p m r : Nat) (b : Bld) (N : Nat) (SA : Option Addr) (sc : Nat) (bs : ByteArray) (CA : Option Addr) (ac dn sn at_ : Int) (xs : List CB) (w : World) (I : Bool) (rb : Bk w q #[.pointer (some ⟨p, 0, none⟩), .bool I, .pointer (some ⟨m, 0, none⟩)] 98) (mac : MacR w m r b N SA sc bs CA ac dn sn at_ xs) (hac : 0 ≤ ac ∧ ac ≤ 1000000000) (hdn : 0 ≤ dn ∧ dn ≤ 1000000000) :
    Calls Tryz.prog 24 #[.pointer (some ⟨q, 0, none⟩)] w (Ret (fun v w' => v = .int .i64 (ac - dn) ∧ Ch No w w')) := by
  refine calls_of_VC (args := [.pointer (some ⟨q, 0, none⟩)]) Tryz.func24 rfl Tryz.ntmps24 rfl (VC.seq (VC.region (VO.mv (Rn.assign rfl) rfl rfl rfl (VO.nil (VQ.then_code (VC.seq (VC.region ?_)))))))
  refine VO.mv (Rn.move rfl) rfl rfl rfl (VO.mv (Rn.nilCheck rfl) rfl rfl rfl (VO.mv (Rn.field Tryz.underlying98 rfl Tryz.sizeOf91 rfl rfl rfl) rfl rfl rfl (VO.mv (Rn.load Tryz.isAgg91 rfl (rb.cell rfl)) rfl rfl rfl (VO.wk (Wk.call Tryz.call40 rfl (m_Left _ _ _ _ _ _ _ _ _ _ _ _ mac.bk (by omega) (by omega))) rfl rfl rfl ?_))))
  rintro _ w1 ⟨rfl, c1⟩
  have z1 := c1.size
  refine VO.mv (Rn.assign rfl) rfl rfl rfl (VO.nil (VQ.then_code (VC.ret (VQ.ret1 rfl rfl (Ret.mk ?_)))))
  have CH_1 := (Ch.refl (No) w).and c1
  exact ⟨rfl, CH_1⟩

set_option maxRecDepth 100000 in
theorem r_Do (q p m r : Nat) (b : Bld) (N : Nat) (SA : Option Addr) (sc : Nat) (bs : ByteArray) (CA : Option Addr) (ac : Int) (xs : List CB) (w : World) (I : Bool) (rb : Bk w q #[.pointer (some ⟨p, 0, none⟩), .bool I, .pointer (some ⟨m, 0, none⟩)] 98) (mac : MacR w m r b N SA sc bs CA ac 0 0 0 xs) (hN : N ≤ 1000000) (hac : ac = cntS b.steps) (hac1 : 1 ≤ ac) (hac2 : ac ≤ 100000000) (hok : ∀ s ∈ b.steps, StepOk s N) (hl : b.steps.length ≤ 1000000) (S : Nat → Prop) (hS : ∀ q, S q → ¬ MS m r q) (ss : SlR S w SA b.steps.length 7 (flatS b.steps)) (z : Int) (hz : ac = z) :
    Calls Tryz.prog 25 #[.pointer (some ⟨q, 0, none⟩), .int .i64 z] w (Ret (fun v w' => v = .tuple #[.int .i64 ac, .nilIface] ∧ ∃ ys, MacR w' m r b N SA sc bs CA ac ac b.steps.length 0 ys ∧ ys.map cx = runC b.steps (xs.map cx) ∧ Ch (MS m r) w w')) := by
  refine calls_of_VC (args := [.pointer (some ⟨q, 0, none⟩), .int .i64 z]) Tryz.func25 rfl Tryz.ntmps25 rfl ?_
  subst hz
  refine VC.seq (VC.region (VO.mv (Rn.assign rfl) rfl rfl rfl (VO.mv (Rn.assign rfl) rfl rfl rfl (VO.nil (VQ.then_code (VC.seq (VC.region ?_)))))))
  refine VO.mv (Rn.move rfl) rfl rfl rfl (VO.mv (Rn.nilCheck rfl) rfl rfl rfl (VO.mv (Rn.field Tryz.underlying98 rfl Tryz.sizeOf91 rfl rfl rfl) rfl rfl rfl (VO.mv (Rn.load Tryz.isAgg91 rfl (rb.cell rfl)) rfl rfl rfl (VO.mv (Rn.move rfl) rfl rfl rfl (VO.wk (Wk.call Tryz.call41 rfl (m_Run m r b N SA sc bs CA ac xs _ mac (by omega) hac hac1 hac2 hok hl S hS ss)) rfl rfl rfl ?_)))))
  rintro _ w1 ⟨rfl, ys1, mac1, hy1, c1⟩
  have z1 := c1.size
  refine VO.mv (Rn.extract rfl rfl) rfl rfl rfl (VO.mv (Rn.extract rfl rfl) rfl rfl rfl (VO.mv (Rn.assign rfl) rfl rfl rfl (VO.mv (Rn.assign rfl) rfl rfl rfl (VO.nil (VQ.then_code (VC.ret (VQ.ret2 rfl rfl rfl ?_)))))))
  refine Ret.mk ?_
  have CH_1 : Ch (MS m r) w w1 := (Ch.refl (MS m r) w).then c1 (by intro q h1 h2; rcases h2 with h2 | h2 <;> first | exact h2 | (exfalso; omega) | omega)
  exact ⟨rfl, _, mac1, hy1, CH_1⟩

set_option maxHeartbeats 1000000 in
set_option maxRecDepth 100000 in
theorem r_Result0 (q p m r : Nat) (b : Bld) (N : Nat) (SA : Option Addr) (sc : Nat) (bs : ByteArray) (CA : Option Addr) (ac : Int) (xs : List CB) (w : World) (rb : Bk w q #[.pointer (some ⟨p, 0, none⟩), .bool false, .pointer (some ⟨m, 0, none⟩)] 98) (mac : MacR w m r b N SA sc bs CA ac ac b.steps.length 0 xs) (ok : PrgOk b N) (hac : 0 ≤ ac ∧ ac ≤ 1000000000) :
    Calls Tryz.prog 26 #[.pointer (some ⟨q, 0, none⟩)] w (Ret (fun v w' => ∃ r' A' c' zs, v = .tuple #[.slice A' b.ln.toNat c', .nilIface] ∧ CR 34 w' r' A' b.ln.toNat c' zs ∧ zs.map cx = ((xs.map cx).drop b.ou.toNat).take b.ln.toNat ∧ w.heap.size < r' ∧ Ch No w w')) := by
  have hln := ok.ln
  refine calls_of_VC (args := [.pointer (some ⟨q, 0, none⟩)]) Tryz.func26 rfl Tryz.ntmps26 rfl (VC.seq (VC.region (VO.mv (Rn.assign rfl) rfl rfl rfl (VO.mv (Rn.assign rfl) rfl rfl rfl (VO.nil (VQ.then_code (VC.seq ?_)))))))
  refine VC.region (VO.mv (Rn.move rfl) rfl rfl rfl (VO.mv (Rn.nilCheck rfl) rfl rfl rfl (VO.mv (Rn.field Tryz.underlying98 rfl Tryz.sizeOf91 rfl rfl rfl) rfl rfl rfl (VO.mv (Rn.load Tryz.isAgg91 rfl (rb.cell rfl)) rfl rfl rfl (VO.wk (Wk.call Tryz.call42 rfl (m_Out _ _ _ _ _ _ _ _ _ _ _ _ _ mac ok (by omega))) rfl rfl rfl ?_)))))
  rintro _ w1 ⟨r1, A1, k1, rfl, out1, yo1, c1⟩
  have z1 := c1.size
  refine VO.mv (Rn.move rfl) rfl rfl rfl (VO.mv (Rn.extract rfl rfl) rfl rfl rfl (VO.mv (Rn.extract rfl rfl) rfl rfl rfl (VO.mv (Rn.assign rfl) rfl rfl rfl (VO.mv (Rn.assign rfl) rfl rfl rfl (VO.nil (VQ.then_code (VC.seq ?_)))))))
  refine VC.seq (VC.region (VO.mv (Rn.move rfl) rfl rfl rfl (VO.mv (Rn.nil_neq_nil Tryz.underlying25 rfl) rfl rfl rfl (VO.mv (Rn.move rfl) rfl rfl rfl (VO.mv (Rn.move rfl) rfl rfl rfl (VO.mv (Rn.nilCheck rfl) rfl rfl rfl (VO.mv (Rn.field Tryz.underlying98 rfl Tryz.sizeOf4 rfl rfl rfl) rfl rfl rfl ?_)))))))
  have rb_1 := rb.keep c1
  refine VO.mv (Rn.load Tryz.isAgg4 rfl (rb_1.cell rfl)) rfl rfl rfl (VO.mv (Rn.not rfl) rfl rfl rfl (VO.mv (Rn.pick_false rfl rfl) rfl rfl rfl (VO.nil (VQ.then_code (VC.cond_true rfl (VC.seq (VC.region ?_)))))))
  refine VO.mv (Rn.move rfl) rfl rfl rfl (VO.mv (Rn.move rfl) rfl rfl rfl (VO.mv (Rn.assign rfl) rfl rfl rfl (VO.mv (Rn.assign rfl) rfl rfl rfl (VO.nil (VQ.then_code (VC.ret (VQ.then_ret ?_)))))))
  refine VQ.ret2 rfl rfl rfl (Ret.mk ?_)
  have CH_1 := (Ch.refl (No) w).and c1
  exact ⟨_, _, _, _, rfl, out1, by rw [List.map_take, List.map_drop], by omega, CH_1⟩

set_option maxHeartbeats 1000000 in
set_option maxRecDepth 100000 in
theorem r_Result1 (q p m r : Nat) (b : Bld) (N : Nat) (SA : Option Addr) (sc : Nat) (bs : ByteArray) (CA : Option Addr) (ac : Int) (xs : List CB) (w : World) (rb : Bk w q #[.pointer (some ⟨p, 0, none⟩), .bool true, .pointer (some ⟨m, 0, none⟩)] 98) (mac : MacR w m r b N SA sc bs CA ac ac b.steps.length 0 xs) (ok : PrgOk b N) (hac : 0 ≤ ac ∧ ac ≤ 1000000000) :
    Calls Tryz.prog 26 #[.pointer (some ⟨q, 0, none⟩)] w (Ret (fun v w' => ∃ r' A' c' zs, v = .tuple #[.slice A' b.ln.toNat c', .nilIface] ∧ CR 34 w' r' A' b.ln.toNat c' zs ∧ zs.map cx = ((((xs.map cx).drop b.ou.toNat).take b.ln.toNat).map conjC).map (fun z => overC z b.ln) ∧ w.heap.size < r' ∧ Ch No w w')) := by
  have hln := ok.ln
  refine calls_of_VC (args := [.pointer (some ⟨q, 0, none⟩)]) Tryz.func26 rfl Tryz.ntmps26 rfl (VC.seq (VC.region (VO.mv (Rn.assign rfl) rfl rfl rfl (VO.mv (Rn.assign rfl) rfl rfl rfl (VO.nil (VQ.then_code (VC.seq ?_)))))))
  refine VC.region (VO.mv (Rn.move rfl) rfl rfl rfl (VO.mv (Rn.nilCheck rfl) rfl rfl rfl (VO.mv (Rn.field Tryz.underlying98 rfl Tryz.sizeOf91 rfl rfl rfl) rfl rfl rfl (VO.mv (Rn.load Tryz.isAgg91 rfl (rb.cell rfl)) rfl rfl rfl (VO.wk (Wk.call Tryz.call42 rfl (m_Out _ _ _ _ _ _ _ _ _ _ _ _ _ mac ok (by omega))) rfl rfl rfl ?_)))))
  rintro _ w1 ⟨r1, A1, k1, rfl, out1, yo1, c1⟩
  have z1 := c1.size
  refine VO.mv (Rn.move rfl) rfl rfl rfl (VO.mv (Rn.extract rfl rfl) rfl rfl rfl (VO.mv (Rn.extract rfl rfl) rfl rfl rfl (VO.mv (Rn.assign rfl) rfl rfl rfl (VO.mv (Rn.assign rfl) rfl rfl rfl (VO.nil (VQ.then_code (VC.seq ?_)))))))
  refine VC.seq (VC.region (VO.mv (Rn.move rfl) rfl rfl rfl (VO.mv (Rn.nil_neq_nil Tryz.underlying25 rfl) rfl rfl rfl (VO.mv (Rn.move rfl) rfl rfl rfl (VO.mv (Rn.move rfl) rfl rfl rfl (VO.mv (Rn.nilCheck rfl) rfl rfl rfl (VO.mv (Rn.field Tryz.underlying98 rfl Tryz.sizeOf4 rfl rfl rfl) rfl rfl rfl ?_)))))))
  have rb_1 := rb.keep c1
  refine VO.mv (Rn.load Tryz.isAgg4 rfl (rb_1.cell rfl)) rfl rfl rfl (VO.mv (Rn.not rfl) rfl rfl rfl (VO.mv (Rn.pick_false rfl rfl) rfl rfl rfl (VO.nil (VQ.then_code (VC.cond_false rfl (VC.skip (VQ.then_code ?_)))))))
  refine VC.seq (VC.region (VO.mv (Rn.move rfl) rfl rfl rfl ?_))
  refine VO.wk (Wk.call Tryz.call38 rfl (p_conj _ _ _ _ _ _ out1.sl (fun q hq => by have := (out1).lt; omega) (by omega))) rfl rfl rfl ?_
  rintro _ w2 ⟨q2, zs2, rfl, cj2, hz2, e2, c2⟩
  have ycj2 := Ow.lt cj2
  have z2 := c2.size
  refine VO.mv (Rn.assign rfl) rfl rfl rfl (VO.nil (VQ.then_code (VC.seq (VC.seq (VC.region (VO.mv (Rn.move rfl) rfl rfl rfl (VO.mv (Rn.len Tryz.underlying33 rfl) rfl rfl rfl ?_)))))))
  refine VO.mv (Rn.move rfl) rfl rfl rfl (VO.nil (VQ.then_code (VC.block ?_)))
  have CH_2 := (Ch.refl (No) w).and (c1.trans c2)
  refine VC.loopS (σ := Nat × List CB) (fun (j, zs) => [(4, .slice (some ⟨q2, 0, none⟩) b.ln.toNat b.ln.toNat), (29, .slice (some ⟨q2, 0, none⟩) b.ln.toNat b.ln.toNat), (30, .int .i64 (b.ln.toNat : Nat)), (31, .int .i64 j)]) (fun (j, zs) w' => j ≤ b.ln.toNat ∧ Upto (fun z => overC z b.ln) zs2 zs j ∧ (∀ i, j ≤ i → zs.getD i (0, 0) = zs2.getD i (0, 0)) ∧ w2.heap.size ≤ w'.heap.size ∧ CR 34 w' (q2 + 1) (some ⟨q2, 0, none⟩) b.ln.toNat b.ln.toNat zs ∧ Ch (No) w w') (fun (j, zs) => b.ln.toNat - j) (0, zs2) ?_ ⟨rfl, rfl, rfl, rfl, trivial⟩ ?_
  · exact ⟨(by omega), (Upto.zero _ _ _), (fun i _ => rfl), (Nat.le_refl _), cj2, CH_2⟩
  rintro ⟨j, zs⟩ w3 ⟨hj, hu, hsm, hsz3, cj_3, CH_3⟩
  show VC _ _ _ _ [(4, .slice (some ⟨q2, 0, none⟩) b.ln.toNat b.ln.toNat), (29, .slice (some ⟨q2, 0, none⟩) b.ln.toNat b.ln.toNat), (30, .int .i64 (b.ln.toNat : Nat)), (31, .int .i64 j)] _
  have hzl := CR.len cj_3
  have hlc : ((b.ln.toNat : Nat) : Int) = b.ln := by omega
  refine VC.seq (VC.region (VO.mv (Rn.lss rfl rfl) rfl rfl rfl (VO.nil (VQ.then_code (VC.seq (VC.cond_if rfl (fun hc1 => ?_) (fun hc1 => ?_)))))))
  · skip
    refine VC.skip (VQ.then_code (VC.seq (VC.block (VC.seq (VC.region (VO.mv (Rn.move rfl) rfl rfl rfl (VO.mv (Rn.indexS Tryz.underlying33 Tryz.sizeOf34 rfl rfl (cj_3.sl.ne (by omega)) (by omega) (by omega)) rfl rfl rfl ?_)))))))
    refine VO.mv (Rn.load Tryz.isAgg34 rfl (cj_3.sl.getC (by omega) (by omega))) rfl rfl rfl (VO.mv (Rn.assign rfl) rfl rfl rfl (VO.mv (Rn.assign rfl) rfl rfl rfl (VO.nil (VQ.then_code (VC.region (VO.mv (Rn.move rfl) rfl rfl rfl (VO.mv (Rn.move rfl) rfl rfl rfl ?_)))))))
    refine VO.mv (Rn.move rfl) rfl rfl rfl (VO.mv (Rn.move rfl) rfl rfl rfl (VO.mv (Rn.len Tryz.underlying33 rfl) rfl rfl rfl (VO.wk (Wk.call Tryz.call43 rfl (cplx_Over _ _ _ _)) rfl rfl rfl ?_)))
    rintro _ w4 ⟨p4, q4, rfl, F4, c4⟩
    have z4 := c4.size
    have cj_4 := cj_3.keep c4
    refine VO.mv (Rn.indexS Tryz.underlying33 Tryz.sizeOf34 rfl rfl (cj_4.sl.ne (by omega)) (by omega) (by omega)) rfl rfl rfl (VO.wk0 (Wk.putC Tryz.sizeOf34 rfl rfl (by omega) cj_4) rfl rfl ?_)
    rintro _ w5 ⟨o5, c5, z5⟩
    have y5 := o5.lt
    refine VO.nil (VQ.block_normal (VQ.then_code (VC.region ?_)))
    refine VO.mv (Rn.add rfl rfl (by rw [IntKind.wrap_i64]; omega)) rfl rfl rfl ?_
    refine VO.mv (Rn.move rfl) rfl rfl rfl (VO.nil ?_)
    refine VQ.round (j + 1, zs.set j (p4, q4)) (by first | omega | (dsimp only; omega)) ?_ ⟨rfl, rfl, rfl, rfl, trivial⟩
    have CH_4 := CH_3.and c4
    have CH_5 : Ch (No) w w5 := CH_4.then c5 (by intro q h1 h2; rcases h2 with h2 | h2 <;> first | exact h2 | (exfalso; omega) | omega)
    exact ⟨(by omega), (hu.step (by omega) (by rw [F4, Int.toNat_natCast, hlc, ← hsm j (Nat.le_refl _)])), (fun i hi => by rw [set_getD (by omega), if_neg (by omega)]; exact hsm i (by omega)), (by omega), o5, CH_5⟩
  · skip
    refine VC.exit (VQ.then_exit (VQ.then_exit (VQ.block_exit (VQ.then_code (VC.seq (VC.region (VO.mv (Rn.move rfl) rfl rfl rfl ?_)))))))
    refine VO.mv (Rn.assign rfl) rfl rfl rfl (VO.mv (Rn.assign rfl) rfl rfl rfl (VO.nil (VQ.then_code (VC.ret (VQ.ret2 rfl rfl rfl (Ret.mk ?_))))))
    have e : j = b.ln.toNat := by omega
    rw [e] at hu
    have hz9 := hu.all (CR.len cj2) (CR.len cj_3)
    have y9 := Ow.lt cj_3
    exact ⟨_, _, _, _, rfl, cj_3, by rw [hz9, hz2, List.map_take, List.map_drop], by omega, CH_3⟩

set_option maxHeartbeats 1000000 in
set_option maxRecDepth 100000 in
theorem p_whole0 (lo hi p : Nat) (P : Pln) (SX : Nat → Prop) (X : Option Addr) (n xc : Nat) (ys : List CB) (w : World) (sx : SlR SX w X n 1 (ys.map cxV)) (hX : ∀ q, SX q → q < w.heap.size) (pl : PlnR lo hi w p P) (hh : hi ≤ w.heap.size) (N : Nat) (ok : PrgOk P.b N) (okb : okB P.b) (hne : 1 ≤ P.b.steps.length) (hn : (n : Int) = P.b.ln) (st : StT w) (hG : 11 ≤ w.heap.size) (hac1 : 1 ≤ cntS P.b.steps)  :
    Calls Tryz.prog 18 #[.pointer (some ⟨p, 0, none⟩), .slice X n xc, .bool false] w (Ret (fun v w' => ∃ r' A' c' zs, v = .tuple #[.slice A' P.b.ln.toNat c', .nilIface] ∧ CR 34 w' r' A' P.b.ln.toNat c' zs ∧ zs.map cx = fwdC P.b (ys.map cx) ∧ w.heap.size < r' ∧ Ch No w w')) := by
  have hln := ok.ln; have hn1 := ok.n1; have hcl := ok.cl; have hlen := ok.len
  have hyl : ys.length = n := by have := sx.len; simpa using this
  refine calls_of_VC (args := [.pointer (some ⟨p, 0, none⟩), .slice X n xc, .bool false]) Tryz.func18 rfl Tryz.ntmps18 rfl (VC.seq (VC.region (VO.mv (Rn.assign rfl) rfl rfl rfl (VO.mv (Rn.assign rfl) rfl rfl rfl (VO.nil (VQ.then_code (VC.seq ?_)))))))
  refine VC.region (VO.mv (Rn.move rfl) rfl rfl rfl (VO.mv (Rn.move rfl) rfl rfl rfl (VO.mv (Rn.move rfl) rfl rfl rfl (VO.wk (Wk.call Tryz.call23 rfl (p_Begin0 _ _ _ _ _ _ _ _ _ _ sx hX pl (by omega) _ ok okb hne hn st (by omega))) rfl rfl rfl ?_))))
  rintro _ w1 ⟨q1, m1, r1, rs1, sA1, sc1, cA1, xs1, rfl, rb1, mac1, hx1, ss1, hb1, c1⟩
  obtain ⟨hb1, hb2, hb3, hb4, hb5, hb6, hb7, hb8⟩ := hb1
  have yq1 := rb1.lt; have ym1 := mac1.bk.lt; have yr1 := Ow.lt mac1.row
  have hS : ∀ y, At rs1 y → ¬ MS m1 r1 y := fun y h1 h2 => by omega
  have hok := ok.ok; have hac2 : cntS P.b.steps ≤ 100000000 := by have := ok.act; omega
  have z1 := c1.size
  refine VO.mv (Rn.move rfl) rfl rfl rfl (VO.mv (Rn.extract rfl rfl) rfl rfl rfl (VO.mv (Rn.extract rfl rfl) rfl rfl rfl (VO.mv (Rn.assign rfl) rfl rfl rfl (VO.mv (Rn.assign rfl) rfl rfl rfl (VO.nil (VQ.then_code (VC.seq ?_)))))))
  refine VC.seq (VC.region (VO.mv (Rn.move rfl) rfl rfl rfl (VO.mv (Rn.nil_neq_nil Tryz.underlying25 rfl) rfl rfl rfl (VO.nil (VQ.then_code (VC.cond_false rfl (VC.skip ?_)))))))
  refine VQ.then_code (VC.seq (VC.seq (VC.region (VO.mv (Rn.move rfl) rfl rfl rfl (VO.wk (Wk.call Tryz.call24 rfl (r_Left _ _ _ _ _ _ _ _ _ _ _ _ _ _ _ _ _ rb1 mac1 (by omega) (by omega))) rfl rfl rfl ?_)))))
  rintro _ w2 ⟨rfl, c2⟩
  have z2 := c2.size
  refine VO.mv (Rn.gtr rfl rfl) rfl rfl rfl (VO.nil (VQ.then_code (VC.cond_if rfl (fun hc1 => ?_) (fun hc1 => ?_))))
  · skip
    refine VC.seq (VC.region (VO.mv (Rn.move rfl) rfl rfl rfl (VO.mv (Rn.move rfl) rfl rfl rfl ?_)))
    have rb_2 := rb1.keep c2
    have mac_2 := mac1.keep c2
    refine VO.wk (Wk.call Tryz.call24 rfl (r_Left _ _ _ _ _ _ _ _ _ _ _ _ _ _ _ _ _ rb_2 mac_2 (by omega) (by omega))) rfl rfl rfl ?_
    rintro _ w3 ⟨rfl, c3⟩
    have z3 := c3.size
    have rb_3 := rb_2.keep c3
    have mac_3 := mac_2.keep c3
    have ss_3 := ss1.keep (c2.trans c3)
    refine VO.wk (Wk.call Tryz.call25 rfl (r_Do _ _ _ _ _ _ _ _ _ _ _ _ _ _ rb_3 mac_3 (by omega) rfl hac1 hac2 hok (by omega) _ hS ss_3 _ (by omega))) rfl rfl rfl ?_
    rintro _ w4 ⟨rfl, ys4, mac4, hy4, c4⟩
    have z4 := c4.size
    refine VO.mv (Rn.move rfl) rfl rfl rfl (VO.mv (Rn.extract rfl rfl) rfl rfl rfl (VO.mv (Rn.extract rfl rfl) rfl rfl rfl (VO.mv (Rn.assign rfl) rfl rfl rfl (VO.mv (Rn.assign rfl) rfl rfl rfl (VO.nil (VQ.then_code (VC.seq ?_)))))))
    refine VC.region (VO.mv (Rn.move rfl) rfl rfl rfl (VO.mv (Rn.nil_neq_nil Tryz.underlying25 rfl) rfl rfl rfl (VO.nil (VQ.then_code (VC.cond_false rfl (VC.skip (VQ.then_code ?_)))))))
    refine VC.seq (VC.region (VO.mv (Rn.move rfl) rfl rfl rfl ?_))
    have rb_4 := rb_3.to c4 (by first | exact id | omega)
    refine VO.wk (Wk.call Tryz.call26 rfl (r_Result0 _ _ _ _ _ _ _ _ _ _ _ _ _ rb_4 mac4 ok (by omega))) rfl rfl rfl ?_
    rintro _ w5 ⟨r5, A5, k5, zs5, rfl, out5, hz5, yo5, c5⟩
    have z5 := c5.size
    refine VO.mv (Rn.extract rfl rfl) rfl rfl rfl (VO.mv (Rn.extract rfl rfl) rfl rfl rfl (VO.mv (Rn.assign rfl) rfl rfl rfl (VO.mv (Rn.assign rfl) rfl rfl rfl (VO.nil (VQ.then_code (VC.ret (VQ.ret2 rfl rfl rfl ?_)))))))
    refine Ret.mk ?_
    have CH_3 := (Ch.refl (No) w).and (c1.trans (c2.trans c3))
    have CH_4 : Ch (No) w w4 := CH_3.then c4 (by intro q h1 h2; rcases h2 with h2 | h2 <;> first | exact h2 | (exfalso; omega) | omega)
    have CH_5 := CH_4.and c5
    exact ⟨_, _, _, _, rfl, out5, by rw [hz5, hy4, hx1, show N = P.b.cl.toNat by omega]; rfl, by omega, CH_5⟩
  · skip
    omega

set_option maxHeartbeats 1000000 in
set_option maxRecDepth 100000 in
theorem p_whole1 (lo hi p : Nat) (P : Pln) (SX : Nat → Prop) (X : Option Addr) (n xc : Nat) (ys : List CB) (w : World) (sx : SlR SX w X n 1 (ys.map cxV)) (hX : ∀ q, SX q → q < w.heap.size) (pl : PlnR lo hi w p P) (hh : hi ≤ w.heap.size) (N : Nat) (ok : PrgOk P.b N) (okb : okB P.b) (hne : 1 ≤ P.b.steps.length) (hn : (n : Int) = P.b.ln) (st : StT w) (hG : 11 ≤ w.heap.size) (hac1 : 1 ≤ cntS P.b.steps)  :
    Calls Tryz.prog 18 #[.pointer (some ⟨p, 0, none⟩), .slice X n xc, .bool true] w (Ret (fun v w' => ∃ r' A' c' zs, v = .tuple #[.slice A' P.b.ln.toNat c', .nilIface] ∧ CR 34 w' r' A' P.b.ln.toNat c' zs ∧ zs.map cx = invC P.b (ys.map cx) ∧ w.heap.size < r' ∧ Ch No w w')) := by
  have hln := ok.ln; have hn1 := ok.n1; have hcl := ok.cl; have hlen := ok.len
  have hyl : ys.length = n := by have := sx.len; simpa using this
  refine calls_of_VC (args := [.pointer (some ⟨p, 0, none⟩), .slice X n xc, .bool true]) Tryz.func18 rfl Tryz.ntmps18 rfl (VC.seq (VC.region (VO.mv (Rn.assign rfl) rfl rfl rfl (VO.mv (Rn.assign rfl) rfl rfl rfl (VO.nil (VQ.then_code (VC.seq ?_)))))))
  refine VC.region (VO.mv (Rn.move rfl) rfl rfl rfl (VO.mv (Rn.move rfl) rfl rfl rfl (VO.mv (Rn.move rfl) rfl rfl rfl (VO.wk (Wk.call Tryz.call23 rfl (p_Begin1 _ _ _ _ _ _ _ _ _ _ sx hX pl (by omega) _ ok okb hne hn st (by omega))) rfl rfl rfl ?_))))
  rintro _ w1 ⟨q1, m1, r1, rs1, sA1, sc1, cA1, xs1, rfl, rb1, mac1, hx1, ss1, hb1, c1⟩
  obtain ⟨hb1, hb2, hb3, hb4, hb5, hb6, hb7, hb8⟩ := hb1
  have yq1 := rb1.lt; have ym1 := mac1.bk.lt; have yr1 := Ow.lt mac1.row
  have hS : ∀ y, At rs1 y → ¬ MS m1 r1 y := fun y h1 h2 => by omega
  have hok := ok.ok; have hac2 : cntS P.b.steps ≤ 100000000 := by have := ok.act; omega
  have z1 := c1.size
  refine VO.mv (Rn.move rfl) rfl rfl rfl (VO.mv (Rn.extract rfl rfl) rfl rfl rfl (VO.mv (Rn.extract rfl rfl) rfl rfl rfl (VO.mv (Rn.assign rfl) rfl rfl rfl (VO.mv (Rn.assign rfl) rfl rfl rfl (VO.nil (VQ.then_code (VC.seq ?_)))))))
  refine VC.seq (VC.region (VO.mv (Rn.move rfl) rfl rfl rfl (VO.mv (Rn.nil_neq_nil Tryz.underlying25 rfl) rfl rfl rfl (VO.nil (VQ.then_code (VC.cond_false rfl (VC.skip ?_)))))))
  refine VQ.then_code (VC.seq (VC.seq (VC.region (VO.mv (Rn.move rfl) rfl rfl rfl (VO.wk (Wk.call Tryz.call24 rfl (r_Left _ _ _ _ _ _ _ _ _ _ _ _ _ _ _ _ _ rb1 mac1 (by omega) (by omega))) rfl rfl rfl ?_)))))
  rintro _ w2 ⟨rfl, c2⟩
  have z2 := c2.size
  refine VO.mv (Rn.gtr rfl rfl) rfl rfl rfl (VO.nil (VQ.then_code (VC.cond_if rfl (fun hc1 => ?_) (fun hc1 => ?_))))
  · skip
    refine VC.seq (VC.region (VO.mv (Rn.move rfl) rfl rfl rfl (VO.mv (Rn.move rfl) rfl rfl rfl ?_)))
    have rb_2 := rb1.keep c2
    have mac_2 := mac1.keep c2
    refine VO.wk (Wk.call Tryz.call24 rfl (r_Left _ _ _ _ _ _ _ _ _ _ _ _ _ _ _ _ _ rb_2 mac_2 (by omega) (by omega))) rfl rfl rfl ?_
    rintro _ w3 ⟨rfl, c3⟩
    have z3 := c3.size
    have rb_3 := rb_2.keep c3
    have mac_3 := mac_2.keep c3
    have ss_3 := ss1.keep (c2.trans c3)
    refine VO.wk (Wk.call Tryz.call25 rfl (r_Do _ _ _ _ _ _ _ _ _ _ _ _ _ _ rb_3 mac_3 (by omega) rfl hac1 hac2 hok (by omega) _ hS ss_3 _ (by omega))) rfl rfl rfl ?_
    rintro _ w4 ⟨rfl, ys4, mac4, hy4, c4⟩
    have z4 := c4.size
    refine VO.mv (Rn.move rfl) rfl rfl rfl (VO.mv (Rn.extract rfl rfl) rfl rfl rfl (VO.mv (Rn.extract rfl rfl) rfl rfl rfl (VO.mv (Rn.assign rfl) rfl rfl rfl (VO.mv (Rn.assign rfl) rfl rfl rfl (VO.nil (VQ.then_code (VC.seq ?_)))))))
    refine VC.region (VO.mv (Rn.move rfl) rfl rfl rfl (VO.mv (Rn.nil_neq_nil Tryz.underlying25 rfl) rfl rfl rfl (VO.nil (VQ.then_code (VC.cond_false rfl (VC.skip (VQ.then_code ?_)))))))
    refine VC.seq (VC.region (VO.mv (Rn.move rfl) rfl rfl rfl ?_))
    have rb_4 := rb_3.to c4 (by first | exact id | omega)
    refine VO.wk (Wk.call Tryz.call26 rfl (r_Result1 _ _ _ _ _ _ _ _ _ _ _ _ _ rb_4 mac4 ok (by omega))) rfl rfl rfl ?_
    rintro _ w5 ⟨r5, A5, k5, zs5, rfl, out5, hz5, yo5, c5⟩
    have z5 := c5.size
    refine VO.mv (Rn.extract rfl rfl) rfl rfl rfl (VO.mv (Rn.extract rfl rfl) rfl rfl rfl (VO.mv (Rn.assign rfl) rfl rfl rfl (VO.mv (Rn.assign rfl) rfl rfl rfl (VO.nil (VQ.then_code (VC.ret (VQ.ret2 rfl rfl rfl ?_)))))))
    refine Ret.mk ?_
    have CH_3 := (Ch.refl (No) w).and (c1.trans (c2.trans c3))
    have CH_4 : Ch (No) w w4 := CH_3.then c4 (by intro q h1 h2; rcases h2 with h2 | h2 <;> first | exact h2 | (exfalso; omega) | omega)
    have CH_5 := CH_4.and c5
    exact ⟨_, _, _, _, rfl, out5, by rw [hz5, hy4, hx1, show N = P.b.cl.toNat by omega]; rfl, by omega, CH_5⟩
  · skip
    omega

set_option maxRecDepth 100000 in
theorem p_Forward (lo hi p : Nat) (P : Pln) (SX : Nat → Prop) (X : Option Addr) (n xc : Nat) (ys : List CB) (w : World) (sx : SlR SX w X n 1 (ys.map cxV)) (hX : ∀ q, SX q → q < w.heap.size) (pl : PlnR lo hi w p P) (hh : hi ≤ w.heap.size) (N : Nat) (ok : PrgOk P.b N) (okb : okB P.b) (hne : 1 ≤ P.b.steps.length) (hn : (n : Int) = P.b.ln) (st : StT w) (hG : 11 ≤ w.heap.size) (hac1 : 1 ≤ cntS P.b.steps)  :
    Calls Tryz.prog 9 #[.pointer (some ⟨p, 0, none⟩), .slice X n xc] w (Ret (fun v w' => ∃ r' A' c' zs, v = .tuple #[.slice A' P.b.ln.toNat c', .nilIface] ∧ CR 34 w' r' A' P.b.ln.toNat c' zs ∧ zs.map cx = fwdC P.b (ys.map cx) ∧ w.heap.size < r' ∧ Ch No w w')) := by
  refine calls_of_VC (args := [.pointer (some ⟨p, 0, none⟩), .slice X n xc]) Tryz.func9 rfl Tryz.ntmps9 rfl (VC.seq (VC.region (VO.mv (Rn.assign rfl) rfl rfl rfl (VO.mv (Rn.assign rfl) rfl rfl rfl (VO.nil (VQ.then_code (VC.seq ?_)))))))
  refine VC.region (VO.mv (Rn.move rfl) rfl rfl rfl (VO.mv (Rn.move rfl) rfl rfl rfl (VO.wk (Wk.call Tryz.call18 rfl (p_whole0 _ _ _ _ _ _ _ _ _ _ sx hX pl (by omega) _ ok okb hne hn st (by omega) hac1)) rfl rfl rfl ?_)))
  rintro _ w1 ⟨r1, A1, k1, zs1, rfl, out1, hz1, yo1, c1⟩
  have z1 := c1.size
  refine VO.mv (Rn.extract rfl rfl) rfl rfl rfl (VO.mv (Rn.extract rfl rfl) rfl rfl rfl (VO.mv (Rn.assign rfl) rfl rfl rfl (VO.mv (Rn.assign rfl) rfl rfl rfl (VO.nil (VQ.then_code (VC.ret (VQ.ret2 rfl rfl rfl ?_)))))))
  refine Ret.mk ?_
  have CH_1 := (Ch.refl (No) w).and c1
  exact ⟨_, _, _, _, rfl, out1, hz1, by omega, CH_1⟩

set_option maxRecDepth 100000 in
theorem p_Inverse (lo hi p : Nat) (P : Pln) (SX : Nat → Prop) (X : Option Addr) (n xc : Nat) (ys : List CB) (w : World) (sx : SlR SX w X n 1 (ys.map cxV)) (hX : ∀ q, SX q → q < w.heap.size) (pl : PlnR lo hi w p P) (hh : hi ≤ w.heap.size) (N : Nat) (ok : PrgOk P.b N) (okb : okB P.b) (hne : 1 ≤ P.b.steps.length) (hn : (n : Int) = P.b.ln) (st : StT w) (hG : 11 ≤ w.heap.size) (hac1 : 1 ≤ cntS P.b.steps)  :
    Calls Tryz.prog 10 #[.pointer (some ⟨p, 0, none⟩), .slice X n xc] w (Ret (fun v w' => ∃ r' A' c' zs, v = .tuple #[.slice A' P.b.ln.toNat c', .nilIface] ∧ CR 34 w' r' A' P.b.ln.toNat c' zs ∧ zs.map cx = invC P.b (ys.map cx) ∧ w.heap.size < r' ∧ Ch No w w')) := by
  refine calls_of_VC (args := [.pointer (some ⟨p, 0, none⟩), .slice X n xc]) Tryz.func10 rfl Tryz.ntmps10 rfl (VC.seq (VC.region (VO.mv (Rn.assign rfl) rfl rfl rfl (VO.mv (Rn.assign rfl) rfl rfl rfl (VO.nil (VQ.then_code (VC.seq ?_)))))))
  refine VC.region (VO.mv (Rn.move rfl) rfl rfl rfl (VO.mv (Rn.move rfl) rfl rfl rfl (VO.wk (Wk.call Tryz.call18 rfl (p_whole1 _ _ _ _ _ _ _ _ _ _ sx hX pl (by omega) _ ok okb hne hn st (by omega) hac1)) rfl rfl rfl ?_)))
  rintro _ w1 ⟨r1, A1, k1, zs1, rfl, out1, hz1, yo1, c1⟩
  have z1 := c1.size
  refine VO.mv (Rn.extract rfl rfl) rfl rfl rfl (VO.mv (Rn.extract rfl rfl) rfl rfl rfl (VO.mv (Rn.assign rfl) rfl rfl rfl (VO.mv (Rn.assign rfl) rfl rfl rfl (VO.nil (VQ.then_code (VC.ret (VQ.ret2 rfl rfl rfl ?_)))))))
  refine Ret.mk ?_
  have CH_1 := (Ch.refl (No) w).and c1
  exact ⟨_, _, _, _, rfl, out1, hz1, by omega, CH_1⟩

end Go.Tm
namespace Go.Tm
open Go.RowKit Go.Proofs
theorem eta_fr {b : Bld} {f : Int} (h : b.fr = f) : ({ b with fr := f } : Bld) = b := by subst h; rfl
def wideT (o : Ord) : ByteArray := (ByteArray.mk #[119, 105, 100, 101] ++ ByteArray.mk #[32]) ++ ByteArray.mk (tx o).toArray
/-- The plan of a leaf, wide: its program is as that of deep. -/
def plnW (o : Ord) : Pln := ⟨o, 1, buildM o, wideT o⟩

set_option maxRecDepth 100000 in
theorem inf87w46 : Inf Tryz.prog 87 (.agg #[.int .i64 0, .int .i64 0, .int .i64 0]) 3 24 := ⟨Tryz.t87, Tryz.type87, rfl, rfl, rfl⟩
theorem build70w46 {ps : List (Nat × Value)} {cs : Array Value} (h : Instr.fill (fun i => ([(0, 5), (5, 1), (6, 1)] : List (Nat × Nat))[i]?) #[.int .i64 0, .int .i64 0, .int .i64 0, .int .i64 0, .slice none 0 0, .int .i64 0, .int .i64 0] ps = some cs) (w : World) : (Instr.build 70 ps.toArray).run Tryz.prog w = .ok (.agg cs) w := by
  simp [Instr.build, Tryz.runUnderlying70, Tryz.zeroValue70, Tryz.sizeOf3, Tryz.sizeOf51, Value.cells, h]
theorem bld53_0_1_2_3w46 {v0_0 v0_1 v0_2 v1 v2_0 v2_1 v2_2 v2_3 v2_4 v3 : Value} (h : [v1, v3].all Value.oneCell' = true) (w : World) : (Instr.build 53 ([(0, .agg #[v0_0, v0_1, v0_2]), (1, v1), (2, .agg #[v2_0, v2_1, v2_2, v2_3, v2_4]), (3, v3)] : List (Nat × Value)).toArray).run Tryz.prog w = .ok (.agg #[v0_0, v0_1, v0_2, v1, v2_0, v2_1, v2_2, v2_3, v2_4, v3]) w := by
  simp only [List.all_cons, Bool.and_eq_true, List.all_nil, and_true] at h
  have hv1 := oneCell_cells (v := v1) (by simp_all)
  have hv3 := oneCell_cells (v := v3) (by simp_all)
  have h1 := fill_set (fun i => ([(0, 3), (3, 1), (4, 5), (9, 1)] : List (Nat × Nat))[i]?) [(0, .agg #[v0_0, v0_1, v0_2]), (1, v1), (2, .agg #[v2_0, v2_1, v2_2, v2_3, v2_4]), (3, v3)] [.int .i64 0, .int .i64 0, .slice none 0 0, .int .i64 0, .int .i64 0, .int .i64 0, .int .i64 0, .int .i64 0, .slice none 0 0, .string ⟨#[]⟩] (by simp [okF, agg_cells, hv1, hv3, Nat.beq, Nat.ble])
  simp [setF, agg_cells, hv1, hv3] at h1
  simp [Instr.build, Tryz.runUnderlying53, Tryz.zeroValue53, Tryz.sizeOf3, Tryz.sizeOf9, Tryz.sizeOf38, Tryz.sizeOf51, agg_cells, h1]
theorem bld87_0_1_2w46 {v0 v1 v2 : Value} (h : [v0, v1, v2].all Value.oneCell' = true) (w : World) : (Instr.build 87 ([(0, v0), (1, v1), (2, v2)] : List (Nat × Value)).toArray).run Tryz.prog w = .ok (.agg #[v0, v1, v2]) w := by
  simp only [List.all_cons, Bool.and_eq_true, List.all_nil, and_true] at h
  have hv0 := oneCell_cells (v := v0) (by simp_all)
  have hv1 := oneCell_cells (v := v1) (by simp_all)
  have hv2 := oneCell_cells (v := v2) (by simp_all)
  have h1 := fill_set (fun i => ([(0, 1), (1, 1), (2, 1)] : List (Nat × Nat))[i]?) [(0, v0), (1, v1), (2, v2)] [.int .i64 0, .int .i64 0, .int .i64 0] (by simp [okF, agg_cells, hv0, hv1, hv2, Nat.beq, Nat.ble])
  simp [setF, agg_cells, hv0, hv1, hv2] at h1
  simp [Instr.build, Tryz.runUnderlying87, Tryz.zeroValue87, Tryz.sizeOf3, agg_cells, h1]
set_option maxHeartbeats 2000000 in
set_option maxRecDepth 100000 in
theorem bb_wide (o : Ord) (q r : Nat) (x : Inst) (pl : Nat) (b : Bld) (A : Option Addr) (c lo hi : Nat) (w : World) (kd : RdK (In lo hi) w A o.kids) (hh : hi ≤ w.heap.size) (hq2 : q < lo ∨ hi ≤ q) (hr2 : r ≤ lo ∨ hi < r) (hq : 11 ≤ q) (hr : r = 0 ∨ 11 < r) (bb : BB w q r b) (ok : BdOk b) (hf : b.full = false) (ho : o.kind = 1 ∨ o.kind = 2) (hgn : 1 ≤ o.n ∧ o.n ≤ 64) (ls : SlR (Is pl) w (some ⟨pl, 0, none⟩) 1 3 [.int .i64 x.src, .int .i64 x.jump, .int .i64 x.dst]) (hpl : ¬ pl = q ∧ ¬ r = pl + 1 ∧ pl < w.heap.size) (hx : XOk x (sl o)) (st : StT w) :
    Calls Tryz.prog 34 #[.pointer (some ⟨q, 0, none⟩), ordV o A c, .slice (some ⟨pl, 0, none⟩) 1 1] w (Ret (fun v w' => ∃ r', v = .tuple #[] ∧ BB w' q r' (if o.kind = 1 then b.add (directS x o.n) else (b.add (gatherS x.dst x.src x.jump o.n)).add (flyS x.dst 1 1 o.n)) ∧ (r' = r ∨ w.heap.size < r') ∧ Ch (QR q r) w w')) := by
  have lb := bb.lt
  have okb := ok.bd
  refine calls_of_VC (args := [.pointer (some ⟨q, 0, none⟩), ordV o A c, .slice (some ⟨pl, 0, none⟩) 1 1]) Tryz.func34 rfl Tryz.ntmps34 rfl (VC.seq (VC.region (VO.wk (Wk.box rfl) rfl rfl rfl ?_)))
  rintro _ w1 ⟨p1, rfl, N1⟩
  have c1 := N1.ch
  have e1 := N1.p; have z1 := N1.size
  have b4 := Bk.new N1
  refine VO.nil (VQ.then_code (VC.seq (VC.seq (VC.region (VO.mv (Rn.move rfl) rfl rfl rfl ?_)))))
  have bb_1 := bb.keep c1
  refine VO.wk (Wk.call Tryz.call35 rfl (bb_full _ _ _ _ bb_1)) rfl rfl rfl ?_
  rintro _ _ ⟨rfl, rfl⟩
  refine VO.nil (VQ.then_code (VC.cond rfl (fun hc1 => ?_) (fun hc1 => ?_)))
  · skip
    try simp only [Bool.and_eq_true, Bool.or_eq_true, Bool.not_eq_true', Bool.not_eq_false', Bool.and_eq_false_iff, Bool.or_eq_false_iff, decide_eq_true_eq, decide_eq_false_iff_not] at hc1
    exact absurd hc1 (by rw [hf]; simp)
  · skip
    try simp only [Bool.and_eq_true, Bool.or_eq_true, Bool.not_eq_true', Bool.not_eq_false', Bool.and_eq_false_iff, Bool.or_eq_false_iff, decide_eq_true_eq, decide_eq_false_iff_not] at hc1
    refine VC.skip (VQ.then_code (VC.seq (VC.region (VO.mv (Rn.field Tryz.underlying38 rfl Tryz.sizeOf3 rfl rfl rfl) rfl rfl rfl (VO.mv (Rn.load Tryz.isAgg3 rfl (b4.cell rfl)) rfl rfl rfl (VO.nil (VQ.then_code ?_)))))))
    refine VC.block (VC.seq (VC.region (VO.mv (Rn.eql rfl rfl) rfl rfl rfl (VO.mv (Rn.assign rfl) rfl rfl rfl (VO.nil (VQ.then_code (VC.cond_if rfl (fun hc2 => ?_) (fun hc2 => ?_))))))))
    · skip
      refine VC.seq (VC.region (VO.mv (Rn.move rfl) rfl rfl rfl (VO.mv (Rn.len Tryz.underlying90 rfl) rfl rfl rfl (VO.mv (Rn.move rfl) rfl rfl rfl (VO.nil (VQ.then_code (VC.block ?_)))))))
      have ls_1 := ls.keep c1
      have st_1 := st.keep c1
      have CH_1 := (Ch.refl (QR q r) w).and c1
      refine VC.loopS (σ := Nat × Nat) (fun (i, r2) => [(0, .pointer (some ⟨q, 0, none⟩)), (2, .slice (some ⟨pl, 0, none⟩) 1 1), (4, .pointer (some ⟨p1, 0, none⟩)), (18, .slice (some ⟨pl, 0, none⟩) 1 1), (19, .int .i64 1), (20, .int .i64 i)]) (fun (i, r2) w' => i ≤ 1 ∧ (r2 = r ∨ p1 + 1 < r2) ∧ w1.heap.size ≤ w'.heap.size ∧ BB w' q r2 (if i = 0 then b else b.add (directS x o.n)) ∧ SlR (Is pl) w' (some ⟨pl, 0, none⟩) 1 3 [.int .i64 x.src, .int .i64 x.jump, .int .i64 x.dst] ∧ Bk w' p1 #[.int .i64 o.kind, .int .i64 o.n, .slice A o.kids.length c] 38 ∧ StT w' ∧ Ch (QR q r) w w') (fun (i, r2) => 1 - i) (0, r) ?_ ⟨rfl, rfl, rfl, rfl, rfl, rfl, trivial⟩ ?_
      · exact ⟨(by omega), (by omega), (Nat.le_refl _), (by rw [if_pos rfl]; exact bb_1), ls_1, b4, st_1, CH_1⟩
      rintro ⟨i, r2⟩ w2 ⟨hii, hrr, hsz2, bb_2, ls_2, b4_2, st_2, CH_2⟩
      show VC _ _ _ _ [(0, .pointer (some ⟨q, 0, none⟩)), (2, .slice (some ⟨pl, 0, none⟩) 1 1), (4, .pointer (some ⟨p1, 0, none⟩)), (18, .slice (some ⟨pl, 0, none⟩) 1 1), (19, .int .i64 1), (20, .int .i64 i)] _
      have lb9 := bb_2.lt
      refine VC.seq (VC.region (VO.mv (Rn.lss rfl rfl) rfl rfl rfl (VO.nil (VQ.then_code (VC.seq (VC.cond_if rfl (fun hc3 => ?_) (fun hc3 => ?_)))))))
      · skip
        refine VC.skip (VQ.then_code (VC.seq (VC.block (VC.seq ?_))))
        obtain rfl : i = 0 := by omega
        have xc : CaR (Is pl) w2 ((sAddr (some ⟨pl, 0, none⟩)).add (0 * 3)) [.int .i64 x.src, .int .i64 x.jump, .int .i64 x.dst] := ⟨ls_2.part (i := 0) (by omega) (fun j v h => by simpa using h), rfl⟩
        have bbi := bb_2; rw [if_pos rfl] at bbi
        refine VC.region (VO.mv (Rn.indexS Tryz.underlying90 Tryz.sizeOf87 rfl rfl (ls_2.ne (by omega)) (by omega) (by omega)) rfl rfl rfl (VO.mv (Rn.loads Tryz.isAgg87 Tryz.sizeOf87 rfl rfl xc.1) rfl rfl rfl (VO.wk (Wk.alloc Tryz.zeroValue87) rfl rfl rfl ?_)))
        rintro _ w3 ⟨p3, rfl, N3⟩
        have c3 := N3.ch
        have e3 := N3.p; have z3 := N3.size
        have b7 := Bk.new N3
        refine VO.wk0 (Wk.puts Tryz.sizeOf87 rfl rfl rfl rfl b7 (Nat.le_of_ble_eq_true rfl)) rfl rfl ?_
        intro _ w4 Z4
        have c4 := Z4.ch; have z4 := Z4.size
        have b7_4 := Bk.put Z4
        refine VO.nil (VQ.then_code (VC.region (VO.mv (Rn.move rfl) rfl rfl rfl (VO.mv (Rn.loads Tryz.isAgg87 Tryz.sizeOf87 rfl rfl (b7_4.all' rfl)) rfl rfl rfl (VO.mv (Rn.field Tryz.underlying38 rfl Tryz.sizeOf3 rfl rfl rfl) rfl rfl rfl ?_)))))
        have cc_2_4 : Ch No w2 w4 := (Ch.then (E := No) c3 c4 (by intro q h1 h2; rcases h2 with h2 | h2 <;> first | exact h2 | (exfalso; omega)))
        have b4_4 := b4_2.keep cc_2_4
        refine VO.mv (Rn.load Tryz.isAgg3 rfl (b4_4.cell rfl)) rfl rfl rfl (VO.wk (Wk.call Tryz.call57 rfl (c_direct x.src x.jump x.dst o.n _)) rfl rfl rfl ?_)
        rintro _ w5 ⟨rfl, c5⟩
        have z5 := c5.size
        have cc_2_5 : Ch No w2 w5 := ((Ch.then (E := No) c3 c4 (by intro q h1 h2; rcases h2 with h2 | h2 <;> first | exact h2 | (exfalso; omega))).and c5)
        have bb_5 := bbi.keep cc_2_5
        have st_5 := st_2.keep cc_2_5
        refine VO.wk (Wk.call Tryz.call56 rfl (bb_add _ _ (b) (directS x o.n) _ bb_5 (ok) st_5 (by simp only [directS]; omega) (by omega) (by omega))) rfl rfl rfl ?_
        rintro _ w6 ⟨r6, rfl, bb6, y6, c6⟩
        have lb6 := bb6.lt
        have z6 := c6.size
        refine VO.nil (VQ.block_normal (VQ.then_code (VC.region ?_)))
        refine VO.mv (Rn.add rfl rfl (by rw [IntKind.wrap_i64]; omega)) rfl rfl rfl ?_
        refine VO.mv (Rn.move rfl) rfl rfl rfl (VO.nil ?_)
        refine VQ.round (1, r6) (by first | omega | (dsimp only; omega)) ?_ ⟨rfl, rfl, rfl, rfl, rfl, rfl, trivial⟩
        have ls_5 := ls_2.keep cc_2_5
        have ls_6 := ls_5.to c6 (by first | exact fun _ _ _ _ => id | (intro q h1 h2 hx h3; omega))
        have b4_5 := b4_4.keep c5
        have b4_6 := b4_5.to c6 (by first | exact id | omega)
        have st_6 := st_5.to c6 (by first | exact fun _ _ _ _ => id | (intro q h1 h2 hx h3; omega))
        have CH_5 := CH_2.and cc_2_5
        have CH_6 : Ch (QR q r) w w6 := CH_5.then c6 (by intro q h1 h2; rcases h2 with h2 | h2 <;> first | exact h2 | (exfalso; omega) | omega)
        exact ⟨(by omega), (by omega), (by omega), (by rw [if_neg (by omega)]; exact bb6), ls_6, b4_6, st_6, CH_6⟩
      · skip
        refine VC.exit (VQ.then_exit (VQ.then_exit (VQ.block_exit (VQ.block_normal (VQ.end0 rfl (Ret.mk ?_))))))
        have bbe := bb_2; rw [if_neg (by omega)] at bbe
        exact ⟨_, rfl, by rw [if_pos hc2]; exact bbe, by omega, CH_2⟩
    · skip
      refine VC.seq (VC.region (VO.mv (Rn.eql rfl rfl) rfl rfl rfl (VO.mv (Rn.assign rfl) rfl rfl rfl (VO.nil (VQ.then_code (VC.cond_if rfl (fun hc4 => ?_) (fun hc4 => ?_)))))))
      · skip
        refine VC.seq (VC.seq (VC.region (VO.mv (Rn.move rfl) rfl rfl rfl (VO.mv (Rn.len Tryz.underlying90 rfl) rfl rfl rfl (VO.mv (Rn.move rfl) rfl rfl rfl (VO.nil (VQ.then_code ?_)))))))
        refine VC.block ?_
        have ls_1 := ls.keep c1
        have st_1 := st.keep c1
        have CH_1 := (Ch.refl (QR q r) w).and c1
        refine VC.loopS (σ := Nat × Nat) (fun (i, r2) => [(0, .pointer (some ⟨q, 0, none⟩)), (2, .slice (some ⟨pl, 0, none⟩) 1 1), (4, .pointer (some ⟨p1, 0, none⟩)), (33, .slice (some ⟨pl, 0, none⟩) 1 1), (34, .int .i64 1), (35, .int .i64 i)]) (fun (i, r2) w' => i ≤ 1 ∧ (r2 = r ∨ p1 + 1 < r2) ∧ w1.heap.size ≤ w'.heap.size ∧ BB w' q r2 (if i = 0 then b else b.add (gatherS x.dst x.src x.jump o.n)) ∧ SlR (Is pl) w' (some ⟨pl, 0, none⟩) 1 3 [.int .i64 x.src, .int .i64 x.jump, .int .i64 x.dst] ∧ Bk w' p1 #[.int .i64 o.kind, .int .i64 o.n, .slice A o.kids.length c] 38 ∧ StT w' ∧ Ch (QR q r) w w') (fun (i, r2) => 1 - i) (0, r) ?_ ⟨rfl, rfl, rfl, rfl, rfl, rfl, trivial⟩ ?_
        · exact ⟨(by omega), (by omega), (Nat.le_refl _), (by rw [if_pos rfl]; exact bb_1), ls_1, b4, st_1, CH_1⟩
        rintro ⟨i, r2⟩ w7 ⟨hii, hrr, hsz7, bb_7, ls_7, b4_7, st_7, CH_7⟩
        show VC _ _ _ _ [(0, .pointer (some ⟨q, 0, none⟩)), (2, .slice (some ⟨pl, 0, none⟩) 1 1), (4, .pointer (some ⟨p1, 0, none⟩)), (33, .slice (some ⟨pl, 0, none⟩) 1 1), (34, .int .i64 1), (35, .int .i64 i)] _
        have lb9 := bb_7.lt
        refine VC.seq (VC.region (VO.mv (Rn.lss rfl rfl) rfl rfl rfl (VO.nil (VQ.then_code (VC.seq (VC.cond_if rfl (fun hc5 => ?_) (fun hc5 => ?_)))))))
        · skip
          refine VC.skip (VQ.then_code (VC.seq (VC.block (VC.seq ?_))))
          obtain rfl : i = 0 := by omega
          have xc : CaR (Is pl) w7 ((sAddr (some ⟨pl, 0, none⟩)).add (0 * 3)) [.int .i64 x.src, .int .i64 x.jump, .int .i64 x.dst] := ⟨ls_7.part (i := 0) (by omega) (fun j v h => by simpa using h), rfl⟩
          have bbi := bb_7; rw [if_pos rfl] at bbi
          refine VC.region (VO.mv (Rn.indexS Tryz.underlying90 Tryz.sizeOf87 rfl rfl (ls_7.ne (by omega)) (by omega) (by omega)) rfl rfl rfl (VO.mv (Rn.loads Tryz.isAgg87 Tryz.sizeOf87 rfl rfl xc.1) rfl rfl rfl (VO.wk (Wk.alloc Tryz.zeroValue87) rfl rfl rfl ?_)))
          rintro _ w8 ⟨p8, rfl, N8⟩
          have c8 := N8.ch
          have e8 := N8.p; have z8 := N8.size
          have b9 := Bk.new N8
          refine VO.wk0 (Wk.puts Tryz.sizeOf87 rfl rfl rfl rfl b9 (Nat.le_of_ble_eq_true rfl)) rfl rfl ?_
          intro _ w9 Z9
          have c9 := Z9.ch; have z9 := Z9.size
          have b9_9 := Bk.put Z9
          refine VO.nil (VQ.then_code (VC.region (VO.mv (Rn.move rfl) rfl rfl rfl (VO.mv (Rn.field Tryz.underlying87 rfl Tryz.sizeOf3 rfl rfl rfl) rfl rfl rfl (VO.mv (Rn.load Tryz.isAgg3 rfl (b9_9.cell rfl)) rfl rfl rfl (VO.mv (Rn.field Tryz.underlying87 rfl Tryz.sizeOf3 rfl rfl rfl) rfl rfl rfl (VO.mv (Rn.load Tryz.isAgg3 rfl (b9_9.cell rfl)) rfl rfl rfl ?_)))))))
          refine VO.mv (Rn.field Tryz.underlying87 rfl Tryz.sizeOf3 rfl rfl rfl) rfl rfl rfl (VO.mv (Rn.load Tryz.isAgg3 rfl (b9_9.cell rfl)) rfl rfl rfl (VO.mv (Rn.field Tryz.underlying38 rfl Tryz.sizeOf3 rfl rfl rfl) rfl rfl rfl ?_))
          have cc_7_9 : Ch No w7 w9 := (Ch.then (E := No) c8 c9 (by intro q h1 h2; rcases h2 with h2 | h2 <;> first | exact h2 | (exfalso; omega)))
          have b4_9 := b4_7.keep cc_7_9
          refine VO.mv (Rn.load Tryz.isAgg3 rfl (b4_9.cell rfl)) rfl rfl rfl (VO.wk (Wk.call Tryz.call58 rfl (c_gather x.dst x.src x.jump o.n _)) rfl rfl rfl ?_)
          rintro _ w10 ⟨rfl, c10⟩
          have z10 := c10.size
          have cc_7_10 : Ch No w7 w10 := ((Ch.then (E := No) c8 c9 (by intro q h1 h2; rcases h2 with h2 | h2 <;> first | exact h2 | (exfalso; omega))).and c10)
          have bb_10 := bbi.keep cc_7_10
          have st_10 := st_7.keep cc_7_10
          refine VO.wk (Wk.call Tryz.call56 rfl (bb_add _ _ (b) (gatherS x.dst x.src x.jump o.n) _ bb_10 (ok) st_10 (by simp only [gatherS]; omega) (by omega) (by omega))) rfl rfl rfl ?_
          rintro _ w11 ⟨r11, rfl, bb11, y11, c11⟩
          have lb11 := bb11.lt
          have z11 := c11.size
          refine VO.nil (VQ.block_normal (VQ.then_code (VC.region ?_)))
          refine VO.mv (Rn.add rfl rfl (by rw [IntKind.wrap_i64]; omega)) rfl rfl rfl ?_
          refine VO.mv (Rn.move rfl) rfl rfl rfl (VO.nil ?_)
          refine VQ.round (1, r11) (by first | omega | (dsimp only; omega)) ?_ ⟨rfl, rfl, rfl, rfl, rfl, rfl, trivial⟩
          have ls_10 := ls_7.keep cc_7_10
          have ls_11 := ls_10.to c11 (by first | exact fun _ _ _ _ => id | (intro q h1 h2 hx h3; omega))
          have b4_10 := b4_9.keep c10
          have b4_11 := b4_10.to c11 (by first | exact id | omega)
          have st_11 := st_10.to c11 (by first | exact fun _ _ _ _ => id | (intro q h1 h2 hx h3; omega))
          have CH_10 := CH_7.and cc_7_10
          have CH_11 : Ch (QR q r) w w11 := CH_10.then c11 (by intro q h1 h2; rcases h2 with h2 | h2 <;> first | exact h2 | (exfalso; omega) | omega)
          exact ⟨(by omega), (by omega), (by omega), (by rw [if_neg (by omega)]; exact bb11), ls_11, b4_11, st_11, CH_11⟩
        · skip
          refine VC.exit (VQ.then_exit (VQ.then_exit (VQ.block_exit (VQ.then_code (VC.seq (VC.region (VO.mv (Rn.move rfl) rfl rfl rfl ?_)))))))
          refine VO.mv (Rn.len Tryz.underlying90 rfl) rfl rfl rfl (VO.mv (Rn.move rfl) rfl rfl rfl (VO.nil (VQ.then_code (VC.block (VC.loopS (σ := Nat × Nat) (fun (i, r2) => [(0, .pointer (some ⟨q, 0, none⟩)), (2, .slice (some ⟨pl, 0, none⟩) 1 1), (4, .pointer (some ⟨p1, 0, none⟩)), (51, .slice (some ⟨pl, 0, none⟩) 1 1), (52, .int .i64 1), (53, .int .i64 i)]) (fun (i, r2) w' => i ≤ 1 ∧ (r2 = r ∨ p1 + 1 < r2) ∧ w7.heap.size ≤ w'.heap.size ∧ BB w' q r2 (if i = 0 then b.add (gatherS x.dst x.src x.jump o.n) else (b.add (gatherS x.dst x.src x.jump o.n)).add (flyS x.dst 1 1 o.n)) ∧ SlR (Is pl) w' (some ⟨pl, 0, none⟩) 1 3 [.int .i64 x.src, .int .i64 x.jump, .int .i64 x.dst] ∧ Bk w' p1 #[.int .i64 o.kind, .int .i64 o.n, .slice A o.kids.length c] 38 ∧ StT w' ∧ Ch (QR q r) w w') (fun (i, r2) => 1 - i) (0, r2) ?_ ⟨rfl, rfl, rfl, rfl, rfl, rfl, trivial⟩ ?_)))))
          · exact ⟨(by omega), (by omega), (Nat.le_refl _), (by rw [if_pos rfl]; have bbe := bb_7; rw [if_neg (by omega)] at bbe; exact bbe), ls_7, b4_7, st_7, CH_7⟩
          rintro ⟨i, r2⟩ w12 ⟨hii, hrr, hsz12, bb_12, ls_12, b4_12, st_12, CH_12⟩
          show VC _ _ _ _ [(0, .pointer (some ⟨q, 0, none⟩)), (2, .slice (some ⟨pl, 0, none⟩) 1 1), (4, .pointer (some ⟨p1, 0, none⟩)), (51, .slice (some ⟨pl, 0, none⟩) 1 1), (52, .int .i64 1), (53, .int .i64 i)] _
          have lb9 := bb_12.lt
          refine VC.seq (VC.region (VO.mv (Rn.lss rfl rfl) rfl rfl rfl (VO.nil (VQ.then_code (VC.seq (VC.cond_if rfl (fun hc6 => ?_) (fun hc6 => ?_)))))))
          · skip
            refine VC.skip (VQ.then_code (VC.seq (VC.block (VC.seq ?_))))
            obtain rfl : i = 0 := by omega
            have xc : CaR (Is pl) w12 ((sAddr (some ⟨pl, 0, none⟩)).add (0 * 3)) [.int .i64 x.src, .int .i64 x.jump, .int .i64 x.dst] := ⟨ls_12.part (i := 0) (by omega) (fun j v h => by simpa using h), rfl⟩
            have bbi := bb_12; rw [if_pos rfl] at bbi
            refine VC.region (VO.mv (Rn.indexS Tryz.underlying90 Tryz.sizeOf87 rfl rfl (ls_12.ne (by omega)) (by omega) (by omega)) rfl rfl rfl (VO.mv (Rn.loads Tryz.isAgg87 Tryz.sizeOf87 rfl rfl xc.1) rfl rfl rfl (VO.wk (Wk.alloc Tryz.zeroValue87) rfl rfl rfl ?_)))
            rintro _ w13 ⟨p13, rfl, N13⟩
            have c13 := N13.ch
            have e13 := N13.p; have z13 := N13.size
            have b11 := Bk.new N13
            refine VO.wk0 (Wk.puts Tryz.sizeOf87 rfl rfl rfl rfl b11 (Nat.le_of_ble_eq_true rfl)) rfl rfl ?_
            intro _ w14 Z14
            have c14 := Z14.ch; have z14 := Z14.size
            have b11_14 := Bk.put Z14
            refine VO.nil (VQ.then_code (VC.region (VO.mv (Rn.move rfl) rfl rfl rfl (VO.mv (Rn.field Tryz.underlying87 rfl Tryz.sizeOf3 rfl rfl rfl) rfl rfl rfl (VO.mv (Rn.load Tryz.isAgg3 rfl (b11_14.cell rfl)) rfl rfl rfl (VO.mv (Rn.field Tryz.underlying38 rfl Tryz.sizeOf3 rfl rfl rfl) rfl rfl rfl ?_))))))
            have cc_12_14 : Ch No w12 w14 := (Ch.then (E := No) c13 c14 (by intro q h1 h2; rcases h2 with h2 | h2 <;> first | exact h2 | (exfalso; omega)))
            have b4_14 := b4_12.keep cc_12_14
            refine VO.mv (Rn.load Tryz.isAgg3 rfl (b4_14.cell rfl)) rfl rfl rfl (VO.wk (Wk.call Tryz.call59 rfl (c_fly x.dst 1 1 o.n _)) rfl rfl rfl ?_)
            rintro _ w15 ⟨rfl, c15⟩
            have z15 := c15.size
            have cc_12_15 : Ch No w12 w15 := ((Ch.then (E := No) c13 c14 (by intro q h1 h2; rcases h2 with h2 | h2 <;> first | exact h2 | (exfalso; omega))).and c15)
            have bb_15 := bbi.keep cc_12_15
            have st_15 := st_12.keep cc_12_15
            refine VO.wk (Wk.call Tryz.call56 rfl (bb_add _ _ (b.add (gatherS x.dst x.src x.jump o.n)) (flyS x.dst 1 1 o.n) _ bb_15 (ok.add _) st_15 (by simp only [flyS]; omega) (by omega) (by omega))) rfl rfl rfl ?_
            rintro _ w16 ⟨r16, rfl, bb16, y16, c16⟩
            have lb16 := bb16.lt
            have z16 := c16.size
            refine VO.nil (VQ.block_normal (VQ.then_code (VC.region ?_)))
            refine VO.mv (Rn.add rfl rfl (by rw [IntKind.wrap_i64]; omega)) rfl rfl rfl ?_
            refine VO.mv (Rn.move rfl) rfl rfl rfl (VO.nil ?_)
            refine VQ.round (1, r16) (by first | omega | (dsimp only; omega)) ?_ ⟨rfl, rfl, rfl, rfl, rfl, rfl, trivial⟩
            have ls_15 := ls_12.keep cc_12_15
            have ls_16 := ls_15.to c16 (by first | exact fun _ _ _ _ => id | (intro q h1 h2 hx h3; omega))
            have b4_15 := b4_14.keep c15
            have b4_16 := b4_15.to c16 (by first | exact id | omega)
            have st_16 := st_15.to c16 (by first | exact fun _ _ _ _ => id | (intro q h1 h2 hx h3; omega))
            have CH_15 := CH_12.and cc_12_15
            have CH_16 : Ch (QR q r) w w16 := CH_15.then c16 (by intro q h1 h2; rcases h2 with h2 | h2 <;> first | exact h2 | (exfalso; omega) | omega)
            exact ⟨(by omega), (by omega), (by omega), (by rw [if_neg (by omega)]; exact bb16), ls_16, b4_16, st_16, CH_16⟩
          · skip
            refine VC.exit (VQ.then_exit (VQ.then_exit (VQ.block_exit (VQ.block_normal (VQ.end0 rfl (Ret.mk ?_))))))
            have bbe := bb_12; rw [if_neg (by omega)] at bbe
            exact ⟨_, rfl, by rw [if_neg (by omega)]; exact bbe, by omega, CH_12⟩
      · skip
        omega

theorem buildM_leaf {o : Ord} (hl : o.len ≠ 0) (ho : o.kind = 1 ∨ o.kind = 2) : buildM o = (if o.kind = 1 then (bld0 o.len).add (directS ⟨0, 1, o.len⟩ o.n) else ((bld0 o.len).add (gatherS o.len 0 1 o.n)).add (flyS o.len 1 1 o.n)) := by
  have hf : (bld0 o.len).full = false := by
    have := len_bd o
    simp only [bld0, Bld.full, Bld.region, Bool.or_eq_false_iff, decide_eq_false_iff_not]
    refine ⟨⟨by simp, ?_⟩, by simp⟩
    simp only [Int.zero_add]
    split <;> omega
  unfold buildM
  rcases ho with h | h
  · rw [if_pos h, deepM_direct hf h]
    exact eta_fr (add_fr _ _)
  · rw [if_neg (by omega), deepM_fly hf h]
    exact eta_fr ((add_fr _ _).trans (add_fr _ _))
theorem leaf_len {o : Ord} (hl : o.len ≠ 0) (ho : o.kind = 1 ∨ o.kind = 2) : 1 ≤ o.n ∧ o.n ≤ 64 := go_n (GO.of_len hl) ho

set_option maxHeartbeats 1000000 in
set_option maxRecDepth 100000 in
theorem c_buildW (o : Ord) (A : Option Addr) (c lo hi : Nat) (w : World) (kd : RdK (In lo hi) w A o.kids) (hh : hi ≤ w.heap.size) (hl : o.len ≠ 0) (ho : o.kind = 1 ∨ o.kind = 2) (hf : (buildM o).full = false) (st : StT w) (hG : 11 ≤ w.heap.size) :
    Calls Tryz.prog 22 #[ordV o A c, .int .i64 1] w (Ret (fun v w' => ∃ q r, v = .tuple #[.pointer (some ⟨q, 0, none⟩), .nilIface] ∧ BB w' q r (buildM o) ∧ w.heap.size ≤ q ∧ (r = 0 ∨ w.heap.size < r) ∧ Ch No w w')) := by
  have ll := len_bd o; have go := GO.of_len hl; have hsl := len_sl hl; have hgn := leaf_len hl ho
  have hf0 : (bld0 o.len).full = false := by
    simp only [bld0, Bld.full, Bld.region, Bool.or_eq_false_iff, decide_eq_false_iff_not]
    refine ⟨⟨by simp, ?_⟩, by simp⟩
    simp only [Int.zero_add]
    split <;> omega
  refine calls_of_VC (args := [ordV o A c, .int .i64 1]) Tryz.func22 rfl Tryz.ntmps22 rfl (VC.seq (VC.region (VO.wk (Wk.box rfl) rfl rfl rfl ?_)))
  rintro _ w1 ⟨p1, rfl, N1⟩
  have c1 := N1.ch
  have e1 := N1.p; have z1 := N1.size
  have b2 := Bk.new N1
  refine VO.mv (Rn.assign rfl) rfl rfl rfl (VO.mv (Rn.assign rfl) rfl rfl rfl (VO.nil (VQ.then_code (VC.seq (VC.seq (VC.region (VO.mv (Rn.move rfl) rfl rfl rfl ?_)))))))
  refine VO.mv (Rn.neq rfl rfl) rfl rfl rfl (VO.mv (Rn.move rfl) rfl rfl rfl ?_)
  refine VO.andJoin (b := _) 3 11 14 rfl (fun hc1 Jhc1 => by
      try simp only [Bool.and_eq_true, Bool.or_eq_true, Bool.not_eq_true', Bool.not_eq_false', Bool.and_eq_false_iff, Bool.or_eq_false_iff, decide_eq_true_eq, decide_eq_false_iff_not] at hc1
      refine VO.mv (Rn.move rfl) rfl rfl rfl (VO.mv (Rn.neq rfl rfl) rfl rfl rfl (VO.mv (Rn.pick_true rfl rfl) rfl rfl rfl ?_))
      exact (VO.fg rfl (VO.fg rfl Jhc1))) (fun hc1 Jhc1 => by
      refine VO.skip rfl rfl rfl (VO.skip rfl rfl rfl (VO.mv (Rn.pick_false rfl rfl) rfl rfl rfl ?_))
      exact (VO.fg rfl (VO.fg rfl Jhc1))) ?_
  refine VO.nil (VQ.then_code (VC.cond rfl (fun hc2 => ?_) (fun hc2 => ?_)))
  · skip
    try simp only [Bool.and_eq_true, Bool.or_eq_true, Bool.not_eq_true', Bool.not_eq_false', Bool.and_eq_false_iff, Bool.or_eq_false_iff, decide_eq_true_eq, decide_eq_false_iff_not] at hc2
    exact absurd hc2 (by simp)
  · skip
    try simp only [Bool.and_eq_true, Bool.or_eq_true, Bool.not_eq_true', Bool.not_eq_false', Bool.and_eq_false_iff, Bool.or_eq_false_iff, decide_eq_true_eq, decide_eq_false_iff_not] at hc2
    refine VC.skip (VQ.then_code (VC.seq (VC.region (VO.mv (Rn.loads Tryz.isAgg38 Tryz.sizeOf38 rfl rfl (b2.all' rfl)) rfl rfl rfl ?_))))
    have kd_1 := kd.keep c1
    refine VO.wk (Wk.call Tryz.call30 rfl (order_Length _ _ _ _ _ _ kd_1 (by omega))) rfl rfl rfl ?_
    rintro _ w2 ⟨rfl, c2⟩
    have z2 := c2.size
    refine VO.mv (Rn.assign rfl) rfl rfl rfl (VO.nil (VQ.then_code (VC.seq (VC.seq (VC.region (VO.mv (Rn.move rfl) rfl rfl rfl (VO.mv (Rn.eql rfl rfl) rfl rfl rfl ?_)))))))
    refine VO.nil (VQ.then_code (VC.cond_if rfl (fun hc3 => ?_) (fun hc3 => ?_)))
    · skip
      omega
    · skip
      refine VC.skip (VQ.then_code (VC.seq (VC.region (VO.mv (Rn.build rfl (build70w46 rfl)) rfl rfl rfl (VO.wk (Wk.box rfl) rfl rfl rfl ?_)))))
      rintro _ w3 ⟨p3, rfl, N3⟩
      have c3 := N3.ch
      have e3 := N3.p; have z3 := N3.size
      have b22 := Bk.new N3
      refine VO.mv (Rn.assign rfl) rfl rfl rfl (VO.nil (VQ.then_code (VC.seq (VC.region (VO.mv (Rn.move rfl) rfl rfl rfl (VO.mv (Rn.move rfl) rfl rfl rfl (VO.mv (Rn.move rfl) rfl rfl rfl ?_)))))))
      refine VO.mv (Rn.move rfl) rfl rfl rfl (VO.mv (Rn.nilCheck rfl) rfl rfl rfl (VO.mv (Rn.field Tryz.underlying70 rfl Tryz.sizeOf51 rfl rfl rfl) rfl rfl rfl (VO.mv (Rn.field Tryz.underlying51 rfl Tryz.sizeOf3 rfl rfl rfl) rfl rfl rfl (VO.wk0 (Wk.put Tryz.sizeOf3 rfl rfl rfl rfl b22 rfl) rfl rfl ?_))))
      intro _ w4 Z4
      have c4 := Z4.ch; have z4 := Z4.size
      have b22_4 := Bk.put Z4
      refine VO.mv (Rn.nilCheck rfl) rfl rfl rfl (VO.mv (Rn.field Tryz.underlying70 rfl Tryz.sizeOf51 rfl rfl rfl) rfl rfl rfl (VO.mv (Rn.field Tryz.underlying51 rfl Tryz.sizeOf3 rfl rfl rfl) rfl rfl rfl (VO.wk0 (Wk.put Tryz.sizeOf3 rfl rfl rfl rfl b22_4 rfl) rfl rfl ?_)))
      intro _ w5 Z5
      have c5 := Z5.ch; have z5 := Z5.size
      have b22_5 := Bk.put Z5
      refine VO.nil (VQ.then_code (VC.seq ?_))
      have bbs : BB w5 p3 0 ({ ln := o.len, cl := 0, i0 := 0, ou := o.len, steps := [], acts := 0, fr := 0 } : Bld) := ⟨none, 0, b22_5, Ow.nil _ _ _⟩
      refine VC.region (VO.mv (Rn.move rfl) rfl rfl rfl (VO.mv (Rn.move rfl) rfl rfl rfl ?_))
      refine VO.mv (Rn.mul rfl rfl (by rw [IntKind.wrap_i64]; omega)) rfl rfl rfl ?_
      refine VO.wk (Wk.call Tryz.call32 rfl (bb_region _ _ ({ ln := o.len, cl := 0, i0 := 0, ou := o.len, steps := [], acts := 0, fr := 0 } : Bld) _ _ bbs ⟨by simp, by simp, by simp, by simp, by simp, by simp⟩ (by omega) (by omega))) rfl rfl rfl ?_
      rintro _ w6 ⟨rfl, bb6, c6⟩
      have z6 := c6.size
      refine VO.nil (VQ.then_code (VC.seq (VC.region (VO.mv (Rn.move rfl) rfl rfl rfl (VO.mv (Rn.build rfl (bld87_0_1_2w46 rfl)) rfl rfl rfl (VO.wk (Wk.alloc Tryz.zeroValue87) rfl rfl rfl ?_))))))
      rintro _ w7 ⟨p7, rfl, N7⟩
      have c7 := N7.ch
      have e7 := N7.p; have z7 := N7.size
      have b8 := Bk.new N7
      refine VO.wk0 (Wk.puts Tryz.sizeOf87 rfl rfl rfl rfl b8 (Nat.le_of_ble_eq_true rfl)) rfl rfl ?_
      intro _ w8 Z8
      have c8 := Z8.ch; have z8 := Z8.size
      have b8_8 := Bk.put Z8
      refine VO.nil (VQ.then_code (VC.seq (VC.seq (VC.region (VO.mv (Rn.move rfl) rfl rfl rfl (VO.mv (Rn.eql rfl rfl) rfl rfl rfl (VO.nil ?_)))))))
      refine VQ.then_code (VC.cond_if rfl (fun hc4 => ?_) (fun hc4 => ?_))
      · skip
        omega
      · skip
        refine VC.region (VO.mv (Rn.move rfl) rfl rfl rfl ?_)
        have cc_1_5 : Ch No w1 w5 := (Ch.then (E := No) (Ch.then (E := No) (c2.and c3) c4 (by intro q h1 h2; rcases h2 with h2 | h2 <;> first | exact h2 | (exfalso; omega))) c5 (by intro q h1 h2; rcases h2 with h2 | h2 <;> first | exact h2 | (exfalso; omega)))
        have b2_5 := b2.keep cc_1_5
        have b2_6 := b2_5.to c6 (by first | exact id | omega)
        have cc_6_8 : Ch No w6 w8 := (Ch.then (E := No) c7 c8 (by intro q h1 h2; rcases h2 with h2 | h2 <;> first | exact h2 | (exfalso; omega)))
        have b2_8 := b2_6.keep cc_6_8
        refine VO.mv (Rn.loads Tryz.isAgg38 Tryz.sizeOf38 rfl rfl (b2_8.all' rfl)) rfl rfl rfl (VO.mv (Rn.loads Tryz.isAgg87 Tryz.sizeOf87 rfl rfl (b8_8.all' rfl)) rfl rfl rfl (VO.wk (Wk.lit Tryz.underlying90 inf87w46 (by decide) rfl rfl (by rfl) (by decide) (by decide) (by rfl)) rfl rfl rfl ?_))
        rintro _ w9 ⟨p9, rfl, N9⟩
        have c9 := N9.ch
        have e9 := N9.p; have z9 := N9.size
        have l48 := SlR.of_new (sz := 3) (l := 1) N9 rfl
        have l48o := Ow.of_new (sz := 3) (l := 1) N9 rfl (by decide)
        have kd_5 := kd_1.keep cc_1_5
        have kd_6 := kd_5.to c6 (by first | exact fun _ _ _ _ => id | (intro q h1 h2 hx h3; omega))
        have cc_6_9 : Ch No w6 w9 := ((Ch.then (E := No) c7 c8 (by intro q h1 h2; rcases h2 with h2 | h2 <;> first | exact h2 | (exfalso; omega))).and c9)
        have kd_9 := kd_6.keep cc_6_9
        have bb_9 := bb6.keep cc_6_9
        have cc_0_5 : Ch No w w5 := (Ch.then (E := No) (Ch.then (E := No) ((c1.and c2).and c3) c4 (by intro q h1 h2; rcases h2 with h2 | h2 <;> first | exact h2 | (exfalso; omega))) c5 (by intro q h1 h2; rcases h2 with h2 | h2 <;> first | exact h2 | (exfalso; omega)))
        have st_5 := st.keep cc_0_5
        have st_6 := st_5.to c6 (by first | exact fun _ _ _ _ => id | (intro q h1 h2 hx h3; omega))
        have st_9 := st_6.keep cc_6_9
        refine VO.wk (Wk.call Tryz.call34 rfl (bb_wide o _ _ ⟨0, 1, o.len⟩ _ (bld0 o.len) _ _ _ _ _ kd_9 (by omega) (by omega) (by omega) (by omega) (by omega) bb_9 (bld0_ok (by omega) (by omega)) hf0 ho hgn l48 ⟨by omega, by omega, by omega⟩ (by rw [← hsl]; exact xok_top (by omega) (by omega)) st_9)) rfl rfl rfl ?_
        rintro _ w10 ⟨r10, rfl, bb10, y10, c10⟩
        have lb10 := bb10.lt
        have z10 := c10.size
        refine VO.nil (VQ.then_code (VC.seq (VC.seq (VC.region (VO.mv (Rn.move rfl) rfl rfl rfl (VO.wk (Wk.call Tryz.call35 rfl (bb_full _ _ _ _ bb10)) rfl rfl rfl ?_))))))
        rintro _ _ ⟨rfl, rfl⟩
        refine VO.nil (VQ.then_code (VC.cond rfl (fun hc5 => ?_) (fun hc5 => ?_)))
        · skip
          try simp only [Bool.and_eq_true, Bool.or_eq_true, Bool.not_eq_true', Bool.not_eq_false', Bool.and_eq_false_iff, Bool.or_eq_false_iff, decide_eq_true_eq, decide_eq_false_iff_not] at hc5
          exact absurd hc5 (by rw [← buildM_leaf hl ho, hf]; simp)
        · skip
          try simp only [Bool.and_eq_true, Bool.or_eq_true, Bool.not_eq_true', Bool.not_eq_false', Bool.and_eq_false_iff, Bool.or_eq_false_iff, decide_eq_true_eq, decide_eq_false_iff_not] at hc5
          refine VC.skip (VQ.then_code (VC.seq (VC.region (VO.mv (Rn.move rfl) rfl rfl rfl (VO.mv (Rn.assign rfl) rfl rfl rfl (VO.mv (Rn.assign rfl) rfl rfl rfl (VO.nil ?_)))))))
          refine VQ.then_code (VC.ret (VQ.ret2 rfl rfl rfl (Ret.mk ?_)))
          have CH_5 := (Ch.refl (No) w).and cc_0_5
          have CH_6 : Ch (No) w w6 := CH_5.then c6 (by intro q h1 h2; rcases h2 with h2 | h2 <;> first | exact h2 | (exfalso; omega) | omega)
          have CH_9 := CH_6.and cc_6_9
          have CH_10 : Ch (No) w w10 := CH_9.then c10 (by intro q h1 h2; rcases h2 with h2 | h2 <;> first | exact h2 | (exfalso; omega) | omega)
          exact ⟨_, r10, rfl, by rw [buildM_leaf hl ho]; exact bb10, by omega, by omega, CH_10⟩

set_option maxHeartbeats 1000000 in
set_option maxRecDepth 100000 in
theorem c_ProgramW (o : Ord) (A : Option Addr) (c lo hi : Nat) (w : World) (kd : RdK (In lo hi) w A o.kids) (hh : hi ≤ w.heap.size) (hl : o.len ≠ 0) (ho : o.kind = 1 ∨ o.kind = 2) (hf : (buildM o).full = false) (st : StT w) (hG : 11 ≤ w.heap.size) :
    Calls Tryz.prog 16 #[ordV o A c, .int .i64 1] w (Ret (fun v w' => ∃ SA sc, v = .tuple #[.agg #[.int .i64 (buildM o).ln, .int .i64 (buildM o).cl, .int .i64 (buildM o).i0, .int .i64 (buildM o).ou, .slice SA (buildM o).steps.length sc], .nilIface] ∧ SlR (In w.heap.size w'.heap.size) w' SA (buildM o).steps.length 7 (flatS (buildM o).steps) ∧ Ch No w w')) := by
  refine calls_of_VC (args := [ordV o A c, .int .i64 1]) Tryz.func16 rfl Tryz.ntmps16 rfl (VC.seq (VC.region (VO.wk (Wk.box rfl) rfl rfl rfl ?_)))
  rintro _ w1 ⟨p1, rfl, N1⟩
  have c1 := N1.ch
  have e1 := N1.p; have z1 := N1.size
  have b2 := Bk.new N1
  refine VO.wk (Wk.alloc Tryz.zeroValue51) rfl rfl rfl ?_
  rintro _ w2 ⟨p2, rfl, N2⟩
  have c2 := N2.ch
  have e2 := N2.p; have z2 := N2.size
  have b4 := Bk.new N2
  refine VO.mv (Rn.assign rfl) rfl rfl rfl (VO.nil (VQ.then_code (VC.seq (VC.region ?_))))
  have b2_2 := b2.keep c2
  refine VO.mv (Rn.loads Tryz.isAgg38 Tryz.sizeOf38 rfl rfl (b2_2.all' rfl)) rfl rfl rfl (VO.mv (Rn.move rfl) rfl rfl rfl ?_)
  have kd_2 := kd.keep (c1.trans c2)
  have st_2 := st.keep (c1.trans c2)
  refine VO.wk (Wk.call Tryz.call22 rfl (c_buildW _ _ _ _ _ _ kd_2 (by omega) hl ho hf st_2 (by omega))) rfl rfl rfl ?_
  rintro _ w3 ⟨q3, r3, rfl, bb3, yq3, yr3, c3⟩
  have lb3 := bb3.lt
  obtain ⟨bA3, bC3, bk3, rw3⟩ := id bb3
  have z3 := c3.size
  refine VO.mv (Rn.move rfl) rfl rfl rfl (VO.mv (Rn.extract rfl rfl) rfl rfl rfl (VO.mv (Rn.extract rfl rfl) rfl rfl rfl (VO.mv (Rn.assign rfl) rfl rfl rfl (VO.mv (Rn.assign rfl) rfl rfl rfl (VO.nil (VQ.then_code (VC.seq ?_)))))))
  refine VC.seq (VC.region (VO.mv (Rn.move rfl) rfl rfl rfl (VO.mv (Rn.nil_neq_nil Tryz.underlying25 rfl) rfl rfl rfl (VO.nil (VQ.then_code (VC.cond_false rfl (VC.skip ?_)))))))
  refine VQ.then_code (VC.seq (VC.region (VO.mv (Rn.move rfl) rfl rfl rfl (VO.mv (Rn.nilCheck rfl) rfl rfl rfl (VO.mv (Rn.field Tryz.underlying70 rfl Tryz.sizeOf51 rfl rfl rfl) rfl rfl rfl (VO.mv (Rn.loads Tryz.isAgg51 Tryz.sizeOf51 rfl rfl (bk3.part 5 rfl)) rfl rfl rfl ?_))))))
  have b4_3 := b4.keep c3
  refine VO.wk0 (Wk.puts Tryz.sizeOf51 rfl rfl rfl rfl b4_3 (Nat.le_of_ble_eq_true rfl)) rfl rfl ?_
  intro _ w4 Z4
  have c4 := Z4.ch; have z4 := Z4.size
  have b4_4 := Bk.put Z4
  refine VO.mv (Rn.assign rfl) rfl rfl rfl (VO.nil (VQ.then_code (VC.ret (VQ.retct rfl rfl Tryz.isAgg51 Tryz.sizeOf51 rfl (b4_4.all' rfl) rfl (Ret.mk ?_)))))
  have cc_0_4 : Ch No w w4 := (Ch.then (E := No) ((c1.and c2).and c3) c4 (by intro q h1 h2; rcases h2 with h2 | h2 <;> first | exact h2 | (exfalso; omega)))
  have CH_4 := (Ch.refl (No) w).and cc_0_4
  have row_4 := rw3.to c4 (by first | exact fun _ _ _ _ => id | (intro q h1 h2 hx h3; omega))
  have zz := CH_4.size; have yl := row_4.lt
  exact ⟨_, _, rfl, row_4.sl.weak (fun y h => ⟨by omega, by omega⟩), CH_4⟩

set_option maxRecDepth 100000 in
theorem word_wide (w : World) :
    Calls Tryz.prog 14 #[.int .i64 1] w (Ret (fun v w' => v = .string ⟨#[119, 105, 100, 101]⟩ ∧ w = w')) := by
  refine calls_of_VC (args := [.int .i64 1]) Tryz.func14 rfl Tryz.ntmps14 rfl (VC.seq (VC.region (VO.mv (Rn.assign rfl) rfl rfl rfl (VO.nil (VQ.then_code (VC.seq (VC.seq ?_)))))))
  refine VC.region (VO.mv (Rn.move rfl) rfl rfl rfl (VO.nil (VQ.then_code (VC.block (VC.seq (VC.region (VO.mv (Rn.eql rfl rfl) rfl rfl rfl ?_)))))))
  refine VO.mv (Rn.assign rfl) rfl rfl rfl (VO.nil (VQ.then_code (VC.cond_if rfl (fun hc1 => ?_) (fun hc1 => ?_))))
  · skip
    omega
  · skip
    refine VC.seq (VC.region (VO.mv (Rn.eql rfl rfl) rfl rfl rfl (VO.mv (Rn.assign rfl) rfl rfl rfl (VO.nil (VQ.then_code (VC.cond_if rfl (fun hc2 => ?_) (fun hc2 => ?_)))))))
    · skip
      refine VC.seq (VC.region (VO.mv (Rn.assign rfl) rfl rfl rfl (VO.nil (VQ.then_code (VC.ret (VQ.block_ret (VQ.then_ret ?_)))))))
      refine VQ.ret1 rfl rfl (Ret.mk ?_)
      exact ⟨rfl, rfl⟩
    · skip
      exact absurd rfl hc2

set_option maxHeartbeats 1000000 in
set_option maxRecDepth 100000 in
theorem plan_OfW (o : Ord) (A : Option Addr) (c lo hi : Nat) (w : World) (kd : RdK (In lo hi) w A o.kids) (hh : hi ≤ w.heap.size) (ho : o.kind = 1 ∨ o.kind = 2) (hl : o.len ≠ 0) (hf : (buildM o).full = false) (st : StT w) (tab : TabB w.heap.size w) (hG : 11 ≤ w.heap.size) :
    Calls Tryz.prog 8 #[ordV o A c, .int .i64 1] w (Ret (fun v w' => ∃ p, v = .tuple #[.pointer (some ⟨p, 0, none⟩), .nilIface] ∧ PlnR w.heap.size w'.heap.size w' p (plnW o) ∧ Ch No w w')) := by
  have hg := (GO.of_len hl).okO
  have hg0 := hl
  have htb := tx_bd hl
  have hx := htb.1
  have hle : (tx o).length ≤ 900000 := by omega
  refine calls_of_VC (args := [ordV o A c, .int .i64 1]) Tryz.func8 rfl Tryz.ntmps8 rfl (VC.seq (VC.region (VO.wk (Wk.box rfl) rfl rfl rfl ?_)))
  rintro _ w1 ⟨p1, rfl, N1⟩
  have c1 := N1.ch
  have e1 := N1.p; have z1 := N1.size
  have b2 := Bk.new N1
  refine VO.mv (Rn.assign rfl) rfl rfl rfl (VO.mv (Rn.assign rfl) rfl rfl rfl (VO.nil (VQ.then_code (VC.seq (VC.seq (VC.region (VO.mv (Rn.move rfl) rfl rfl rfl ?_)))))))
  refine VO.wk (Wk.call Tryz.call14 rfl (word_wide _)) rfl rfl rfl ?_
  rintro _ _ ⟨rfl, rfl⟩
  refine VO.mv (Rn.str_eql rfl rfl) rfl rfl rfl (VO.nil (VQ.then_code (VC.cond rfl (fun hc1 => ?_) (fun hc1 => ?_))))
  · skip
    try simp only [Bool.and_eq_true, Bool.or_eq_true, Bool.not_eq_true', Bool.not_eq_false', Bool.and_eq_false_iff, Bool.or_eq_false_iff, decide_eq_true_eq, decide_eq_false_iff_not] at hc1
    cases (hc1.symm.trans (show _ = false by kernel_rfl))
  · skip
    try simp only [Bool.and_eq_true, Bool.or_eq_true, Bool.not_eq_true', Bool.not_eq_false', Bool.and_eq_false_iff, Bool.or_eq_false_iff, decide_eq_true_eq, decide_eq_false_iff_not] at hc1
    refine VC.skip (VQ.then_code (VC.seq (VC.region (VO.mv (Rn.loads Tryz.isAgg38 Tryz.sizeOf38 rfl rfl (b2.all' rfl)) rfl rfl rfl ?_))))
    have kd_1 := kd.keep c1
    have tab_1 := tab.keep c1
    refine VO.wk (Wk.call Tryz.call15 rfl (order_Text _ _ _ _ _ _ kd_1 (by omega) hg hg0 hx hle ((tab_1).up (by omega)))) rfl rfl rfl ?_
    rintro _ w2 ⟨rfl, c2⟩
    have z2 := c2.size
    refine VO.mv (Rn.move rfl) rfl rfl rfl (VO.mv (Rn.extract rfl rfl) rfl rfl rfl (VO.mv (Rn.extract rfl rfl) rfl rfl rfl (VO.mv (Rn.assign rfl) rfl rfl rfl (VO.mv (Rn.assign rfl) rfl rfl rfl (VO.nil (VQ.then_code (VC.seq ?_)))))))
    refine VC.seq (VC.region (VO.mv (Rn.move rfl) rfl rfl rfl (VO.mv (Rn.nil_neq_nil Tryz.underlying25 rfl) rfl rfl rfl (VO.nil (VQ.then_code (VC.cond_false rfl (VC.skip ?_)))))))
    refine VQ.then_code (VC.seq (VC.region ?_))
    have b2_2 := b2.keep c2
    refine VO.mv (Rn.loads Tryz.isAgg38 Tryz.sizeOf38 rfl rfl (b2_2.all' rfl)) rfl rfl rfl (VO.mv (Rn.move rfl) rfl rfl rfl ?_)
    have kd_2 := kd_1.keep c2
    have st_2 := st.keep (c1.trans c2)
    refine VO.wk (Wk.call Tryz.call16 rfl (c_ProgramW _ _ _ _ _ _ kd_2 (by omega) hl ho hf st_2 (by omega))) rfl rfl rfl ?_
    rintro _ w3 ⟨sA3, sC3, rfl, ss3, c3⟩
    have z3 := c3.size
    refine VO.mv (Rn.move rfl) rfl rfl rfl (VO.mv (Rn.extract rfl rfl) rfl rfl rfl (VO.mv (Rn.extract rfl rfl) rfl rfl rfl (VO.wk (Wk.alloc Tryz.zeroValue51) rfl rfl rfl ?_)))
    rintro _ w4 ⟨p4, rfl, N4⟩
    have c4 := N4.ch
    have e4 := N4.p; have z4 := N4.size
    have b8 := Bk.new N4
    refine VO.wk0 (Wk.puts Tryz.sizeOf51 rfl rfl rfl rfl b8 (Nat.le_of_ble_eq_true rfl)) rfl rfl ?_
    intro _ w5 Z5
    have c5 := Z5.ch; have z5 := Z5.size
    have b8_5 := Bk.put Z5
    refine VO.mv (Rn.assign rfl) rfl rfl rfl (VO.nil (VQ.then_code (VC.seq (VC.seq (VC.region (VO.mv (Rn.move rfl) rfl rfl rfl (VO.mv (Rn.nil_neq_nil Tryz.underlying25 rfl) rfl rfl rfl ?_)))))))
    refine VO.nil (VQ.then_code (VC.cond_false rfl (VC.skip (VQ.then_code (VC.seq (VC.draws 12 [(0, true), (2, true), (3, true), (4, true), (7, true), (1, false), (5, false), (6, true), (8, true), (9, true), (10, false), (11, true)] (fun w1 w' => Ch (No) w1 w') mixed (by kernel_rfl) (fun _ _ => Ch.refl _ _) ?_))))))
    intro w6 D6
    have c6 := Ch.of_drew D6; have z6 := c6.size
    have cc_2_6 : Ch No w2 w6 := ((Ch.then (E := No) (c3.and c4) c5 (by intro q h1 h2; rcases h2 with h2 | h2 <;> first | exact h2 | (exfalso; omega))).and c6)
    have b2_6 := b2_2.keep cc_2_6
    have cc_3_6 : Ch No w3 w6 := ((Ch.then (E := No) c4 c5 (by intro q h1 h2; rcases h2 with h2 | h2 <;> first | exact h2 | (exfalso; omega))).and c6)
    have ss_6 := ss3.keep cc_3_6
    have b8_6 := b8_5.keep c6
    refine VH.mv (fun w' hS => Rn.loads Tryz.isAgg38 Tryz.sizeOf38 rfl rfl ((b2_6.keep hS).all' rfl)) rfl rfl rfl rfl (VH.mv (fun w' hS => Rn.move rfl) rfl rfl rfl rfl (VH.mv (fun w' hS => Rn.loads Tryz.isAgg51 Tryz.sizeOf51 rfl rfl ((b8_6.keep hS).all' rfl)) rfl rfl rfl rfl (VH.mv (fun w' hS => Rn.move rfl) rfl rfl rfl rfl (VH.mv (fun w' hS => Rn.move rfl) rfl rfl rfl rfl ?_))))
    have kd_6 := kd_2.keep cc_2_6
    refine VH.wk (Wk.call Tryz.call17 rfl (plan_copied _ _ _ _ _ _ _ (Nat.lt_succ_self _) kd_6 (by omega))) rfl rfl rfl rfl ?_
    rintro _ w7 ⟨nA7, nc7, rfl, kn7, c7⟩
    have z7 := c7.size
    have RD_7 := (Ch.refl (No) w6).and c7
    refine ⟨RD_7, ?_⟩
    refine VH.wk (Wk.call Tryz.call14 rfl (word_wide _)) rfl rfl rfl rfl ?_
    rintro _ _ ⟨rfl, rfl⟩
    refine ⟨RD_7, ?_⟩
    refine VH.mv (fun w' hS => Rn.str_cat rfl rfl (by decide)) rfl rfl rfl rfl ?_
    refine VH.mv (fun w' hS => Rn.str_cat rfl rfl (by simp [ByteArray.size]; omega)) rfl rfl rfl rfl ?_
    refine VH.mv (fun w' hS => Rn.build (v := .agg #[.int .i64 o.kind, .int .i64 o.n, .slice nA7 o.kids.length nc7, .int .i64 1, .int .i64 (buildM o).ln, .int .i64 (buildM o).cl, .int .i64 (buildM o).i0, .int .i64 (buildM o).ou, .slice sA3 (buildM o).steps.length sC3, .string (wideT o)]) rfl (bld53_0_1_2_3w46 rfl)) rfl rfl rfl rfl (VH.wk (Wk.box rfl) rfl rfl rfl rfl ?_)
    rintro _ w8 ⟨p8, rfl, N8⟩
    have c8 := N8.ch
    have e8 := N8.p; have z8 := N8.size
    have b40 := Bk.new N8
    have RD_8 := RD_7.and c8
    refine ⟨RD_8, ?_⟩
    refine VH.mv (fun w' hS => Rn.assign rfl) rfl rfl rfl rfl (VH.done (VO.mv (Rn.assign rfl) rfl rfl rfl (VO.nil (VQ.noPanic (VQ.then_code (VC.ret (VQ.ret2 rfl rfl rfl ?_)))))))
    refine Ret.mk ?_
    have cc_0_8 : Ch No w w8 := ((((Ch.then (E := No) (((c1.and c2).and c3).and c4) c5 (by intro q h1 h2; rcases h2 with h2 | h2 <;> first | exact h2 | (exfalso; omega))).and c6).and c7).and c8)
    have CH_8 := (Ch.refl (No) w).and cc_0_8
    have zz := CH_8.size
    have kn_8 := kn7.keep c8
    have ss_8 := ss_6.keep (c7.trans c8)
    exact ⟨_, rfl, ⟨⟨_, _, _, _, b40, (kn_8).weak (fun y h => ⟨by omega, by omega⟩), (ss_8).weak (fun y h => ⟨by omega, by omega⟩)⟩, by omega, by omega⟩, CH_8⟩

end Go.Tm
namespace Go.Tm
open Ieee
/-- The word of a whole number below 2^53. -/
def wd (s : Bool) (c : Nat) : Nat := (if s then 2 ^ 63 else 0) + (if c = 0 then 0 else (1022 + c.log2) * 2 ^ 52 + c * 2 ^ (52 - c.log2))
theorem log2_bd {c : Nat} (h0 : c ≠ 0) (h : c < 2 ^ 53) : c.log2 ≤ 52 ∧ 2 ^ 52 ≤ c * 2 ^ (52 - c.log2) ∧ c * 2 ^ (52 - c.log2) < 2 ^ 53 := by
  have h1 : 2 ^ c.log2 ≤ c := Nat.log2_self_le h0
  have h2 : c < 2 ^ (c.log2 + 1) := Nat.lt_log2_self
  have h3 : c.log2 ≤ 52 := by
    have : c.log2 < 53 := (Nat.log2_lt h0).2 h
    omega
  refine ⟨h3, ?_, ?_⟩
  · have := Nat.mul_le_mul_right (2 ^ (52 - c.log2)) h1
    rw [← Nat.pow_add, show c.log2 + (52 - c.log2) = 52 by omega] at this
    exact this
  · have := Nat.mul_lt_mul_of_pos_right h2 (Nat.two_pow_pos (52 - c.log2))
    rw [← Nat.pow_add, show c.log2 + 1 + (52 - c.log2) = 53 by omega] at this
    exact this
theorem read_wd (s : Bool) {c : Nat} (h : c < 2 ^ 53) : ∃ k : Nat, double.read (wd s c) = .number s (c * 2 ^ k) (-(k : Int)) ∧ (c ≠ 0 → k + c.log2 = 52) ∧ k ≤ 1074 := by
  by_cases h0 : c = 0
  · subst h0
    refine ⟨1074, ?_, fun h => absurd rfl h, by omega⟩
    generalize (2 : Nat) ^ 1074 = X
    rw [Nat.zero_mul]
    cases s <;> decide
  · obtain ⟨h1, h2, h3⟩ := log2_bd h0 h
    refine ⟨52 - c.log2, ?_, fun _ => by omega, by omega⟩
    have e1 : double.signWeight = 2 ^ 63 := rfl
    have e2 : double.binade = 2 ^ 52 := rfl
    have e3 : double.infRung = (2 ^ 11 - 1) * 2 ^ 52 := rfl
    have e4 : double.leastPlace = -1074 := rfl
    unfold wd
    rw [if_neg h0]
    generalize c * 2 ^ (52 - c.log2) = K at *
    generalize c.log2 = L at *
    unfold Format.read
    simp only [e1, e2, e3, e4]
    have r1 : ((if s = true then 2 ^ 63 else 0) + ((1022 + L) * 2 ^ 52 + K)) % 2 ^ 63 = (1022 + L) * 2 ^ 52 + K := by split <;> omega
    have r2 : (((if s = true then 2 ^ 63 else 0) + ((1022 + L) * 2 ^ 52 + K)) / 2 ^ 63 % 2 == 1) = s := by cases s <;> simp <;> omega
    rw [r1, r2, if_neg (by omega), if_pos (by omega)]
    have r3 : ((1022 + L) * 2 ^ 52 + K) % 2 ^ 52 = K - 2 ^ 52 := by omega
    have r4 : ((1022 + L) * 2 ^ 52 + K) / 2 ^ 52 = 1023 + L := by omega
    have r5 : 2 ^ 52 + (K - 2 ^ 52) = K := by omega
    have r6 : (-1074 : Int) + ((1023 + L - 1 : Nat) : Int) = -((52 - L : Nat) : Int) := by omega
    rw [r3, r4, r5, r6]
theorem cut_whole (s : Bool) {A d n : Nat} (hn : n = A * 2 ^ d) (hd : d ≤ n.log2 + 2) : Toward.even.cut s n d = A := by
  have h2 := Nat.two_pow_pos d
  have e1 : n / 2 ^ d = A := by rw [hn]; exact Nat.mul_div_cancel _ h2
  have e2 : n % 2 ^ d = 0 := by rw [hn]; exact Nat.mul_mod_left _ _
  unfold Toward.cut
  rw [Nat.min_eq_left hd, Nat.one_shiftLeft]
  simp only [e1, e2]
  have : ¬ (2 ^ d < 0) ∧ ¬ (2 ^ d = 0) := by omega
  simp
theorem log2_mul_pow (c k : Nat) (h : c ≠ 0) : (c * 2 ^ k).log2 = c.log2 + k := by
  have h1 : 2 ^ c.log2 ≤ c := Nat.log2_self_le h
  have h2 : c < 2 ^ (c.log2 + 1) := Nat.lt_log2_self
  have h3 : c * 2 ^ k ≠ 0 := by have := Nat.two_pow_pos k; exact Nat.mul_ne_zero h (by omega)
  have a1 := Nat.mul_le_mul_right (2 ^ k) h1
  have a2 := Nat.mul_lt_mul_of_pos_right h2 (Nat.two_pow_pos k)
  rw [← Nat.pow_add] at a1 a2
  have b1 : c.log2 + k ≤ (c * 2 ^ k).log2 := (Nat.le_log2 h3).2 a1
  have b2 : (c * 2 ^ k).log2 < c.log2 + 1 + k := (Nat.log2_lt h3).2 a2
  omega
theorem nearest_wd (s : Bool) {c M k : Nat} (h : c < 2 ^ 53) (hM : M = c * 2 ^ k) : double.nearest s M (-(k : Int)) = wd s c := by
  have e1 : double.signWeight = 2 ^ 63 := rfl
  by_cases h0 : c = 0
  · subst h0
    rw [Nat.zero_mul] at hM; subst hM
    simp [Format.nearest, wd, Format.word, e1]
  · obtain ⟨h1, h2, h3⟩ := log2_bd h0 h
    have hM0 : M ≠ 0 := by rw [hM]; have := Nat.two_pow_pos k; exact Nat.mul_ne_zero h0 (by omega)
    have hL : M.log2 = c.log2 + k := by rw [hM]; exact log2_mul_pow c k h0
    have e2 : double.fractionBits = 52 := rfl
    have e3 : double.infRung = (2 ^ 11 - 1) * 2 ^ 52 := rfl
    have e4 : double.leastPlace = -1074 := rfl
    have e5 : double.binade = 2 ^ 52 := rfl
    unfold Format.nearest
    rw [if_neg hM0, hL, e2, e3, e4, e5]
    have hl : max (-(k : Int) + ((c.log2 + k : Nat) : Int) - ((52 : Nat) : Int)) (-1074) = (c.log2 : Int) - 52 := by omega
    rw [hl]
    have hcut : Toward.even.cut s (M <<< (-(k : Int) - ((c.log2 : Int) - 52)).toNat) ((c.log2 : Int) - 52 - -(k : Int)).toNat = c * 2 ^ (52 - c.log2) := by
      by_cases hk : 52 - c.log2 ≤ k
      · rw [show (-(k : Int) - ((c.log2 : Int) - 52)).toNat = 0 by omega, show ((c.log2 : Int) - 52 - -(k : Int)).toNat = k - (52 - c.log2) by omega, Nat.shiftLeft_zero]
        refine cut_whole s ?_ (by omega)
        rw [hM, Nat.mul_assoc, ← Nat.pow_add, show 52 - c.log2 + (k - (52 - c.log2)) = k by omega]
      · rw [show ((c.log2 : Int) - 52 - -(k : Int)).toNat = 0 by omega, show (-(k : Int) - ((c.log2 : Int) - 52)).toNat = 52 - c.log2 - k by omega]
        refine cut_whole s ?_ (by omega)
        rw [hM, Nat.shiftLeft_eq, Nat.mul_assoc, ← Nat.pow_add, show k + (52 - c.log2 - k) = 52 - c.log2 by omega, Nat.pow_zero, Nat.mul_one]
    show double.word s (min (((c.log2 : Int) - 52 - -1074).toNat * 2 ^ 52 + Toward.even.cut s (M <<< (-(k : Int) - ((c.log2 : Int) - 52)).toNat) ((c.log2 : Int) - 52 - -(k : Int)).toNat) ((2 ^ 11 - 1) * 2 ^ 52)) = _
    rw [hcut]
    unfold wd
    rw [if_neg h0]
    simp only [Format.word, e1]
    generalize c * 2 ^ (52 - c.log2) = K at *
    generalize c.log2 = L at *
    rw [show ((L : Int) - 52 - -1074).toNat = 1022 + L by omega, Nat.min_eq_left (show (1022 + L) * 2 ^ 52 + K ≤ (2 ^ 11 - 1) * 2 ^ 52 by omega)]
    cases s <;> simp
/-- A datum that is a whole number. -/
def DW (d : Datum) (a : Int) : Prop := ∃ (s : Bool) (k : Nat), d = .number s (a.natAbs * 2 ^ k) (-(k : Int)) ∧ (a ≠ 0 → s = decide (a < 0)) ∧ k ≤ 1074 ∧ (a ≠ 0 → k + a.natAbs.log2 = 52)
/-- A float that is a whole number; a nought of either sign. -/
def Wh (x : Fl) (a : Int) : Prop := ∃ s : Bool, x = some (wd s a.natAbs) ∧ (a ≠ 0 → s = decide (a < 0))
/-- Below 2^53. -/
def Sm (a : Int) : Prop := a.natAbs < 2 ^ 53
theorem Wh.dw {x : Fl} {a : Int} (h : Wh x a) (ha : Sm a) : ∃ b, x = some b ∧ DW (double.read b) a := by
  obtain ⟨s, rfl, hs⟩ := h
  obtain ⟨k, e, h1, h2⟩ := read_wd s ha
  exact ⟨_, rfl, s, k, e, hs, h2, fun h => h1 (by omega)⟩
theorem signed_val {s : Bool} {a : Int} (hs : a ≠ 0 → s = decide (a < 0)) (k u : Nat) : signed s (a.natAbs * 2 ^ k) u = a * 2 ^ (k + u) := by
  have e : ((a.natAbs * 2 ^ k * 2 ^ u : Nat) : Int) = (a.natAbs : Int) * 2 ^ (k + u) := by
    rw [Nat.mul_assoc, ← Nat.pow_add]; push_cast; rfl
  unfold signed
  rw [Nat.shiftLeft_eq, e]
  by_cases h : a = 0
  · subst h; simp
  · have := hs h
    subst this
    by_cases h2 : a < 0
    · rw [if_pos (by simpa using h2), show (a.natAbs : Int) = -a by omega, Int.neg_mul, Int.neg_neg]
    · rw [if_neg (by simpa using h2), show (a.natAbs : Int) = a by omega]
theorem natAbs_pow (a : Int) (k : Nat) : (a * 2 ^ k).natAbs = a.natAbs * 2 ^ k := by
  rw [Int.natAbs_mul, Int.natAbs_pow]; rfl
theorem two_pow_posI (k : Nat) : (0 : Int) < 2 ^ k := by have := Nat.two_pow_pos k; exact_mod_cast this
theorem mulp_neg {a : Int} (k : Nat) : (a * 2 ^ k < 0) ↔ a < 0 := by
  have := two_pow_posI k
  constructor
  · intro h
    by_cases h2 : a < 0
    · exact h2
    · have := Int.mul_nonneg (show 0 ≤ a by omega) (show (0 : Int) ≤ 2 ^ k by omega)
      omega
  · intro h; exact Int.mul_neg_of_neg_of_pos h this
theorem mulp_zero {a : Int} (k : Nat) : (a * 2 ^ k = 0) ↔ a = 0 := by
  have := two_pow_posI k
  rw [Int.mul_eq_zero]
  omega
theorem sum_wh {x y : Datum} {a b : Int} (hx : DW x a) (hy : DW y b) (hc : Sm (a + b)) : ∃ d, x.sum y = some d ∧ Wh (some (double.write d)) (a + b) := by
  obtain ⟨s, k, rfl, hs, -, -⟩ := hx
  obtain ⟨t, l, rfl, ht, -, -⟩ := hy
  refine ⟨_, rfl, ?_⟩
  have main : ∀ K : Nat, min (-(k : Int)) (-(l : Int)) = -(K : Int) → k ≤ K → l ≤ K → Wh (some (double.write (.number (if signed s (a.natAbs * 2 ^ k) (-(k : Int) - min (-(k : Int)) (-(l : Int))).toNat + signed t (b.natAbs * 2 ^ l) (-(l : Int) - min (-(k : Int)) (-(l : Int))).toNat = 0 then s && t else decide (signed s (a.natAbs * 2 ^ k) (-(k : Int) - min (-(k : Int)) (-(l : Int))).toNat + signed t (b.natAbs * 2 ^ l) (-(l : Int) - min (-(k : Int)) (-(l : Int))).toNat < 0)) (signed s (a.natAbs * 2 ^ k) (-(k : Int) - min (-(k : Int)) (-(l : Int))).toNat + signed t (b.natAbs * 2 ^ l) (-(l : Int) - min (-(k : Int)) (-(l : Int))).toNat).natAbs (min (-(k : Int)) (-(l : Int)))))) (a + b) := by
    intro K h1 h2 h3
    rw [h1, show (-(k : Int) - -(K : Int)).toNat = K - k by omega, show (-(l : Int) - -(K : Int)).toNat = K - l by omega, signed_val hs, signed_val ht, show k + (K - k) = K by omega, show l + (K - l) = K by omega, ← Int.add_mul]
    simp only [mulp_neg, mulp_zero, natAbs_pow]
    refine ⟨if a + b = 0 then s && t else decide (a + b < 0), ?_, fun h => if_neg h⟩
    show some (double.nearest _ _ _) = _
    rw [nearest_wd _ hc rfl]
  exact main (max k l) (by omega) (by omega) (by omega)
theorem DW.opposite {x : Datum} {a : Int} (h : DW x a) : DW x.opposite (-a) := by
  obtain ⟨s, k, rfl, hs, hk, hl⟩ := h
  refine ⟨!s, k, by simp [Datum.opposite], fun h => ?_, hk, fun h => by rw [Int.natAbs_neg]; exact hl (by omega)⟩
  rw [hs (by omega)]
  by_cases h2 : a < 0
  · rw [decide_eq_true h2, decide_eq_false (by omega)]; rfl
  · rw [decide_eq_false h2, decide_eq_true (by omega)]; rfl
theorem Wh.add {x y : Fl} {a b : Int} (hx : Wh x a) (hy : Wh y b) (ha : Sm a) (hb : Sm b) (hc : Sm (a + b)) : Wh (fadd x y) (a + b) := by
  obtain ⟨u, rfl, hu⟩ := hx.dw ha
  obtain ⟨v, rfl, hv⟩ := hy.dw hb
  obtain ⟨d, e, hd⟩ := sum_wh hu hv hc
  show Wh (((double.read u).sum (double.read v)).map double.write) _
  rw [e]; exact hd
theorem Wh.sub {x y : Fl} {a b : Int} (hx : Wh x a) (hy : Wh y b) (ha : Sm a) (hb : Sm b) (hc : Sm (a - b)) : Wh (fsub x y) (a - b) := by
  obtain ⟨u, rfl, hu⟩ := hx.dw ha
  obtain ⟨v, rfl, hv⟩ := hy.dw hb
  obtain ⟨d, e, hd⟩ := sum_wh hu hv.opposite (by rw [← Int.sub_eq_add_neg]; exact hc)
  show Wh (((double.read u).sum (double.read v).opposite).map double.write) _
  rw [e, Int.sub_eq_add_neg]; exact hd
theorem Wh.mul {x y : Fl} {a b : Int} (hx : Wh x a) (hy : Wh y b) (ha : Sm a) (hb : Sm b) (hc : Sm (a * b)) : Wh (fmul x y) (a * b) := by
  obtain ⟨u, rfl, hu⟩ := hx.dw ha
  obtain ⟨v, rfl, hv⟩ := hy.dw hb
  obtain ⟨s, k, e, hs, -, -⟩ := hu
  obtain ⟨t, l, e', ht, -, -⟩ := hv
  show Wh (((double.read u).product (double.read v)).map double.write) _
  rw [e, e']
  refine ⟨s ^^ t, ?_, fun h => ?_⟩
  · show some (double.nearest (s ^^ t) (a.natAbs * 2 ^ k * (b.natAbs * 2 ^ l)) (-(k : Int) + -(l : Int))) = _
    rw [show (-(k : Int) + -(l : Int)) = -((k + l : Nat) : Int) by omega, nearest_wd (c := (a * b).natAbs) _ hc]
    rw [Int.natAbs_mul, Nat.pow_add]
    ac_rfl
  · have h1 : a ≠ 0 := fun h' => h (by rw [h', Int.zero_mul])
    have h2 : b ≠ 0 := fun h' => h (by rw [h', Int.mul_zero])
    rw [hs h1, ht h2]
    by_cases p : a < 0 <;> by_cases q : b < 0
    · have := Int.mul_pos_of_neg_of_neg p q
      simp [p, q]; omega
    · have := Int.mul_neg_of_neg_of_pos p (show 0 < b by omega)
      simp [p, q]; omega
    · have := Int.mul_neg_of_pos_of_neg (show 0 < a by omega) q
      simp [p, q]; omega
    · have := Int.mul_pos (show 0 < a by omega) (show 0 < b by omega)
      simp [p, q]; omega
/-- What is divided by a number that it is a multiple of. -/
theorem Wh.quo {x y : Fl} {a b q : Int} (hx : Wh x a) (hy : Wh y b) (ha : Sm a) (hb : Sm b) (hb0 : 0 < b) (hq : a = q * b) (hc : Sm q) : Wh (fquo x y) q := by
  obtain ⟨u, rfl, hu⟩ := hx.dw ha
  obtain ⟨v, rfl, hv⟩ := hy.dw hb
  obtain ⟨s, k, e, hs, hk, hl⟩ := hu
  obtain ⟨t, l, e', ht, hk', hl'⟩ := hv
  have ht' : t = false := by rw [ht (by omega)]; simp; omega
  subst ht'
  have hbn : b.natAbs ≠ 0 := by omega
  have hb2 : b.natAbs * 2 ^ l ≠ 0 := Nat.mul_ne_zero hbn (by have := Nat.two_pow_pos l; omega)
  have han : a.natAbs = q.natAbs * b.natAbs := by rw [hq, Int.natAbs_mul]
  show Wh (((double.read u).quotient (double.fractionBits + 2) (double.read v)).map double.write) _
  rw [e, e']
  have e2 : double.fractionBits + 2 = 54 := rfl
  rw [e2]
  show Wh (Option.map double.write (if b.natAbs * 2 ^ l = 0 then (if a.natAbs * 2 ^ k = 0 then none else some (.infinity (s ^^ false))) else some (.number (s ^^ false) (2 * ((a.natAbs * 2 ^ k) <<< (54 + (b.natAbs * 2 ^ l).log2 - (a.natAbs * 2 ^ k).log2) / (b.natAbs * 2 ^ l)) + ((a.natAbs * 2 ^ k) <<< (54 + (b.natAbs * 2 ^ l).log2 - (a.natAbs * 2 ^ k).log2) % (b.natAbs * 2 ^ l) != 0).toNat) (-(k : Int) - -(l : Int) - ((54 + (b.natAbs * 2 ^ l).log2 - (a.natAbs * 2 ^ k).log2 : Nat) : Int) - 1)))) q
  rw [if_neg hb2]
  simp only [Option.map_some, Bool.xor_false]
  refine ⟨s, ?_, fun h => ?_⟩
  · have hlb := hl' (by omega)
    have hlog : (b.natAbs * 2 ^ l).log2 = 52 := by rw [log2_mul_pow _ _ hbn]; omega
    rw [hlog]
    obtain ⟨more, hm⟩ : ∃ m, 54 + 52 - (a.natAbs * 2 ^ k).log2 = m := ⟨_, rfl⟩
    rw [hm]
    have hge : l ≤ k + more := by
      by_cases h0 : a = 0
      · subst h0; simp at hm; omega
      · have hla := hl h0
        have : (a.natAbs * 2 ^ k).log2 = 52 := by rw [log2_mul_pow _ _ (by omega)]; omega
        omega
    have hdiv : a.natAbs * 2 ^ k * 2 ^ more = q.natAbs * 2 ^ (k + more - l) * (b.natAbs * 2 ^ l) := by
      rw [han, Nat.mul_assoc (q.natAbs * b.natAbs), ← Nat.pow_add, show q.natAbs * 2 ^ (k + more - l) * (b.natAbs * 2 ^ l) = q.natAbs * b.natAbs * (2 ^ (k + more - l) * 2 ^ l) by ac_rfl, ← Nat.pow_add, show k + more - l + l = k + more by omega]
    have hpos : 0 < b.natAbs * 2 ^ l := by omega
    rw [Nat.shiftLeft_eq, hdiv, Nat.mul_div_cancel _ hpos, Nat.mul_mod_left]
    show some (double.nearest s (2 * (q.natAbs * 2 ^ (k + more - l)) + 0) (-(k : Int) - -(l : Int) - (more : Int) - 1)) = _
    rw [show (-(k : Int) - -(l : Int) - (more : Int) - 1) = -((k + more - l + 1 : Nat) : Int) by omega, nearest_wd (c := q.natAbs) _ hc]
    rw [Nat.pow_succ, Nat.add_zero]; ac_rfl
  · have h0 : a ≠ 0 := by rw [hq]; exact Int.mul_ne_zero h (by omega)
    rw [hs h0, hq]
    by_cases p : q < 0
    · have := Int.mul_neg_of_neg_of_pos p hb0; simp [p, this]
    · have := Int.mul_pos (show 0 < q by omega) hb0; simp [p]; omega
theorem wd_xor (s : Bool) {c : Nat} (h : c < 2 ^ 53) : wd s c ^^^ 2 ^ 63 = wd (!s) c := by
  have key : ∀ x, x < 2 ^ 63 → x ^^^ 2 ^ 63 = 2 ^ 63 + x := by
    intro x hx
    apply Nat.eq_of_testBit_eq
    intro i
    rw [Nat.testBit_xor, Nat.testBit_two_pow]
    by_cases hi : 63 = i
    · subst hi
      rw [Nat.testBit_two_pow_add_eq, Nat.testBit_lt_two_pow hx]; simp
    · by_cases hl : i < 63
      · rw [Nat.testBit_two_pow_add_gt hl]; simp [hi]
      · have h1 : x.testBit i = false := Nat.testBit_lt_two_pow (Nat.lt_of_lt_of_le hx (Nat.pow_le_pow_right (by omega) (by omega)))
        have h2 : (2 ^ 63 + x).testBit i = false := Nat.testBit_lt_two_pow (Nat.lt_of_lt_of_le (show 2 ^ 63 + x < 2 ^ 64 by omega) (Nat.pow_le_pow_right (by omega) (by omega)))
        rw [h1, h2]; simp [hi]
  have hlt : wd false c < 2 ^ 63 := by
    unfold wd
    simp only [Bool.false_eq_true, if_false, Nat.zero_add]
    split
    · simp
    · rename_i h0
      obtain ⟨h1, h2, h3⟩ := log2_bd h0 h
      simp; omega
  have e : wd true c = 2 ^ 63 + wd false c := by unfold wd; simp
  cases s
  · rw [key _ hlt]; exact e.symm
  · rw [e, ← key _ hlt, Nat.xor_assoc, Nat.xor_self, Nat.xor_zero]; rfl
theorem Wh.neg {x : Fl} {a : Int} (h : Wh x a) (ha : Sm a) : Wh (fneg x) (-a) := by
  obtain ⟨s, rfl, hs⟩ := h
  refine ⟨!s, ?_, fun h => ?_⟩
  · show some (wd s a.natAbs ^^^ 2 ^ 63) = _
    rw [wd_xor s ha, Int.natAbs_neg]
  · rw [hs (by omega)]
    by_cases h2 : a < 0
    · rw [decide_eq_true h2, decide_eq_false (by omega)]; rfl
    · rw [decide_eq_false h2, decide_eq_true (by omega)]; rfl
theorem Wh.of_int {a : Int} (ha : Sm a) : Wh (some (FloatKind.f64.nearest a)) a := by
  refine ⟨decide (a < 0), ?_, fun _ => rfl⟩
  show some (double.nearest (decide (a < 0)) a.natAbs 0) = _
  rw [show (0 : Int) = -((0 : Nat) : Int) from rfl, nearest_wd (c := a.natAbs) _ ha (by simp)]
/-- Whole numbers are told apart by Go's ==. -/
theorem Wh.order {u v : Nat} {a b : Int} (hx : Wh (some u) a) (hy : Wh (some v) b) (ha : Sm a) (hb : Sm b) : double.order u v = some (compare a b) := by
  obtain ⟨u', e, hu⟩ := hx.dw ha; cases e
  obtain ⟨v', e, hv⟩ := hy.dw hb; cases e
  obtain ⟨s, k, e, hs, -, -⟩ := hu
  obtain ⟨t, l, e', ht, -, -⟩ := hv
  unfold Format.order
  rw [e, e']
  show some (compare (signed s _ _) (signed t _ _)) = _
  have main : ∀ K : Nat, min (-(k : Int)) (-(l : Int)) = -(K : Int) → k ≤ K → l ≤ K → compare (signed s (a.natAbs * 2 ^ k) (-(k : Int) - min (-(k : Int)) (-(l : Int))).toNat) (signed t (b.natAbs * 2 ^ l) (-(l : Int) - min (-(k : Int)) (-(l : Int))).toNat) = compare a b := by
    intro K h1 h2 h3
    rw [h1, show (-(k : Int) - -(K : Int)).toNat = K - k by omega, show (-(l : Int) - -(K : Int)).toNat = K - l by omega, signed_val hs, signed_val ht, show k + (K - k) = K by omega, show l + (K - l) = K by omega]
    have hp := two_pow_posI K
    rcases Int.lt_trichotomy a b with h | h | h
    · rw [Int.compare_eq_lt.2 h, Int.compare_eq_lt.2 (Int.mul_lt_mul_of_pos_right h hp)]
    · rw [h]; simp
    · rw [Int.compare_eq_gt.2 h, Int.compare_eq_gt.2 (Int.mul_lt_mul_of_pos_right h hp)]
  rw [main (max k l) (by omega) (by omega) (by omega)]
end Go.Tm
