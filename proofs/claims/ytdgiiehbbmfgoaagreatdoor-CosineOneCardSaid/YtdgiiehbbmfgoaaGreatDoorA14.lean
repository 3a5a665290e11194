/- Lemmas of this claim, joined by program. Walks of functions: good programs. Walks of functions: machines made, loaded, read. Conditions: each lemma names its own. -/
import Derived.Test.YtdgiiehbbmfgoaaGreatDoorA13
set_option linter.all false
namespace Go.Tm
open Go.RowKit Go.Proofs
section
variable {P : Program} {n : Fr} {k : K} {w : World} {d : Option Tmp} {ty : TypeId} {pos : String} {aft : Array Edge} {g : Option (Nat × Bool)} {t t' : TypeId} {x y : Operand} {q : IntKind} {a b : Int}
theorem Rn.lssT (hx : ev k x = some (.int q a)) (hy : ev k y = some (.int q b)) (h : a < b) : Rn P n k w { dst := d, op := .binOp .lss t x y t', type := ty, pos := pos, after := aft, guard := g } (.bool true) := by
  have := Rn.lss (P := P) (n := n) (w := w) (d := d) (ty := ty) (pos := pos) (aft := aft) (g := g) (t := t) (t' := t') hx hy
  rwa [decide_eq_true h] at this
theorem Rn.leqT (hx : ev k x = some (.int q a)) (hy : ev k y = some (.int q b)) (h : a ≤ b) : Rn P n k w { dst := d, op := .binOp .leq t x y t', type := ty, pos := pos, after := aft, guard := g } (.bool true) := by
  have := Rn.leq (P := P) (n := n) (w := w) (d := d) (ty := ty) (pos := pos) (aft := aft) (g := g) (t := t) (t' := t') hx hy
  rwa [decide_eq_true h] at this
theorem Rn.geqT (hx : ev k x = some (.int q a)) (hy : ev k y = some (.int q b)) (h : b ≤ a) : Rn P n k w { dst := d, op := .binOp .geq t x y t', type := ty, pos := pos, after := aft, guard := g } (.bool true) := by
  have := Rn.geq (P := P) (n := n) (w := w) (d := d) (ty := ty) (pos := pos) (aft := aft) (g := g) (t := t) (t' := t') hx hy
  rwa [decide_eq_true h] at this
theorem Rn.geqF (hx : ev k x = some (.int q a)) (hy : ev k y = some (.int q b)) (h : a < b) : Rn P n k w { dst := d, op := .binOp .geq t x y t', type := ty, pos := pos, after := aft, guard := g } (.bool false) := by
  have := Rn.geq (P := P) (n := n) (w := w) (d := d) (ty := ty) (pos := pos) (aft := aft) (g := g) (t := t) (t' := t') hx hy
  rwa [decide_eq_false (by omega)] at this
theorem VQ.rettct {m : Nat} {fn : Func} {R : Ending → World → Prop} {s t u sz : Nat} {ty : TypeId} {ad : Addr} {cs : List Value} {v z : Value} (hf : fn.results = #[.tmp s, .cell t ty, .tmp u]) (hs : kget k s = some z) (hv : kget k t = some (.pointer (some ad))) (ht : ∀ w, (isAgg ty).run P w = .ok true w) (hz : ∀ w, (sizeOf ty).run P w = .ok sz w)
    (hl : cs.length = sz) (hc : cellsAt w ad cs) (hu : kget k u = some v) (hR : R (.returned (.tuple #[z, .agg cs.toArray, v])) w) : VQ ⟨m, []⟩ (bodyPost P fn R) .ret k w :=
  VQ.post rfl (fun a ha => by subst hl; have h0 := ha.known s _ hs; have h1 := ha.known t _ hv; have h2 := ha.known u _ hu; simp [results, hf, h0, h1, h2, loadVar, ht, hz, run_loadCells_at hc, asAddr]) hR
end
theorem flat3_get (f : Nat → List Value) (hf : ∀ i, (f i).length = 3) : ∀ (n i : Nat), i < n → ∀ j v, (f i)[j]? = some v → ((List.range n).flatMap f)[i * 3 + j]? = some v
  | 0, _, h, _, _, _ => absurd h (Nat.not_lt_zero _)
  | n + 1, i, h, j, v, hv => by
    have hlen : ∀ n, ((List.range n).flatMap f).length = n * 3 := fun n => by
      induction n with
      | zero => rfl
      | succ n ih => rw [List.range_succ, List.flatMap_append, List.length_append, ih]; simp [hf]; omega
    have hj : j < 3 := by have := (List.getElem?_eq_some_iff.1 hv).1; rw [hf] at this; exact this
    rw [List.range_succ, List.flatMap_append]
    by_cases hi : i < n
    · rw [List.getElem?_append_left (by rw [hlen]; omega)]
      exact flat3_get f hf n i hi j v hv
    · have : i = n := by omega
      subst this
      rw [List.getElem?_append_right (by rw [hlen]; omega), hlen, show i * 3 + j - i * 3 = j by omega]
      simpa using hv
/-- Row q of a fly's cells. -/
abbrev rowQ (d ju co : Int) (q : Nat) : List Value := [.int .i64 (d + (q : Int) * ju), .int .i64 1, .int .i64 co]
abbrev rowsQ (d ju co : Int) (n : Nat) : List Value := (List.range n).flatMap (rowQ d ju co)
theorem rowsQ_succ (d ju co : Int) (n : Nat) : rowsQ d ju co (n + 1) = rowsQ d ju co n ++ rowQ d ju co n := by simp [rowsQ, List.range_succ]
theorem rowsQ_len (d ju co : Int) (n : Nat) : (rowsQ d ju co n).length = n * 3 := by
  induction n with
  | zero => rfl
  | succ n ih => rw [rowsQ_succ, List.length_append, ih]; simp; omega
theorem sl_rowQ {S : Nat → Prop} {w : World} {A : Option Addr} {d ju co : Int} {n : Nat} (h : SlR S w A n 3 (rowsQ d ju co n)) {q : Nat} (hq : q < n) : CaR S w ((sAddr A).add (q * 3)) (rowQ d ju co q) := by
  obtain ⟨ad, had⟩ := h.ne (by omega)
  refine ⟨h.part (i := q) hq (flat3_get _ (fun _ => rfl) n q hq), ?_⟩
  rw [add_block]; subst had; exact h.ok ad rfl
theorem flatS_one (L : List Stp) : (flatS L).all Value.oneCell' = true := by
  rw [List.all_eq_true]
  intro v hv
  obtain ⟨s, _, hs⟩ := List.mem_flatMap.1 hv
  simp only [Stp.cells, List.mem_cons, List.not_mem_nil, or_false] at hs
  rcases hs with rfl | rfl | rfl | rfl | rfl | rfl | rfl <;> rfl
theorem sl_last {S : Nat → Prop} {w : World} {A : Option Addr} {d ju co : Int} {n : Nat} (h : SlR S w A n 3 (rowsQ d ju co n)) (hn : 1 ≤ n) : CaR S w ((sAddr A).add (((n : Int) - 1).toNat * 3)) [.int .i64 (d + ((n : Int) - 1) * ju), .int .i64 1, .int .i64 co] := by
  have := sl_rowQ h (q := n - 1) (by omega)
  rw [show ((n : Int) - 1).toNat = n - 1 by omega]
  have e : ((n - 1 : Nat) : Int) = (n : Int) - 1 := by omega
  simp only [rowQ, e] at this
  exact this

set_option maxRecDepth 100000 in
theorem inf267w43 : Inf Tryz.prog 267 (.agg #[.int .i64 0, .int .i64 0, .int .i64 0]) 3 24 := ⟨Tryz.t267, Tryz.type267, rfl, rfl, rfl⟩
set_option maxRecDepth 100000 in
theorem inf274w43 : Inf Tryz.prog 274 (.agg #[.int .i64 0, .int .i64 0, .int .i64 0, .bool false]) 4 32 := ⟨Tryz.t274, Tryz.type274, rfl, rfl, rfl⟩
theorem bld267_0_1_2w43 {v0 v1 v2 : Value} (h : [v0, v1, v2].all Value.oneCell' = true) (w : World) : (Instr.build 267 ([(0, v0), (1, v1), (2, v2)] : List (Nat × Value)).toArray).run Tryz.prog w = .ok (.agg #[v0, v1, v2]) w := by
  simp only [List.all_cons, Bool.and_eq_true, List.all_nil, and_true] at h
  have hv0 := oneCell_cells (v := v0) (by simp_all)
  have hv1 := oneCell_cells (v := v1) (by simp_all)
  have hv2 := oneCell_cells (v := v2) (by simp_all)
  have h1 := fill_set (fun i => ([(0, 1), (1, 1), (2, 1)] : List (Nat × Nat))[i]?) [(0, v0), (1, v1), (2, v2)] [.int .i64 0, .int .i64 0, .int .i64 0] (by simp [okF, agg_cells, hv0, hv1, hv2, Nat.beq, Nat.ble])
  simp [setF, agg_cells, hv0, hv1, hv2] at h1
  simp [Instr.build, Tryz.runUnderlying267, Tryz.zeroValue267, Tryz.sizeOf3, agg_cells, h1]
theorem bld274_0_1w43 {v0_0 v0_1 v0_2 v1 : Value} (h : [v1].all Value.oneCell' = true) (w : World) : (Instr.build 274 ([(0, .agg #[v0_0, v0_1, v0_2]), (1, v1)] : List (Nat × Value)).toArray).run Tryz.prog w = .ok (.agg #[v0_0, v0_1, v0_2, v1]) w := by
  simp only [List.all_cons, Bool.and_eq_true, List.all_nil, and_true] at h
  have hv1 := oneCell_cells (v := v1) (by simp_all)
  have h1 := fill_set (fun i => ([(0, 3), (3, 1)] : List (Nat × Nat))[i]?) [(0, .agg #[v0_0, v0_1, v0_2]), (1, v1)] [.int .i64 0, .int .i64 0, .int .i64 0, .bool false] (by simp [okF, agg_cells, hv1, Nat.beq, Nat.ble])
  simp [setF, agg_cells, hv1] at h1
  simp [Instr.build, Tryz.runUnderlying274, Tryz.zeroValue274, Tryz.sizeOf4, Tryz.sizeOf267, agg_cells, h1]
set_option maxRecDepth 100000 in
theorem cel_last (a j c : Int) (hb : 0 ≤ a ∧ a ≤ 1000000000 ∧ 1 ≤ c ∧ c ≤ 1000000000 ∧ 0 ≤ (c - 1) * j ∧ (c - 1) * j ≤ 1000000000000 ∧ 0 ≤ j ∧ j ≤ 1000000000) (w : World) :
    Calls Tryz.prog 218 #[.agg #[.int .i64 a, .int .i64 j, .int .i64 c]] w (Ret (fun v w' => v = .int .i64 (a + (c - 1) * j) ∧ Ch No w w')) := by
  refine calls_of_VC (args := [.agg #[.int .i64 a, .int .i64 j, .int .i64 c]]) Tryz.func218 rfl Tryz.ntmps218 rfl (VC.seq (VC.region (VO.wk (Wk.box rfl) rfl rfl rfl ?_)))
  rintro _ w1 ⟨p1, rfl, N1⟩
  have c1 := N1.ch
  have e1 := N1.p; have z1 := N1.size
  have b1 := Bk.new N1
  refine VO.mv (Rn.assign rfl) rfl rfl rfl (VO.nil (VQ.then_code (VC.seq (VC.region (VO.mv (Rn.field Tryz.underlying267 rfl Tryz.sizeOf3 rfl rfl rfl) rfl rfl rfl (VO.mv (Rn.load Tryz.isAgg3 rfl (b1.cell rfl)) rfl rfl rfl (VO.mv (Rn.field Tryz.underlying267 rfl Tryz.sizeOf3 rfl rfl rfl) rfl rfl rfl ?_)))))))
  refine VO.mv (Rn.load Tryz.isAgg3 rfl (b1.cell rfl)) rfl rfl rfl ?_
  refine VO.mv (Rn.sub rfl rfl (by rw [IntKind.wrap_i64]; omega)) rfl rfl rfl ?_
  refine VO.mv (Rn.field Tryz.underlying267 rfl Tryz.sizeOf3 rfl rfl rfl) rfl rfl rfl (VO.mv (Rn.load Tryz.isAgg3 rfl (b1.cell rfl)) rfl rfl rfl ?_)
  refine VO.mv (Rn.mul rfl rfl (by rw [IntKind.wrap_i64]; omega)) rfl rfl rfl ?_
  refine VO.mv (Rn.add rfl rfl (by rw [IntKind.wrap_i64]; omega)) rfl rfl rfl ?_
  refine VO.mv (Rn.assign rfl) rfl rfl rfl (VO.nil (VQ.then_code (VC.ret (VQ.ret1 rfl rfl (Ret.mk ?_)))))
  have CH_1 := (Ch.refl (No) w).and c1
  exact ⟨rfl, CH_1⟩

set_option maxRecDepth 100000 in
theorem cel_has (a j c x : Int) (hx : x < a) (w : World) :
    Calls Tryz.prog 220 #[.agg #[.int .i64 a, .int .i64 j, .int .i64 c], .int .i64 x] w (Ret (fun v w' => v = .int .i64 (-1) ∧ Ch No w w')) := by
  refine calls_of_VC (args := [.agg #[.int .i64 a, .int .i64 j, .int .i64 c], .int .i64 x]) Tryz.func220 rfl Tryz.ntmps220 rfl (VC.seq (VC.region (VO.wk (Wk.box rfl) rfl rfl rfl ?_)))
  rintro _ w1 ⟨p1, rfl, N1⟩
  have c1 := N1.ch
  have e1 := N1.p; have z1 := N1.size
  have b2 := Bk.new N1
  refine VO.mv (Rn.assign rfl) rfl rfl rfl (VO.nil (VQ.then_code (VC.seq (VC.seq (VC.region (VO.mv (Rn.move rfl) rfl rfl rfl (VO.mv (Rn.field Tryz.underlying267 rfl Tryz.sizeOf3 rfl rfl rfl) rfl rfl rfl ?_)))))))
  refine VO.mv (Rn.load Tryz.isAgg3 rfl (b2.cell rfl)) rfl rfl rfl (VO.mv (Rn.lssT rfl rfl (by omega)) rfl rfl rfl (VO.mv (Rn.move rfl) rfl rfl rfl (VO.skip rfl rfl rfl (VO.skip rfl rfl rfl (VO.skip rfl rfl rfl (VO.skip rfl rfl rfl (VO.mv (Rn.pick_true rfl rfl) rfl rfl rfl ?_)))))))
  refine VO.mv (Rn.move rfl) rfl rfl rfl (VO.skip rfl rfl rfl (VO.skip rfl rfl rfl (VO.skip rfl rfl rfl (VO.skip rfl rfl rfl (VO.skip rfl rfl rfl (VO.skip rfl rfl rfl (VO.skip rfl rfl rfl ?_)))))))
  refine VO.skip rfl rfl rfl (VO.mv (Rn.pick_true rfl rfl) rfl rfl rfl (VO.nil (VQ.then_code (VC.cond_true rfl (VC.seq (VC.region (VO.mv (Rn.assign rfl) rfl rfl rfl ?_)))))))
  refine VO.nil (VQ.then_code (VC.ret (VQ.then_ret (VQ.ret1 rfl rfl (Ret.mk ?_)))))
  have CH_1 := (Ch.refl (No) w).and c1
  exact ⟨rfl, CH_1⟩

set_option maxRecDepth 100000 in
theorem steps_Form (s : Stp) (w : World) (st : StT w) (hf : formM s = true) (hG : 12 ≤ w.heap.size) :
    Calls Tryz.prog 216 #[.agg #[.int .i64 s.op, .int .i64 s.dst, .int .i64 s.src, .int .i64 s.jump, .int .i64 s.count, .int .i64 s.n, .int .i64 s.k]] w (Ret (fun v w' => v = .nilIface ∧ Ch No w w')) := by
  have hnb := form_n hf
  refine calls_of_VC (args := [.agg #[.int .i64 s.op, .int .i64 s.dst, .int .i64 s.src, .int .i64 s.jump, .int .i64 s.count, .int .i64 s.n, .int .i64 s.k]]) Tryz.func216 rfl Tryz.ntmps216 rfl (VC.seq (VC.region (VO.wk (Wk.box rfl) rfl rfl rfl ?_)))
  rintro _ w1 ⟨p1, rfl, N1⟩
  have c1 := N1.ch
  have e1 := N1.p; have z1 := N1.size
  have b1 := Bk.new N1
  refine VO.mv (Rn.assign rfl) rfl rfl rfl (VO.nil (VQ.then_code (VC.seq (VC.seq (VC.region (VO.mv (Rn.loads Tryz.isAgg163 Tryz.sizeOf163 rfl rfl (b1.all' rfl)) rfl rfl rfl ?_))))))
  have st_1 := st.keep c1
  refine VO.wk (Wk.call Tryz.call141 rfl (steps_form_ok s _ st_1 (by omega) hf)) rfl rfl rfl ?_
  rintro _ w2 ⟨rfl, c2⟩
  have z2 := c2.size
  refine VO.mv (Rn.not rfl) rfl rfl rfl (VO.nil (VQ.then_code (VC.cond_false rfl (VC.skip (VQ.then_code (VC.seq (VC.region ?_)))))))
  refine VO.mv (Rn.assign rfl) rfl rfl rfl (VO.nil (VQ.then_code (VC.ret (VQ.ret1 rfl rfl (Ret.mk ?_)))))
  have CH_2 := (Ch.refl (No) w).and (c1.trans c2)
  exact ⟨rfl, CH_2⟩

set_option maxRecDepth 100000 in
theorem touched1 (d sr ju co nn kk : Int) (w : World) :
    Calls Tryz.prog 219 #[.agg #[.int .i64 1, .int .i64 d, .int .i64 sr, .int .i64 ju, .int .i64 co, .int .i64 nn, .int .i64 kk]] w (Ret (fun v w' => ∃ q, v = .tuple #[.slice (some ⟨q, 0, none⟩) 1 1, .agg #[.int .i64 d, .int .i64 1, .int .i64 co], .bool false] ∧ SlR (Is q) w' (some ⟨q, 0, none⟩) 1 4 [.int .i64 sr, .int .i64 ju, .int .i64 co, .bool false] ∧ w.heap.size ≤ q ∧ Ch No w w')) := by
  refine calls_of_VC (args := [.agg #[.int .i64 1, .int .i64 d, .int .i64 sr, .int .i64 ju, .int .i64 co, .int .i64 nn, .int .i64 kk]]) Tryz.func219 rfl Tryz.ntmps219 rfl (VC.seq (VC.region (VO.wk (Wk.box rfl) rfl rfl rfl ?_)))
  rintro _ w1 ⟨p1, rfl, N1⟩
  have c1 := N1.ch
  have e1 := N1.p; have z1 := N1.size
  have b1 := Bk.new N1
  refine VO.mv (Rn.assign rfl) rfl rfl rfl (VO.wk (Wk.alloc Tryz.zeroValue267) rfl rfl rfl ?_)
  rintro _ w2 ⟨p2, rfl, N2⟩
  have c2 := N2.ch
  have e2 := N2.p; have z2 := N2.size
  have b3 := Bk.new N2
  refine VO.mv (Rn.assign rfl) rfl rfl rfl (VO.nil (VQ.then_code (VC.seq (VC.region (VO.mv (Rn.field Tryz.underlying163 rfl Tryz.sizeOf3 rfl rfl rfl) rfl rfl rfl ?_)))))
  have b1_2 := b1.keep c2
  refine VO.mv (Rn.load Tryz.isAgg3 rfl (b1_2.cell rfl)) rfl rfl rfl (VO.mv (Rn.field Tryz.underlying163 rfl Tryz.sizeOf3 rfl rfl rfl) rfl rfl rfl (VO.mv (Rn.load Tryz.isAgg3 rfl (b1_2.cell rfl)) rfl rfl rfl (VO.mv (Rn.build rfl (bld267_0_1_2w43 rfl)) rfl rfl rfl (VO.wk0 (Wk.puts Tryz.sizeOf267 rfl rfl rfl rfl b3 (Nat.le_of_ble_eq_true rfl)) rfl rfl ?_))))
  intro _ w3 Z3
  have c3 := Z3.ch; have z3 := Z3.size
  have b3_3 := Bk.put Z3
  refine VO.nil (VQ.then_code (VC.seq (VC.seq (VC.region (VO.mv (Rn.field Tryz.underlying163 rfl Tryz.sizeOf3 rfl rfl rfl) rfl rfl rfl ?_)))))
  have b1_3 := b1_2.to c3 (by first | exact id | omega)
  refine VO.mv (Rn.load Tryz.isAgg3 rfl (b1_3.cell rfl)) rfl rfl rfl (VO.nil (VQ.then_code (VC.block (VC.seq (VC.region (VO.mv (Rn.eql rfl rfl) rfl rfl rfl (VO.mv (Rn.assign rfl) rfl rfl rfl ?_)))))))
  refine VO.nil (VQ.then_code (VC.cond_if rfl (fun hc1 => ?_) (fun hc1 => ?_)))
  · skip
    refine VC.seq (VC.drawsT 12 (.mv 0 (.mv 1 (.mv 2 (.mv 3 (.mv 4 (.mv 5 (.mv 6 (.mv 7 (.two 8 (.mv 10 (.wk 9 (.wk 11 .nil))) 9 (.wk 8 (.mv 10 (.wk 11 .nil)))))))))))) (fun w1 w' => Ch (Is p2) w1 w') mixed (by kernel_rfl) (fun _ _ => Ch.refl _ _) ?_)
    intro w4 D4
    have c4 := Ch.of_drew D4; have z4 := c4.size
    have b1_4 := b1_3.keep c4
    have b3_4 := b3_3.keep c4
    refine VT.mv (fun w' hS => Rn.field Tryz.underlying163 rfl Tryz.sizeOf3 rfl rfl rfl) rfl rfl rfl rfl (VT.mv (fun w' hS => Rn.load Tryz.isAgg3 rfl ((b1_4.to hS (by first | exact id | omega)).cell rfl)) rfl rfl rfl rfl (VT.mv (fun w' hS => Rn.field Tryz.underlying163 rfl Tryz.sizeOf3 rfl rfl rfl) rfl rfl rfl rfl (VT.mv (fun w' hS => Rn.load Tryz.isAgg3 rfl ((b1_4.to hS (by first | exact id | omega)).cell rfl)) rfl rfl rfl rfl (VT.mv (fun w' hS => Rn.field Tryz.underlying163 rfl Tryz.sizeOf3 rfl rfl rfl) rfl rfl rfl rfl (VT.mv (fun w' hS => Rn.load Tryz.isAgg3 rfl ((b1_4.to hS (by first | exact id | omega)).cell rfl)) rfl rfl rfl rfl (VT.mv (fun w' hS => Rn.build rfl (bld267_0_1_2w43 rfl)) rfl rfl rfl rfl (VT.mv (fun w' hS => Rn.build rfl (bld274_0_1w43 rfl)) rfl rfl rfl rfl ?_)))))))
    refine VT.two ?_ ?_
    · skip
      refine VT.wk (Wk.lit Tryz.underlying270 inf274w43 (by decide) rfl rfl (by rfl) (by decide) (by decide) (by rfl)) rfl rfl rfl rfl ?_
      rintro _ w5 ⟨p5, rfl, N5⟩
      have c5 := N5.ch
      have e5 := N5.p; have z5 := N5.size
      have l22 := SlR.of_new (sz := 4) (l := 1) N5 rfl
      have l22o := Ow.of_new (sz := 4) (l := 1) N5 rfl (by decide)
      have RD_5 := (Ch.refl (Is p2) w4).and c5
      refine ⟨RD_5, ?_⟩
      refine VT.mv (fun w' hS => Rn.assign rfl) rfl rfl rfl rfl ?_
      have b3_5 := b3_4.keep c5
      refine VT.late (Rn.loads Tryz.isAgg267 Tryz.sizeOf267 rfl rfl (b3_5.all' rfl)) rfl rfl rfl rfl RD_5 (VT.wk0 (Wk.puts Tryz.sizeOf267 rfl rfl rfl rfl b3_5 (Nat.le_of_ble_eq_true rfl)) rfl rfl rfl ?_)
      intro _ w6 Z6
      have c6 := Z6.ch; have z6 := Z6.size
      have b3_6 := Bk.put Z6
      have RD_6 : Ch (Is p2) w4 w6 := RD_5.then c6 (by intro q h1 h2; rcases h2 with h2 | h2 <;> first | exact h2 | (exfalso; omega) | omega)
      refine ⟨RD_6, ?_⟩
      refine VT.done (VO.mv (Rn.assign rfl) rfl rfl rfl (VO.nil (VQ.noPanic (VQ.then_code (VC.ret (VQ.block_ret (VQ.then_ret ?_)))))))
      refine VQ.rettct rfl rfl rfl Tryz.isAgg267 Tryz.sizeOf267 rfl (b3_6.all' rfl) rfl (Ret.mk ?_)
      have cc_0_6 : Ch No w w6 := (Ch.then (E := No) (((Ch.then (E := No) (c1.and c2) c3 (by intro q h1 h2; rcases h2 with h2 | h2 <;> first | exact h2 | (exfalso; omega))).and c4).and c5) c6 (by intro q h1 h2; rcases h2 with h2 | h2 <;> first | exact h2 | (exfalso; omega)))
      have CH_6 := (Ch.refl (No) w).and cc_0_6
      have zz := CH_6.size
      have l22_6 := l22.to c6 (by first | exact fun _ _ _ _ => id | (intro q h1 h2 hx h3; omega))
      exact ⟨_, rfl, l22_6, by omega, CH_6⟩
    · skip
      refine VT.late (Rn.loads Tryz.isAgg267 Tryz.sizeOf267 rfl rfl (b3_4.all' rfl)) rfl rfl rfl rfl (Ch.refl (Is p2) w4) (VT.wk (Wk.lit Tryz.underlying270 inf274w43 (by decide) rfl rfl (by rfl) (by decide) (by decide) (by rfl)) rfl rfl rfl rfl ?_)
      rintro _ w7 ⟨p7, rfl, N7⟩
      have c7 := N7.ch
      have e7 := N7.p; have z7 := N7.size
      have l22 := SlR.of_new (sz := 4) (l := 1) N7 rfl
      have l22o := Ow.of_new (sz := 4) (l := 1) N7 rfl (by decide)
      have RD_7 := (Ch.refl (Is p2) w4).and c7
      refine ⟨RD_7, ?_⟩
      refine VT.mv (fun w' hS => Rn.assign rfl) rfl rfl rfl rfl ?_
      have b3_7 := b3_4.keep c7
      refine VT.wk0 (Wk.puts Tryz.sizeOf267 rfl rfl rfl rfl b3_7 (Nat.le_of_ble_eq_true rfl)) rfl rfl rfl ?_
      intro _ w8 Z8
      have c8 := Z8.ch; have z8 := Z8.size
      have b3_8 := Bk.put Z8
      have RD_8 : Ch (Is p2) w4 w8 := RD_7.then c8 (by intro q h1 h2; rcases h2 with h2 | h2 <;> first | exact h2 | (exfalso; omega) | omega)
      refine ⟨RD_8, ?_⟩
      refine VT.done (VO.mv (Rn.assign rfl) rfl rfl rfl (VO.nil (VQ.noPanic (VQ.then_code (VC.ret (VQ.block_ret (VQ.then_ret ?_)))))))
      refine VQ.rettct rfl rfl rfl Tryz.isAgg267 Tryz.sizeOf267 rfl (b3_8.all' rfl) rfl (Ret.mk ?_)
      have cc_0_8 : Ch No w w8 := (Ch.then (E := No) (((Ch.then (E := No) (c1.and c2) c3 (by intro q h1 h2; rcases h2 with h2 | h2 <;> first | exact h2 | (exfalso; omega))).and c4).and c7) c8 (by intro q h1 h2; rcases h2 with h2 | h2 <;> first | exact h2 | (exfalso; omega)))
      have CH_8 := (Ch.refl (No) w).and cc_0_8
      have zz := CH_8.size
      have l22_8 := l22.to c8 (by first | exact fun _ _ _ _ => id | (intro q h1 h2 hx h3; omega))
      exact ⟨_, rfl, l22_8, by omega, CH_8⟩
  · skip
    exact absurd rfl hc1

set_option maxRecDepth 100000 in
theorem touched6 (d sr ju co nn kk : Int) (w : World) :
    Calls Tryz.prog 219 #[.agg #[.int .i64 6, .int .i64 d, .int .i64 sr, .int .i64 ju, .int .i64 co, .int .i64 nn, .int .i64 kk]] w (Ret (fun v w' => ∃ q, v = .tuple #[.slice (some ⟨q, 0, none⟩) 1 1, .agg #[.int .i64 d, .int .i64 1, .int .i64 co], .bool false] ∧ SlR (Is q) w' (some ⟨q, 0, none⟩) 1 4 [.int .i64 sr, .int .i64 ju, .int .i64 nn, .bool true] ∧ w.heap.size ≤ q ∧ Ch No w w')) := by
  refine calls_of_VC (args := [.agg #[.int .i64 6, .int .i64 d, .int .i64 sr, .int .i64 ju, .int .i64 co, .int .i64 nn, .int .i64 kk]]) Tryz.func219 rfl Tryz.ntmps219 rfl (VC.seq (VC.region (VO.wk (Wk.box rfl) rfl rfl rfl ?_)))
  rintro _ w1 ⟨p1, rfl, N1⟩
  have c1 := N1.ch
  have e1 := N1.p; have z1 := N1.size
  have b1 := Bk.new N1
  refine VO.mv (Rn.assign rfl) rfl rfl rfl (VO.wk (Wk.alloc Tryz.zeroValue267) rfl rfl rfl ?_)
  rintro _ w2 ⟨p2, rfl, N2⟩
  have c2 := N2.ch
  have e2 := N2.p; have z2 := N2.size
  have b3 := Bk.new N2
  refine VO.mv (Rn.assign rfl) rfl rfl rfl (VO.nil (VQ.then_code (VC.seq (VC.region (VO.mv (Rn.field Tryz.underlying163 rfl Tryz.sizeOf3 rfl rfl rfl) rfl rfl rfl ?_)))))
  have b1_2 := b1.keep c2
  refine VO.mv (Rn.load Tryz.isAgg3 rfl (b1_2.cell rfl)) rfl rfl rfl (VO.mv (Rn.field Tryz.underlying163 rfl Tryz.sizeOf3 rfl rfl rfl) rfl rfl rfl (VO.mv (Rn.load Tryz.isAgg3 rfl (b1_2.cell rfl)) rfl rfl rfl (VO.mv (Rn.build rfl (bld267_0_1_2w43 rfl)) rfl rfl rfl (VO.wk0 (Wk.puts Tryz.sizeOf267 rfl rfl rfl rfl b3 (Nat.le_of_ble_eq_true rfl)) rfl rfl ?_))))
  intro _ w3 Z3
  have c3 := Z3.ch; have z3 := Z3.size
  have b3_3 := Bk.put Z3
  refine VO.nil (VQ.then_code (VC.seq (VC.seq (VC.region (VO.mv (Rn.field Tryz.underlying163 rfl Tryz.sizeOf3 rfl rfl rfl) rfl rfl rfl ?_)))))
  have b1_3 := b1_2.to c3 (by first | exact id | omega)
  refine VO.mv (Rn.load Tryz.isAgg3 rfl (b1_3.cell rfl)) rfl rfl rfl (VO.nil (VQ.then_code (VC.block (VC.seq (VC.region (VO.mv (Rn.eql rfl rfl) rfl rfl rfl (VO.mv (Rn.assign rfl) rfl rfl rfl ?_)))))))
  refine VO.nil (VQ.then_code (VC.cond_if rfl (fun hc1 => ?_) (fun hc1 => ?_)))
  · skip
    omega
  · skip
    refine VC.seq (VC.region (VO.mv (Rn.eql rfl rfl) rfl rfl rfl (VO.mv (Rn.assign rfl) rfl rfl rfl (VO.nil (VQ.then_code (VC.cond_if rfl (fun hc2 => ?_) (fun hc2 => ?_)))))))
    · skip
      omega
    · skip
      refine VC.seq (VC.seq (VC.region (VO.mv (Rn.eql rfl rfl) rfl rfl rfl (VO.mv (Rn.assign rfl) rfl rfl rfl (VO.nil (VQ.then_code (VC.cond_if rfl (fun hc3 => ?_) (fun hc3 => ?_))))))))
      · skip
        omega
      · skip
        refine VC.region (VO.mv (Rn.eql rfl rfl) rfl rfl rfl (VO.mv (Rn.assign rfl) rfl rfl rfl (VO.nil (VQ.then_code (VC.cond_if rfl (fun hc4 => ?_) (fun hc4 => ?_))))))
        · skip
          omega
        · skip
          refine VC.seq (VC.region (VO.mv (Rn.eql rfl rfl) rfl rfl rfl (VO.mv (Rn.assign rfl) rfl rfl rfl (VO.nil (VQ.then_code (VC.cond_if rfl (fun hc5 => ?_) (fun hc5 => ?_)))))))
          · skip
            refine VC.seq (VC.drawsT 12 (.mv 0 (.mv 1 (.mv 2 (.mv 3 (.mv 4 (.mv 5 (.mv 6 (.mv 7 (.two 8 (.mv 10 (.wk 9 (.wk 11 .nil))) 9 (.wk 8 (.mv 10 (.wk 11 .nil)))))))))))) (fun w1 w' => Ch (Is p2) w1 w') mixed (by kernel_rfl) (fun _ _ => Ch.refl _ _) ?_)
            intro w4 D4
            have c4 := Ch.of_drew D4; have z4 := c4.size
            have b1_4 := b1_3.keep c4
            have b3_4 := b3_3.keep c4
            refine VT.mv (fun w' hS => Rn.field Tryz.underlying163 rfl Tryz.sizeOf3 rfl rfl rfl) rfl rfl rfl rfl (VT.mv (fun w' hS => Rn.load Tryz.isAgg3 rfl ((b1_4.to hS (by first | exact id | omega)).cell rfl)) rfl rfl rfl rfl (VT.mv (fun w' hS => Rn.field Tryz.underlying163 rfl Tryz.sizeOf3 rfl rfl rfl) rfl rfl rfl rfl (VT.mv (fun w' hS => Rn.load Tryz.isAgg3 rfl ((b1_4.to hS (by first | exact id | omega)).cell rfl)) rfl rfl rfl rfl (VT.mv (fun w' hS => Rn.field Tryz.underlying163 rfl Tryz.sizeOf3 rfl rfl rfl) rfl rfl rfl rfl (VT.mv (fun w' hS => Rn.load Tryz.isAgg3 rfl ((b1_4.to hS (by first | exact id | omega)).cell rfl)) rfl rfl rfl rfl (VT.mv (fun w' hS => Rn.build rfl (bld267_0_1_2w43 rfl)) rfl rfl rfl rfl (VT.mv (fun w' hS => Rn.build rfl (bld274_0_1w43 rfl)) rfl rfl rfl rfl ?_)))))))
            refine VT.two ?_ ?_
            · skip
              refine VT.wk (Wk.lit Tryz.underlying270 inf274w43 (by decide) rfl rfl (by rfl) (by decide) (by decide) (by rfl)) rfl rfl rfl rfl ?_
              rintro _ w5 ⟨p5, rfl, N5⟩
              have c5 := N5.ch
              have e5 := N5.p; have z5 := N5.size
              have l54 := SlR.of_new (sz := 4) (l := 1) N5 rfl
              have l54o := Ow.of_new (sz := 4) (l := 1) N5 rfl (by decide)
              have RD_5 := (Ch.refl (Is p2) w4).and c5
              refine ⟨RD_5, ?_⟩
              refine VT.mv (fun w' hS => Rn.assign rfl) rfl rfl rfl rfl ?_
              have b3_5 := b3_4.keep c5
              refine VT.late (Rn.loads Tryz.isAgg267 Tryz.sizeOf267 rfl rfl (b3_5.all' rfl)) rfl rfl rfl rfl RD_5 (VT.wk0 (Wk.puts Tryz.sizeOf267 rfl rfl rfl rfl b3_5 (Nat.le_of_ble_eq_true rfl)) rfl rfl rfl ?_)
              intro _ w6 Z6
              have c6 := Z6.ch; have z6 := Z6.size
              have b3_6 := Bk.put Z6
              have RD_6 : Ch (Is p2) w4 w6 := RD_5.then c6 (by intro q h1 h2; rcases h2 with h2 | h2 <;> first | exact h2 | (exfalso; omega) | omega)
              refine ⟨RD_6, ?_⟩
              refine VT.done (VO.mv (Rn.assign rfl) rfl rfl rfl (VO.nil (VQ.noPanic (VQ.then_code (VC.ret (VQ.block_ret (VQ.then_ret ?_)))))))
              refine VQ.rettct rfl rfl rfl Tryz.isAgg267 Tryz.sizeOf267 rfl (b3_6.all' rfl) rfl (Ret.mk ?_)
              have cc_0_6 : Ch No w w6 := (Ch.then (E := No) (((Ch.then (E := No) (c1.and c2) c3 (by intro q h1 h2; rcases h2 with h2 | h2 <;> first | exact h2 | (exfalso; omega))).and c4).and c5) c6 (by intro q h1 h2; rcases h2 with h2 | h2 <;> first | exact h2 | (exfalso; omega)))
              have CH_6 := (Ch.refl (No) w).and cc_0_6
              have zz := CH_6.size
              have l54_6 := l54.to c6 (by first | exact fun _ _ _ _ => id | (intro q h1 h2 hx h3; omega))
              exact ⟨_, rfl, l54_6, by omega, CH_6⟩
            · skip
              refine VT.late (Rn.loads Tryz.isAgg267 Tryz.sizeOf267 rfl rfl (b3_4.all' rfl)) rfl rfl rfl rfl (Ch.refl (Is p2) w4) (VT.wk (Wk.lit Tryz.underlying270 inf274w43 (by decide) rfl rfl (by rfl) (by decide) (by decide) (by rfl)) rfl rfl rfl rfl ?_)
              rintro _ w7 ⟨p7, rfl, N7⟩
              have c7 := N7.ch
              have e7 := N7.p; have z7 := N7.size
              have l54 := SlR.of_new (sz := 4) (l := 1) N7 rfl
              have l54o := Ow.of_new (sz := 4) (l := 1) N7 rfl (by decide)
              have RD_7 := (Ch.refl (Is p2) w4).and c7
              refine ⟨RD_7, ?_⟩
              refine VT.mv (fun w' hS => Rn.assign rfl) rfl rfl rfl rfl ?_
              have b3_7 := b3_4.keep c7
              refine VT.wk0 (Wk.puts Tryz.sizeOf267 rfl rfl rfl rfl b3_7 (Nat.le_of_ble_eq_true rfl)) rfl rfl rfl ?_
              intro _ w8 Z8
              have c8 := Z8.ch; have z8 := Z8.size
              have b3_8 := Bk.put Z8
              have RD_8 : Ch (Is p2) w4 w8 := RD_7.then c8 (by intro q h1 h2; rcases h2 with h2 | h2 <;> first | exact h2 | (exfalso; omega) | omega)
              refine ⟨RD_8, ?_⟩
              refine VT.done (VO.mv (Rn.assign rfl) rfl rfl rfl (VO.nil (VQ.noPanic (VQ.then_code (VC.ret (VQ.block_ret (VQ.then_ret ?_)))))))
              refine VQ.rettct rfl rfl rfl Tryz.isAgg267 Tryz.sizeOf267 rfl (b3_8.all' rfl) rfl (Ret.mk ?_)
              have cc_0_8 : Ch No w w8 := (Ch.then (E := No) (((Ch.then (E := No) (c1.and c2) c3 (by intro q h1 h2; rcases h2 with h2 | h2 <;> first | exact h2 | (exfalso; omega))).and c4).and c7) c8 (by intro q h1 h2; rcases h2 with h2 | h2 <;> first | exact h2 | (exfalso; omega)))
              have CH_8 := (Ch.refl (No) w).and cc_0_8
              have zz := CH_8.size
              have l54_8 := l54.to c8 (by first | exact fun _ _ _ _ => id | (intro q h1 h2 hx h3; omega))
              exact ⟨_, rfl, l54_8, by omega, CH_8⟩
          · skip
            omega

set_option maxRecDepth 100000 in
theorem good1 (d sr ju co nn kk n : Int) (w : World) (st : StT w) (hf : formM ⟨1, d, sr, ju, co, nn, kk⟩ = true) (hd : 0 ≤ d ∧ d + co ≤ n ∧ n ≤ 1000000) (hc : 1 ≤ co ∧ co ≤ 1000000) (hs : 0 ≤ sr) (hj : 1 ≤ ju ∧ ju ≤ 1000000) (hk : 1 ≤ co ∧ co ≤ 1000000) (hr : sr + (co - 1) * ju < d) (hG : 12 ≤ w.heap.size) :
    Calls Tryz.prog 192 #[.agg #[.int .i64 1, .int .i64 d, .int .i64 sr, .int .i64 ju, .int .i64 co, .int .i64 nn, .int .i64 kk], .int .i64 n] w (Ret (fun v w' => v = .bool true ∧ Ch No w w')) := by
  have hnb := form_n hf
  have hp : 0 ≤ (co - 1) * ju := Int.mul_nonneg (by omega) (by omega)
  have hJ : ∀ j : Nat, (j : Int) < co → 0 ≤ (j : Int) * ju ∧ (j : Int) * ju ≤ (co - 1) * ju := fun j h => ⟨Int.mul_nonneg (by omega) (by omega), Int.mul_le_mul_of_nonneg_right (by omega) (by omega)⟩
  refine calls_of_VC (args := [.agg #[.int .i64 1, .int .i64 d, .int .i64 sr, .int .i64 ju, .int .i64 co, .int .i64 nn, .int .i64 kk], .int .i64 n]) Tryz.func192 rfl Tryz.ntmps192 rfl (VC.seq (VC.region (VO.wk (Wk.box rfl) rfl rfl rfl ?_)))
  rintro _ w1 ⟨p1, rfl, N1⟩
  have c1 := N1.ch
  have e1 := N1.p; have z1 := N1.size
  have b2 := Bk.new N1
  refine VO.mv (Rn.assign rfl) rfl rfl rfl (VO.nil (VQ.then_code (VC.seq (VC.seq (VC.region (VO.mv (Rn.loads Tryz.isAgg163 Tryz.sizeOf163 rfl rfl (b2.all' rfl)) rfl rfl rfl ?_))))))
  have st_1 := st.keep c1
  refine VO.wk (Wk.call Tryz.call216 rfl (steps_Form ⟨1, d, sr, ju, co, nn, kk⟩ _ st_1 hf (by omega))) rfl rfl rfl ?_
  rintro _ w2 ⟨rfl, c2⟩
  have z2 := c2.size
  refine VO.mv (Rn.nil_neq_nil Tryz.underlying29 rfl) rfl rfl rfl (VO.nil (VQ.then_code (VC.cond_false rfl (VC.skip (VQ.then_code (VC.seq (VC.seq ?_)))))))
  refine VC.region (VO.mv (Rn.field Tryz.underlying163 rfl Tryz.sizeOf3 rfl rfl rfl) rfl rfl rfl ?_)
  have b2_2 := b2.keep c2
  refine VO.mv (Rn.load Tryz.isAgg3 rfl (b2_2.cell rfl)) rfl rfl rfl (VO.mv (Rn.eqlF rfl rfl (by decide)) rfl rfl rfl (VO.nil (VQ.then_code (VC.cond_false rfl (VC.skip (VQ.then_code (VC.seq ?_)))))))
  refine VC.region (VO.mv (Rn.loads Tryz.isAgg163 Tryz.sizeOf163 rfl rfl (b2_2.all' rfl)) rfl rfl rfl (VO.wk (Wk.call Tryz.call219 rfl (touched1 _ _ _ _ _ _ _)) rfl rfl rfl ?_))
  rintro _ w3 ⟨q3, rfl, rd3, eq3, c3⟩
  have z3 := c3.size
  refine VO.mv (Rn.move rfl) rfl rfl rfl (VO.mv (Rn.extract rfl rfl) rfl rfl rfl (VO.mv (Rn.extract rfl rfl) rfl rfl rfl (VO.mv (Rn.extract rfl rfl) rfl rfl rfl (VO.wk (Wk.alloc Tryz.zeroValue267) rfl rfl rfl ?_))))
  rintro _ w4 ⟨p4, rfl, N4⟩
  have c4 := N4.ch
  have e4 := N4.p; have z4 := N4.size
  have b6 := Bk.new N4
  refine VO.mv (Rn.assign rfl) rfl rfl rfl (VO.wk0 (Wk.puts Tryz.sizeOf267 rfl rfl rfl rfl b6 (Nat.le_of_ble_eq_true rfl)) rfl rfl ?_)
  intro _ w5 Z5
  have c5 := Z5.ch; have z5 := Z5.size
  have b6_5 := Bk.put Z5
  refine VO.mv (Rn.assign rfl) rfl rfl rfl (VO.nil (VQ.then_code (VC.seq (VC.seq (VC.region (VO.mv (Rn.loads Tryz.isAgg267 Tryz.sizeOf267 rfl rfl (b6_5.all' rfl)) rfl rfl rfl (VO.wk (Wk.call Tryz.call218 rfl (cel_last _ _ _ (by omega) _)) rfl rfl rfl ?_)))))))
  rintro _ w6 ⟨rfl, c6⟩
  have z6 := c6.size
  refine VO.mv (Rn.move rfl) rfl rfl rfl (VO.mv (Rn.geqF rfl rfl (by omega)) rfl rfl rfl (VO.nil (VQ.then_code (VC.cond_false rfl (VC.skip (VQ.then_code (VC.seq ?_)))))))
  refine VC.seq (VC.region (VO.mv (Rn.move rfl) rfl rfl rfl (VO.mv (Rn.len Tryz.underlying270 rfl) rfl rfl rfl (VO.mv (Rn.move rfl) rfl rfl rfl (VO.nil (VQ.then_code (VC.block ?_)))))))
  have cc_2_6 : Ch No w2 w6 := ((Ch.then (E := No) (c3.and c4) c5 (by intro q h1 h2; rcases h2 with h2 | h2 <;> first | exact h2 | (exfalso; omega))).and c6)
  have b2_6 := b2_2.keep cc_2_6
  have b6_6 := b6_5.keep c6
  have cc_3_6 : Ch No w3 w6 := ((Ch.then (E := No) c4 c5 (by intro q h1 h2; rcases h2 with h2 | h2 <;> first | exact h2 | (exfalso; omega))).and c6)
  have rd_6 := rd3.keep cc_3_6
  have cc_0_6 : Ch No w w6 := ((Ch.then (E := No) (((c1.and c2).and c3).and c4) c5 (by intro q h1 h2; rcases h2 with h2 | h2 <;> first | exact h2 | (exfalso; omega))).and c6)
  have CH_6 := (Ch.refl (No) w).and cc_0_6
  refine VC.loopS (σ := Nat) (fun i => [(1, .int .i64 n), (2, .pointer (some ⟨p1, 0, none⟩)), (6, .pointer (some ⟨p4, 0, none⟩)), (38, .slice (some ⟨q3, 0, none⟩) 1 1), (39, .int .i64 1), (40, .int .i64 i)]) (fun i w' => i ≤ 1 ∧ w6.heap.size ≤ w'.heap.size ∧ Bk w' p1 #[.int .i64 1, .int .i64 d, .int .i64 sr, .int .i64 ju, .int .i64 co, .int .i64 nn, .int .i64 kk] 163 ∧ Bk w' p4 #[.int .i64 d, .int .i64 1, .int .i64 co] 267 ∧ SlR (Is q3) w' (some ⟨q3, 0, none⟩) 1 4 [.int .i64 sr, .int .i64 ju, .int .i64 co, .bool false] ∧ Ch (No) w w') (fun i => 1 - i) 0 ?_ ⟨rfl, rfl, rfl, rfl, rfl, rfl, trivial⟩ ?_
  · exact ⟨(by omega), (Nat.le_refl _), b2_6, b6_6, rd_6, CH_6⟩
  rintro i w7 ⟨hi, hsz7, b2_7, b6_7, rd_7, CH_7⟩
  show VC _ _ _ _ [(1, .int .i64 n), (2, .pointer (some ⟨p1, 0, none⟩)), (6, .pointer (some ⟨p4, 0, none⟩)), (38, .slice (some ⟨q3, 0, none⟩) 1 1), (39, .int .i64 1), (40, .int .i64 i)] _
  refine VC.seq (VC.region (VO.mv (Rn.lss rfl rfl) rfl rfl rfl (VO.nil (VQ.then_code (VC.seq (VC.cond_if rfl (fun hc1 => ?_) (fun hc1 => ?_)))))))
  · skip
    refine VC.skip (VQ.then_code (VC.seq (VC.block (VC.seq ?_))))
    obtain rfl : i = 0 := by omega
    have rdc : CaR (Is q3) w7 ((sAddr (some ⟨q3, 0, none⟩)).add (0 * 4)) [.int .i64 sr, .int .i64 ju, .int .i64 co, .bool false] := ⟨rd_7.part (i := 0) (by omega) (fun j v h => by simpa using h), rfl⟩
    refine VC.region (VO.mv (Rn.indexS Tryz.underlying270 Tryz.sizeOf274 rfl rfl (rd_7.ne (by omega)) (by omega) (by omega)) rfl rfl rfl (VO.mv (Rn.loads Tryz.isAgg274 Tryz.sizeOf274 rfl rfl rdc.1) rfl rfl rfl (VO.wk (Wk.alloc Tryz.zeroValue274) rfl rfl rfl ?_)))
    rintro _ w8 ⟨p8, rfl, N8⟩
    have c8 := N8.ch
    have e8 := N8.p; have z8 := N8.size
    have b9 := Bk.new N8
    refine VO.wk0 (Wk.puts Tryz.sizeOf274 rfl rfl rfl rfl b9 (Nat.le_of_ble_eq_true rfl)) rfl rfl ?_
    intro _ w9 Z9
    have c9 := Z9.ch; have z9 := Z9.size
    have b9_9 := Bk.put Z9
    refine VO.nil (VQ.then_code (VC.seq (VC.seq (VC.region (VO.mv (Rn.field Tryz.underlying274 rfl Tryz.sizeOf267 rfl rfl rfl) rfl rfl rfl (VO.mv (Rn.loads Tryz.isAgg267 Tryz.sizeOf267 rfl rfl (b9_9.part 3 rfl)) rfl rfl rfl (VO.wk (Wk.call Tryz.call218 rfl (cel_last _ _ _ (by omega) _)) rfl rfl rfl ?_)))))))
    rintro _ w10 ⟨rfl, c10⟩
    have z10 := c10.size
    refine VO.mv (Rn.move rfl) rfl rfl rfl (VO.mv (Rn.geqF rfl rfl (by omega)) rfl rfl rfl (VO.nil (VQ.then_code (VC.cond_false rfl (VC.skip (VQ.then_code (VC.seq ?_)))))))
    refine VC.region (VO.mv (Rn.field Tryz.underlying274 rfl Tryz.sizeOf267 rfl rfl rfl) rfl rfl rfl (VO.mv (Rn.field Tryz.underlying267 rfl Tryz.sizeOf3 rfl rfl rfl) rfl rfl rfl ?_))
    have b9_10 := b9_9.keep c10
    refine VO.mv (Rn.load Tryz.isAgg3 rfl (b9_10.cell rfl)) rfl rfl rfl (VO.mv (Rn.move rfl) rfl rfl rfl (VO.nil (VQ.then_code (VC.block ?_))))
    have cc_7_10 : Ch No w7 w10 := ((Ch.then (E := No) c8 c9 (by intro q h1 h2; rcases h2 with h2 | h2 <;> first | exact h2 | (exfalso; omega))).and c10)
    have b2_10 := b2_7.keep cc_7_10
    have b6_10 := b6_7.keep cc_7_10
    have rd_10 := rd_7.keep cc_7_10
    have CH_10 := CH_7.and cc_7_10
    refine VC.loopS (σ := Nat) (fun j => [(1, .int .i64 n), (2, .pointer (some ⟨p1, 0, none⟩)), (6, .pointer (some ⟨p4, 0, none⟩)), (9, .pointer (some ⟨p8, 0, none⟩)), (38, .slice (some ⟨q3, 0, none⟩) 1 1), (39, .int .i64 1), (40, .int .i64 0), (51, .int .i64 co), (52, .int .i64 j)]) (fun j w' => (j : Int) ≤ co ∧ w10.heap.size ≤ w'.heap.size ∧ Bk w' p1 #[.int .i64 1, .int .i64 d, .int .i64 sr, .int .i64 ju, .int .i64 co, .int .i64 nn, .int .i64 kk] 163 ∧ Bk w' p4 #[.int .i64 d, .int .i64 1, .int .i64 co] 267 ∧ Bk w' p8 #[.int .i64 sr, .int .i64 ju, .int .i64 co, .bool false] 274 ∧ SlR (Is q3) w' (some ⟨q3, 0, none⟩) 1 4 [.int .i64 sr, .int .i64 ju, .int .i64 co, .bool false] ∧ Ch (No) w w') (fun j => co.toNat - j) 0 ?_ ⟨rfl, rfl, rfl, rfl, rfl, rfl, rfl, rfl, rfl, trivial⟩ ?_
    · exact ⟨(by omega), (Nat.le_refl _), b2_10, b6_10, b9_10, rd_10, CH_10⟩
    rintro j w11 ⟨hjc, hsz11, b2_11, b6_11, b9_11, rd_11, CH_11⟩
    show VC _ _ _ _ [(1, .int .i64 n), (2, .pointer (some ⟨p1, 0, none⟩)), (6, .pointer (some ⟨p4, 0, none⟩)), (9, .pointer (some ⟨p8, 0, none⟩)), (38, .slice (some ⟨q3, 0, none⟩) 1 1), (39, .int .i64 1), (40, .int .i64 0), (51, .int .i64 co), (52, .int .i64 j)] _
    have hJj := hJ j
    refine VC.seq (VC.region (VO.mv (Rn.lss rfl rfl) rfl rfl rfl (VO.nil (VQ.then_code (VC.seq (VC.cond_if rfl (fun hc2 => ?_) (fun hc2 => ?_)))))))
    · skip
      refine VC.skip (VQ.then_code (VC.seq (VC.block (VC.seq (VC.region (VO.mv (Rn.move rfl) rfl rfl rfl (VO.mv (Rn.assign rfl) rfl rfl rfl ?_)))))))
      refine VO.nil (VQ.then_code (VC.seq (VC.region (VO.mv (Rn.loads Tryz.isAgg267 Tryz.sizeOf267 rfl rfl (b6_11.all' rfl)) rfl rfl rfl (VO.mv (Rn.field Tryz.underlying274 rfl Tryz.sizeOf267 rfl rfl rfl) rfl rfl rfl (VO.mv (Rn.field Tryz.underlying267 rfl Tryz.sizeOf3 rfl rfl rfl) rfl rfl rfl (VO.mv (Rn.load Tryz.isAgg3 rfl (b9_11.cell rfl)) rfl rfl rfl ?_)))))))
      refine VO.mv (Rn.move rfl) rfl rfl rfl (VO.mv (Rn.field Tryz.underlying274 rfl Tryz.sizeOf267 rfl rfl rfl) rfl rfl rfl (VO.mv (Rn.field Tryz.underlying267 rfl Tryz.sizeOf3 rfl rfl rfl) rfl rfl rfl (VO.mv (Rn.load Tryz.isAgg3 rfl (b9_11.cell rfl)) rfl rfl rfl ?_)))
      refine VO.mv (Rn.mul rfl rfl (by rw [IntKind.wrap_i64]; omega)) rfl rfl rfl ?_
      refine VO.mv (Rn.add rfl rfl (by rw [IntKind.wrap_i64]; omega)) rfl rfl rfl ?_
      refine VO.wk (Wk.call Tryz.call220 rfl (cel_has _ _ _ _ (by omega) _)) rfl rfl rfl ?_
      rintro _ w12 ⟨rfl, c12⟩
      have z12 := c12.size
      refine VO.mv (Rn.assign rfl) rfl rfl rfl (VO.nil (VQ.then_code (VC.seq (VC.seq (VC.region (VO.mv (Rn.move rfl) rfl rfl rfl (VO.mv (Rn.lssT rfl rfl (by omega)) rfl rfl rfl ?_)))))))
      refine VO.nil (VQ.then_code (VC.cond_true rfl (VC.exit (VQ.then_exit (VQ.block_exit (VQ.then_code (VC.region ?_)))))))
      refine VO.mv (Rn.add rfl rfl (by rw [IntKind.wrap_i64]; omega)) rfl rfl rfl ?_
      refine VO.mv (Rn.move rfl) rfl rfl rfl (VO.nil ?_)
      refine VQ.round (j + 1) (by first | omega | (dsimp only; omega)) ?_ ⟨rfl, rfl, rfl, rfl, rfl, rfl, rfl, rfl, rfl, trivial⟩
      have b2_12 := b2_11.keep c12
      have b6_12 := b6_11.keep c12
      have b9_12 := b9_11.keep c12
      have rd_12 := rd_11.keep c12
      have CH_12 := CH_11.and c12
      exact ⟨(by omega), (by omega), b2_12, b6_12, b9_12, rd_12, CH_12⟩
    · skip
      refine VC.exit (VQ.then_exit (VQ.then_exit (VQ.block_exit (VQ.block_normal (VQ.then_code (VC.region ?_))))))
      refine VO.mv (Rn.add rfl rfl (by rw [IntKind.wrap_i64]; omega)) rfl rfl rfl ?_
      refine VO.mv (Rn.move rfl) rfl rfl rfl (VO.nil ?_)
      refine VQ.round 1 (by first | omega | (dsimp only; omega)) ?_ ⟨rfl, rfl, rfl, rfl, rfl, rfl, trivial⟩
      exact ⟨(by omega), (by omega), b2_11, b6_11, rd_11, CH_11⟩
  · skip
    refine VC.exit (VQ.then_exit (VQ.then_exit (VQ.block_exit (VQ.then_code (VC.seq (VC.region (VO.mv (Rn.assign rfl) rfl rfl rfl ?_)))))))
    refine VO.nil (VQ.then_code (VC.ret (VQ.ret1 rfl rfl (Ret.mk ?_))))
    exact ⟨rfl, CH_7⟩

set_option maxRecDepth 100000 in
theorem good6 (d sr ju co nn kk n : Int) (w : World) (st : StT w) (hf : formM ⟨6, d, sr, ju, co, nn, kk⟩ = true) (hd : 0 ≤ d ∧ d + co ≤ n ∧ n ≤ 1000000) (hc : 1 ≤ co ∧ co ≤ 1000000) (hs : 0 ≤ sr) (hj : 1 ≤ ju ∧ ju ≤ 1000000) (hk : 1 ≤ nn ∧ nn ≤ 1000000) (hr : sr + (nn - 1) * ju < d) (hG : 12 ≤ w.heap.size) :
    Calls Tryz.prog 192 #[.agg #[.int .i64 6, .int .i64 d, .int .i64 sr, .int .i64 ju, .int .i64 co, .int .i64 nn, .int .i64 kk], .int .i64 n] w (Ret (fun v w' => v = .bool true ∧ Ch No w w')) := by
  have hnb := form_n hf
  have hp : 0 ≤ (nn - 1) * ju := Int.mul_nonneg (by omega) (by omega)
  have hJ : ∀ j : Nat, (j : Int) < nn → 0 ≤ (j : Int) * ju ∧ (j : Int) * ju ≤ (nn - 1) * ju := fun j h => ⟨Int.mul_nonneg (by omega) (by omega), Int.mul_le_mul_of_nonneg_right (by omega) (by omega)⟩
  refine calls_of_VC (args := [.agg #[.int .i64 6, .int .i64 d, .int .i64 sr, .int .i64 ju, .int .i64 co, .int .i64 nn, .int .i64 kk], .int .i64 n]) Tryz.func192 rfl Tryz.ntmps192 rfl (VC.seq (VC.region (VO.wk (Wk.box rfl) rfl rfl rfl ?_)))
  rintro _ w1 ⟨p1, rfl, N1⟩
  have c1 := N1.ch
  have e1 := N1.p; have z1 := N1.size
  have b2 := Bk.new N1
  refine VO.mv (Rn.assign rfl) rfl rfl rfl (VO.nil (VQ.then_code (VC.seq (VC.seq (VC.region (VO.mv (Rn.loads Tryz.isAgg163 Tryz.sizeOf163 rfl rfl (b2.all' rfl)) rfl rfl rfl ?_))))))
  have st_1 := st.keep c1
  refine VO.wk (Wk.call Tryz.call216 rfl (steps_Form ⟨6, d, sr, ju, co, nn, kk⟩ _ st_1 hf (by omega))) rfl rfl rfl ?_
  rintro _ w2 ⟨rfl, c2⟩
  have z2 := c2.size
  refine VO.mv (Rn.nil_neq_nil Tryz.underlying29 rfl) rfl rfl rfl (VO.nil (VQ.then_code (VC.cond_false rfl (VC.skip (VQ.then_code (VC.seq (VC.seq ?_)))))))
  refine VC.region (VO.mv (Rn.field Tryz.underlying163 rfl Tryz.sizeOf3 rfl rfl rfl) rfl rfl rfl ?_)
  have b2_2 := b2.keep c2
  refine VO.mv (Rn.load Tryz.isAgg3 rfl (b2_2.cell rfl)) rfl rfl rfl (VO.mv (Rn.eqlF rfl rfl (by decide)) rfl rfl rfl (VO.nil (VQ.then_code (VC.cond_false rfl (VC.skip (VQ.then_code (VC.seq ?_)))))))
  refine VC.region (VO.mv (Rn.loads Tryz.isAgg163 Tryz.sizeOf163 rfl rfl (b2_2.all' rfl)) rfl rfl rfl (VO.wk (Wk.call Tryz.call219 rfl (touched6 _ _ _ _ _ _ _)) rfl rfl rfl ?_))
  rintro _ w3 ⟨q3, rfl, rd3, eq3, c3⟩
  have z3 := c3.size
  refine VO.mv (Rn.move rfl) rfl rfl rfl (VO.mv (Rn.extract rfl rfl) rfl rfl rfl (VO.mv (Rn.extract rfl rfl) rfl rfl rfl (VO.mv (Rn.extract rfl rfl) rfl rfl rfl (VO.wk (Wk.alloc Tryz.zeroValue267) rfl rfl rfl ?_))))
  rintro _ w4 ⟨p4, rfl, N4⟩
  have c4 := N4.ch
  have e4 := N4.p; have z4 := N4.size
  have b6 := Bk.new N4
  refine VO.mv (Rn.assign rfl) rfl rfl rfl (VO.wk0 (Wk.puts Tryz.sizeOf267 rfl rfl rfl rfl b6 (Nat.le_of_ble_eq_true rfl)) rfl rfl ?_)
  intro _ w5 Z5
  have c5 := Z5.ch; have z5 := Z5.size
  have b6_5 := Bk.put Z5
  refine VO.mv (Rn.assign rfl) rfl rfl rfl (VO.nil (VQ.then_code (VC.seq (VC.seq (VC.region (VO.mv (Rn.loads Tryz.isAgg267 Tryz.sizeOf267 rfl rfl (b6_5.all' rfl)) rfl rfl rfl (VO.wk (Wk.call Tryz.call218 rfl (cel_last _ _ _ (by omega) _)) rfl rfl rfl ?_)))))))
  rintro _ w6 ⟨rfl, c6⟩
  have z6 := c6.size
  refine VO.mv (Rn.move rfl) rfl rfl rfl (VO.mv (Rn.geqF rfl rfl (by omega)) rfl rfl rfl (VO.nil (VQ.then_code (VC.cond_false rfl (VC.skip (VQ.then_code (VC.seq ?_)))))))
  refine VC.seq (VC.region (VO.mv (Rn.move rfl) rfl rfl rfl (VO.mv (Rn.len Tryz.underlying270 rfl) rfl rfl rfl (VO.mv (Rn.move rfl) rfl rfl rfl (VO.nil (VQ.then_code (VC.block ?_)))))))
  have cc_2_6 : Ch No w2 w6 := ((Ch.then (E := No) (c3.and c4) c5 (by intro q h1 h2; rcases h2 with h2 | h2 <;> first | exact h2 | (exfalso; omega))).and c6)
  have b2_6 := b2_2.keep cc_2_6
  have b6_6 := b6_5.keep c6
  have cc_3_6 : Ch No w3 w6 := ((Ch.then (E := No) c4 c5 (by intro q h1 h2; rcases h2 with h2 | h2 <;> first | exact h2 | (exfalso; omega))).and c6)
  have rd_6 := rd3.keep cc_3_6
  have cc_0_6 : Ch No w w6 := ((Ch.then (E := No) (((c1.and c2).and c3).and c4) c5 (by intro q h1 h2; rcases h2 with h2 | h2 <;> first | exact h2 | (exfalso; omega))).and c6)
  have CH_6 := (Ch.refl (No) w).and cc_0_6
  refine VC.loopS (σ := Nat) (fun i => [(1, .int .i64 n), (2, .pointer (some ⟨p1, 0, none⟩)), (6, .pointer (some ⟨p4, 0, none⟩)), (38, .slice (some ⟨q3, 0, none⟩) 1 1), (39, .int .i64 1), (40, .int .i64 i)]) (fun i w' => i ≤ 1 ∧ w6.heap.size ≤ w'.heap.size ∧ Bk w' p1 #[.int .i64 6, .int .i64 d, .int .i64 sr, .int .i64 ju, .int .i64 co, .int .i64 nn, .int .i64 kk] 163 ∧ Bk w' p4 #[.int .i64 d, .int .i64 1, .int .i64 co] 267 ∧ SlR (Is q3) w' (some ⟨q3, 0, none⟩) 1 4 [.int .i64 sr, .int .i64 ju, .int .i64 nn, .bool true] ∧ Ch (No) w w') (fun i => 1 - i) 0 ?_ ⟨rfl, rfl, rfl, rfl, rfl, rfl, trivial⟩ ?_
  · exact ⟨(by omega), (Nat.le_refl _), b2_6, b6_6, rd_6, CH_6⟩
  rintro i w7 ⟨hi, hsz7, b2_7, b6_7, rd_7, CH_7⟩
  show VC _ _ _ _ [(1, .int .i64 n), (2, .pointer (some ⟨p1, 0, none⟩)), (6, .pointer (some ⟨p4, 0, none⟩)), (38, .slice (some ⟨q3, 0, none⟩) 1 1), (39, .int .i64 1), (40, .int .i64 i)] _
  refine VC.seq (VC.region (VO.mv (Rn.lss rfl rfl) rfl rfl rfl (VO.nil (VQ.then_code (VC.seq (VC.cond_if rfl (fun hc1 => ?_) (fun hc1 => ?_)))))))
  · skip
    refine VC.skip (VQ.then_code (VC.seq (VC.block (VC.seq ?_))))
    obtain rfl : i = 0 := by omega
    have rdc : CaR (Is q3) w7 ((sAddr (some ⟨q3, 0, none⟩)).add (0 * 4)) [.int .i64 sr, .int .i64 ju, .int .i64 nn, .bool true] := ⟨rd_7.part (i := 0) (by omega) (fun j v h => by simpa using h), rfl⟩
    refine VC.region (VO.mv (Rn.indexS Tryz.underlying270 Tryz.sizeOf274 rfl rfl (rd_7.ne (by omega)) (by omega) (by omega)) rfl rfl rfl (VO.mv (Rn.loads Tryz.isAgg274 Tryz.sizeOf274 rfl rfl rdc.1) rfl rfl rfl (VO.wk (Wk.alloc Tryz.zeroValue274) rfl rfl rfl ?_)))
    rintro _ w8 ⟨p8, rfl, N8⟩
    have c8 := N8.ch
    have e8 := N8.p; have z8 := N8.size
    have b9 := Bk.new N8
    refine VO.wk0 (Wk.puts Tryz.sizeOf274 rfl rfl rfl rfl b9 (Nat.le_of_ble_eq_true rfl)) rfl rfl ?_
    intro _ w9 Z9
    have c9 := Z9.ch; have z9 := Z9.size
    have b9_9 := Bk.put Z9
    refine VO.nil (VQ.then_code (VC.seq (VC.seq (VC.region (VO.mv (Rn.field Tryz.underlying274 rfl Tryz.sizeOf267 rfl rfl rfl) rfl rfl rfl (VO.mv (Rn.loads Tryz.isAgg267 Tryz.sizeOf267 rfl rfl (b9_9.part 3 rfl)) rfl rfl rfl (VO.wk (Wk.call Tryz.call218 rfl (cel_last _ _ _ (by omega) _)) rfl rfl rfl ?_)))))))
    rintro _ w10 ⟨rfl, c10⟩
    have z10 := c10.size
    refine VO.mv (Rn.move rfl) rfl rfl rfl (VO.mv (Rn.geqF rfl rfl (by omega)) rfl rfl rfl (VO.nil (VQ.then_code (VC.cond_false rfl (VC.skip (VQ.then_code (VC.seq ?_)))))))
    refine VC.region (VO.mv (Rn.field Tryz.underlying274 rfl Tryz.sizeOf267 rfl rfl rfl) rfl rfl rfl (VO.mv (Rn.field Tryz.underlying267 rfl Tryz.sizeOf3 rfl rfl rfl) rfl rfl rfl ?_))
    have b9_10 := b9_9.keep c10
    refine VO.mv (Rn.load Tryz.isAgg3 rfl (b9_10.cell rfl)) rfl rfl rfl (VO.mv (Rn.move rfl) rfl rfl rfl (VO.nil (VQ.then_code (VC.block ?_))))
    have cc_7_10 : Ch No w7 w10 := ((Ch.then (E := No) c8 c9 (by intro q h1 h2; rcases h2 with h2 | h2 <;> first | exact h2 | (exfalso; omega))).and c10)
    have b2_10 := b2_7.keep cc_7_10
    have b6_10 := b6_7.keep cc_7_10
    have rd_10 := rd_7.keep cc_7_10
    have CH_10 := CH_7.and cc_7_10
    refine VC.loopS (σ := Nat) (fun j => [(1, .int .i64 n), (2, .pointer (some ⟨p1, 0, none⟩)), (6, .pointer (some ⟨p4, 0, none⟩)), (9, .pointer (some ⟨p8, 0, none⟩)), (38, .slice (some ⟨q3, 0, none⟩) 1 1), (39, .int .i64 1), (40, .int .i64 0), (51, .int .i64 nn), (52, .int .i64 j)]) (fun j w' => (j : Int) ≤ nn ∧ w10.heap.size ≤ w'.heap.size ∧ Bk w' p1 #[.int .i64 6, .int .i64 d, .int .i64 sr, .int .i64 ju, .int .i64 co, .int .i64 nn, .int .i64 kk] 163 ∧ Bk w' p4 #[.int .i64 d, .int .i64 1, .int .i64 co] 267 ∧ Bk w' p8 #[.int .i64 sr, .int .i64 ju, .int .i64 nn, .bool true] 274 ∧ SlR (Is q3) w' (some ⟨q3, 0, none⟩) 1 4 [.int .i64 sr, .int .i64 ju, .int .i64 nn, .bool true] ∧ Ch (No) w w') (fun j => nn.toNat - j) 0 ?_ ⟨rfl, rfl, rfl, rfl, rfl, rfl, rfl, rfl, rfl, trivial⟩ ?_
    · exact ⟨(by omega), (Nat.le_refl _), b2_10, b6_10, b9_10, rd_10, CH_10⟩
    rintro j w11 ⟨hjc, hsz11, b2_11, b6_11, b9_11, rd_11, CH_11⟩
    show VC _ _ _ _ [(1, .int .i64 n), (2, .pointer (some ⟨p1, 0, none⟩)), (6, .pointer (some ⟨p4, 0, none⟩)), (9, .pointer (some ⟨p8, 0, none⟩)), (38, .slice (some ⟨q3, 0, none⟩) 1 1), (39, .int .i64 1), (40, .int .i64 0), (51, .int .i64 nn), (52, .int .i64 j)] _
    have hJj := hJ j
    refine VC.seq (VC.region (VO.mv (Rn.lss rfl rfl) rfl rfl rfl (VO.nil (VQ.then_code (VC.seq (VC.cond_if rfl (fun hc2 => ?_) (fun hc2 => ?_)))))))
    · skip
      refine VC.skip (VQ.then_code (VC.seq (VC.block (VC.seq (VC.region (VO.mv (Rn.move rfl) rfl rfl rfl (VO.mv (Rn.assign rfl) rfl rfl rfl ?_)))))))
      refine VO.nil (VQ.then_code (VC.seq (VC.region (VO.mv (Rn.loads Tryz.isAgg267 Tryz.sizeOf267 rfl rfl (b6_11.all' rfl)) rfl rfl rfl (VO.mv (Rn.field Tryz.underlying274 rfl Tryz.sizeOf267 rfl rfl rfl) rfl rfl rfl (VO.mv (Rn.field Tryz.underlying267 rfl Tryz.sizeOf3 rfl rfl rfl) rfl rfl rfl (VO.mv (Rn.load Tryz.isAgg3 rfl (b9_11.cell rfl)) rfl rfl rfl ?_)))))))
      refine VO.mv (Rn.move rfl) rfl rfl rfl (VO.mv (Rn.field Tryz.underlying274 rfl Tryz.sizeOf267 rfl rfl rfl) rfl rfl rfl (VO.mv (Rn.field Tryz.underlying267 rfl Tryz.sizeOf3 rfl rfl rfl) rfl rfl rfl (VO.mv (Rn.load Tryz.isAgg3 rfl (b9_11.cell rfl)) rfl rfl rfl ?_)))
      refine VO.mv (Rn.mul rfl rfl (by rw [IntKind.wrap_i64]; omega)) rfl rfl rfl ?_
      refine VO.mv (Rn.add rfl rfl (by rw [IntKind.wrap_i64]; omega)) rfl rfl rfl ?_
      refine VO.wk (Wk.call Tryz.call220 rfl (cel_has _ _ _ _ (by omega) _)) rfl rfl rfl ?_
      rintro _ w12 ⟨rfl, c12⟩
      have z12 := c12.size
      refine VO.mv (Rn.assign rfl) rfl rfl rfl (VO.nil (VQ.then_code (VC.seq (VC.seq (VC.region (VO.mv (Rn.move rfl) rfl rfl rfl (VO.mv (Rn.lssT rfl rfl (by omega)) rfl rfl rfl ?_)))))))
      refine VO.nil (VQ.then_code (VC.cond_true rfl (VC.exit (VQ.then_exit (VQ.block_exit (VQ.then_code (VC.region ?_)))))))
      refine VO.mv (Rn.add rfl rfl (by rw [IntKind.wrap_i64]; omega)) rfl rfl rfl ?_
      refine VO.mv (Rn.move rfl) rfl rfl rfl (VO.nil ?_)
      refine VQ.round (j + 1) (by first | omega | (dsimp only; omega)) ?_ ⟨rfl, rfl, rfl, rfl, rfl, rfl, rfl, rfl, rfl, trivial⟩
      have b2_12 := b2_11.keep c12
      have b6_12 := b6_11.keep c12
      have b9_12 := b9_11.keep c12
      have rd_12 := rd_11.keep c12
      have CH_12 := CH_11.and c12
      exact ⟨(by omega), (by omega), b2_12, b6_12, b9_12, rd_12, CH_12⟩
    · skip
      refine VC.exit (VQ.then_exit (VQ.then_exit (VQ.block_exit (VQ.block_normal (VQ.then_code (VC.region ?_))))))
      refine VO.mv (Rn.add rfl rfl (by rw [IntKind.wrap_i64]; omega)) rfl rfl rfl ?_
      refine VO.mv (Rn.move rfl) rfl rfl rfl (VO.nil ?_)
      refine VQ.round 1 (by first | omega | (dsimp only; omega)) ?_ ⟨rfl, rfl, rfl, rfl, rfl, rfl, trivial⟩
      exact ⟨(by omega), (by omega), b2_11, b6_11, rd_11, CH_11⟩
  · skip
    refine VC.exit (VQ.then_exit (VQ.then_exit (VQ.block_exit (VQ.then_code (VC.seq (VC.region (VO.mv (Rn.assign rfl) rfl rfl rfl ?_)))))))
    refine VO.nil (VQ.then_code (VC.ret (VQ.ret1 rfl rfl (Ret.mk ?_))))
    exact ⟨rfl, CH_7⟩

set_option maxRecDepth 100000 in
theorem flown5 (d sr ju co kk : Int) (nn : Nat) (hd : 0 ≤ d ∧ d ≤ 1000000) (hj : 0 ≤ ju ∧ ju ≤ 1000000) (hn : nn ≤ 64) (w : World) :
    Calls Tryz.prog 217 #[.agg #[.int .i64 5, .int .i64 d, .int .i64 sr, .int .i64 ju, .int .i64 co, .int .i64 nn, .int .i64 kk]] w (Ret (fun v w' => ∃ r A c, v = .slice A nn c ∧ SlR (At r) w' A nn 3 (rowsQ d ju co nn) ∧ (r = 0 ∨ w.heap.size < r) ∧ Ch No w w')) := by
  have hJ : ∀ j : Nat, j ≤ 64 → 0 ≤ (j : Int) * ju ∧ (j : Int) * ju ≤ 64 * ju := fun j h => ⟨Int.mul_nonneg (by omega) (by omega), Int.mul_le_mul_of_nonneg_right (by omega) (by omega)⟩
  refine calls_of_VC (args := [.agg #[.int .i64 5, .int .i64 d, .int .i64 sr, .int .i64 ju, .int .i64 co, .int .i64 nn, .int .i64 kk]]) Tryz.func217 rfl Tryz.ntmps217 rfl (VC.seq (VC.region (VO.wk (Wk.box rfl) rfl rfl rfl ?_)))
  rintro _ w1 ⟨p1, rfl, N1⟩
  have c1 := N1.ch
  have e1 := N1.p; have z1 := N1.size
  have b1 := Bk.new N1
  refine VO.mv (Rn.assign rfl) rfl rfl rfl (VO.nil (VQ.then_code (VC.seq (VC.region (VO.mv (Rn.assign rfl) rfl rfl rfl (VO.nil (VQ.then_code ?_)))))))
  refine VC.seq (VC.seq (VC.region (VO.mv (Rn.field Tryz.underlying163 rfl Tryz.sizeOf3 rfl rfl rfl) rfl rfl rfl (VO.mv (Rn.load Tryz.isAgg3 rfl (b1.cell rfl)) rfl rfl rfl (VO.mv (Rn.move rfl) rfl rfl rfl (VO.nil (VQ.then_code ?_)))))))
  refine VC.block ?_
  have CH_1 := (Ch.refl (No) w).and c1
  refine VC.loopS (σ := Nat × Nat × Option Addr × Nat) (fun (q, r2, A2, c2) => [(1, .pointer (some ⟨p1, 0, none⟩)), (3, .slice A2 q c2), (6, .int .i64 nn), (7, .int .i64 q)]) (fun (q, r2, A2, c2) w' => q ≤ nn ∧ (r2 = 0 ∨ p1 + 1 < r2) ∧ w1.heap.size ≤ w'.heap.size ∧ Bk w' p1 #[.int .i64 5, .int .i64 d, .int .i64 sr, .int .i64 ju, .int .i64 co, .int .i64 nn, .int .i64 kk] 163 ∧ Ow w' r2 267 3 A2 q c2 (rowsQ d ju co q) ∧ Ch (No) w w') (fun (q, r2, A2, c2) => nn - q) (0, 0, none, 0) ?_ ⟨rfl, rfl, rfl, rfl, trivial⟩ ?_
  · exact ⟨(by omega), (by omega), (Nat.le_refl _), b1, (Ow.nil _ _ _), CH_1⟩
  rintro ⟨q, r2, A2, c2⟩ w2 ⟨hq, hr2, hsz2, b1_2, row_2, CH_2⟩
  show VC _ _ _ _ [(1, .pointer (some ⟨p1, 0, none⟩)), (3, .slice A2 q c2), (6, .int .i64 nn), (7, .int .i64 q)] _
  have hJq := hJ q (by omega)
  refine VC.seq (VC.region (VO.mv (Rn.lss rfl rfl) rfl rfl rfl (VO.nil (VQ.then_code (VC.seq (VC.cond_if rfl (fun hc1 => ?_) (fun hc1 => ?_)))))))
  · skip
    refine VC.skip (VQ.then_code (VC.seq (VC.block (VC.seq (VC.region (VO.mv (Rn.move rfl) rfl rfl rfl (VO.mv (Rn.assign rfl) rfl rfl rfl ?_)))))))
    refine VO.nil (VQ.then_code (VC.region (VO.mv (Rn.move rfl) rfl rfl rfl (VO.mv (Rn.field Tryz.underlying163 rfl Tryz.sizeOf3 rfl rfl rfl) rfl rfl rfl (VO.mv (Rn.load Tryz.isAgg3 rfl (b1_2.cell rfl)) rfl rfl rfl (VO.mv (Rn.move rfl) rfl rfl rfl (VO.mv (Rn.field Tryz.underlying163 rfl Tryz.sizeOf3 rfl rfl rfl) rfl rfl rfl ?_)))))))
    refine VO.mv (Rn.load Tryz.isAgg3 rfl (b1_2.cell rfl)) rfl rfl rfl ?_
    refine VO.mv (Rn.mul rfl rfl (by rw [IntKind.wrap_i64]; omega)) rfl rfl rfl ?_
    refine VO.mv (Rn.add rfl rfl (by rw [IntKind.wrap_i64]; omega)) rfl rfl rfl ?_
    refine VO.mv (Rn.field Tryz.underlying163 rfl Tryz.sizeOf3 rfl rfl rfl) rfl rfl rfl (VO.mv (Rn.load Tryz.isAgg3 rfl (b1_2.cell rfl)) rfl rfl rfl (VO.mv (Rn.build rfl (bld267_0_1_2w43 rfl)) rfl rfl rfl (VO.wk (Wk.lit Tryz.underlying268 inf267w43 (by decide) rfl rfl (by rfl) (by decide) (by decide) (by rfl)) rfl rfl rfl ?_)))
    rintro _ w3 ⟨p3, rfl, N3⟩
    have c3 := N3.ch
    have e3 := N3.p; have z3 := N3.size
    have l21 := SlR.of_new (sz := 3) (l := 1) N3 rfl
    have l21o := Ow.of_new (sz := 3) (l := 1) N3 rfl (by decide)
    have row_3 := row_2.keep c3
    refine VO.wk (Wk.append (S := _) Tryz.underlying268 inf267w43 rfl (by decide) rfl rfl row_3 l21 (by rfl) (fun h => by simp at h) (by omega) (by simp only [maxLen]; omega)) rfl rfl rfl ?_
    rintro _ w4 ⟨r4, A4, k4, rfl, o4, c4, q4⟩
    have z4 := c4.size
    have y4 := o4.lt
    refine VO.mv (Rn.assign rfl) rfl rfl rfl (VO.nil (VQ.block_normal (VQ.then_code (VC.region ?_))))
    refine VO.mv (Rn.add rfl rfl (by rw [IntKind.wrap_i64]; omega)) rfl rfl rfl ?_
    refine VO.mv (Rn.move rfl) rfl rfl rfl (VO.nil ?_)
    refine VQ.round (q + 1, r4, A4, k4) (by first | omega | (dsimp only; omega)) ?_ ⟨rfl, rfl, rfl, rfl, trivial⟩
    have b1_3 := b1_2.keep c3
    have b1_4 := b1_3.to c4 (by first | exact id | omega)
    have CH_3 := CH_2.and c3
    have CH_4 : Ch (No) w w4 := CH_3.then c4 (by intro q h1 h2; rcases h2 with h2 | h2 <;> first | exact h2 | (exfalso; omega) | omega)
    exact ⟨(by omega), (by omega), (by omega), b1_4, (by rw [rowsQ_succ]; exact o4), CH_4⟩
  · skip
    refine VC.exit (VQ.then_exit (VQ.then_exit (VQ.block_exit (VQ.then_code (VC.seq (VC.region (VO.mv (Rn.move rfl) rfl rfl rfl ?_)))))))
    refine VO.mv (Rn.assign rfl) rfl rfl rfl (VO.nil (VQ.then_code (VC.ret (VQ.ret1 rfl rfl (Ret.mk ?_)))))
    have e : q = nn := by omega
    subst e
    exact ⟨_, _, _, rfl, (row_2).sl, by omega, CH_2⟩

set_option maxRecDepth 100000 in
theorem good5 (d sr ju co kk n : Int) (nn : Nat) (w : World) (st : StT w) (hf : formM ⟨5, d, sr, ju, co, nn, kk⟩ = true) (hd : 0 ≤ d ∧ d ≤ 1000000) (hc : 1 ≤ co ∧ co ≤ 1000000) (hj : 1 ≤ ju ∧ ju ≤ 1000000) (hn : 1 ≤ nn ∧ nn ≤ 64) (hr : d + co - 1 + ((nn : Int) - 1) * ju < n) (hn2 : n ≤ 1000000) (hG : 12 ≤ w.heap.size) :
    Calls Tryz.prog 192 #[.agg #[.int .i64 5, .int .i64 d, .int .i64 sr, .int .i64 ju, .int .i64 co, .int .i64 nn, .int .i64 kk], .int .i64 n] w (Ret (fun v w' => v = .bool true ∧ Ch No w w')) := by
  have hp : 0 ≤ ((nn : Int) - 1) * ju := Int.mul_nonneg (by omega) (by omega)
  refine calls_of_VC (args := [.agg #[.int .i64 5, .int .i64 d, .int .i64 sr, .int .i64 ju, .int .i64 co, .int .i64 nn, .int .i64 kk], .int .i64 n]) Tryz.func192 rfl Tryz.ntmps192 rfl (VC.seq (VC.region (VO.wk (Wk.box rfl) rfl rfl rfl ?_)))
  rintro _ w1 ⟨p1, rfl, N1⟩
  have c1 := N1.ch
  have e1 := N1.p; have z1 := N1.size
  have b2 := Bk.new N1
  refine VO.mv (Rn.assign rfl) rfl rfl rfl (VO.nil (VQ.then_code (VC.seq (VC.seq (VC.region (VO.mv (Rn.loads Tryz.isAgg163 Tryz.sizeOf163 rfl rfl (b2.all' rfl)) rfl rfl rfl ?_))))))
  have st_1 := st.keep c1
  refine VO.wk (Wk.call Tryz.call216 rfl (steps_Form ⟨5, d, sr, ju, co, nn, kk⟩ _ st_1 hf (by omega))) rfl rfl rfl ?_
  rintro _ w2 ⟨rfl, c2⟩
  have z2 := c2.size
  refine VO.mv (Rn.nil_neq_nil Tryz.underlying29 rfl) rfl rfl rfl (VO.nil (VQ.then_code (VC.cond_false rfl (VC.skip (VQ.then_code (VC.seq (VC.seq ?_)))))))
  refine VC.region (VO.mv (Rn.field Tryz.underlying163 rfl Tryz.sizeOf3 rfl rfl rfl) rfl rfl rfl ?_)
  have b2_2 := b2.keep c2
  refine VO.mv (Rn.load Tryz.isAgg3 rfl (b2_2.cell rfl)) rfl rfl rfl (VO.mv (Rn.eql rfl rfl) rfl rfl rfl (VO.nil (VQ.then_code (VC.cond_if rfl (fun hc1 => ?_) (fun hc1 => ?_)))))
  · skip
    refine VC.seq (VC.draws 10 [(0, true), (2, true), (3, true), (4, true), (8, true), (1, false), (5, false), (6, false), (7, false), (9, true)] (fun w1 w' => Ch (No) w1 w') mixed (by kernel_rfl) (fun _ _ => Ch.refl _ _) ?_)
    intro w3 D3
    have c3 := Ch.of_drew D3; have z3 := c3.size
    have b2_3 := b2_2.keep c3
    refine VH.mv (fun w' hS => Rn.loads Tryz.isAgg163 Tryz.sizeOf163 rfl rfl ((b2_3.keep hS).all' rfl)) rfl rfl rfl rfl (VH.mv (fun w' hS => Rn.field Tryz.underlying163 rfl Tryz.sizeOf3 rfl rfl rfl) rfl rfl rfl rfl (VH.mv (fun w' hS => Rn.load Tryz.isAgg3 rfl ((b2_3.keep hS).cell rfl)) rfl rfl rfl rfl ?_))
    refine VH.mv (fun w' hS => Rn.sub rfl rfl (by rw [IntKind.wrap_i64]; omega)) rfl rfl rfl rfl ?_
    refine VH.mv (fun w' hS => Rn.move rfl) rfl rfl rfl rfl (VH.wk (Wk.call Tryz.call217 rfl (flown5 _ _ _ _ _ _ (by omega) (by omega) (by omega) _)) rfl rfl rfl rfl ?_)
    rintro _ w4 ⟨r4, A4, k4, rfl, fl4, yr4, c4⟩
    have z4 := c4.size
    have RD_4 := (Ch.refl (No) w3).and c4
    refine ⟨RD_4, ?_⟩
    refine VH.late (Rn.indexS Tryz.underlying268 Tryz.sizeOf267 rfl rfl (fl4.ne (by omega)) (by omega) (by omega)) rfl rfl rfl rfl RD_4 (VH.late (Rn.loads Tryz.isAgg267 Tryz.sizeOf267 rfl rfl (sl_last fl4 (by omega)).1) rfl rfl rfl rfl RD_4 (VH.wk (Wk.call Tryz.call218 rfl (cel_last _ _ _ (by omega) _)) rfl rfl rfl rfl ?_))
    rintro _ w5 ⟨rfl, c5⟩
    have z5 := c5.size
    have RD_5 := RD_4.and c5
    refine ⟨RD_5, ?_⟩
    refine VH.mv (fun w' hS => Rn.lssT rfl rfl (by rw [Int.mul_one]; omega)) rfl rfl rfl rfl ?_
    refine VH.done (VO.mv (Rn.assign rfl) rfl rfl rfl (VO.nil (VQ.noPanic (VQ.then_code (VC.ret (VQ.then_ret (VQ.ret1 rfl rfl ?_)))))))
    refine Ret.mk ?_
    have CH_5 := (Ch.refl (No) w).and (c1.trans (c2.trans (c3.trans (c4.trans c5))))
    exact ⟨rfl, CH_5⟩
  · skip
    exact absurd rfl hc1

/-- A step that check finds good (of the operations gather, fly and direct), what it reads lying below what it writes. -/
def GoodS (s : Stp) (N : Nat) : Prop := StepOk s N ∧ formM s = true ∧ (s.op = 5 ∨ s.src + ((if s.op = 1 then s.count else s.n) - 1) * s.jump < s.dst)
instance (s : Stp) (N : Nat) : Decidable (GoodS s N) := by unfold GoodS; infer_instance
theorem good_ok (s : Stp) (N : Nat) (n : Int) (hn : n = N) (hN : N ≤ 1000000) (h : GoodS s N) (w : World) (st : StT w) (hG : 12 ≤ w.heap.size) :
    Calls Tryz.prog 192 #[.agg #[.int .i64 s.op, .int .i64 s.dst, .int .i64 s.src, .int .i64 s.jump, .int .i64 s.count, .int .i64 s.n, .int .i64 s.k], .int .i64 n] w (Ret fun v w' => v = .bool true ∧ Ch No w w') := by
  obtain ⟨op, dst, src, jump, count, n', k⟩ := s
  obtain ⟨⟨h1, h1', h2, h3, h4, h4', h5⟩, hf, h6⟩ := h
  simp only at h1 h1' h2 h3 h4 h4' h5 h6
  subst hn
  rcases h5 with ⟨rfl, h7, h8⟩ | ⟨rfl, h7, h8⟩ | ⟨rfl, h7, h8, h9, h10⟩
  · rw [if_pos rfl] at h6
    exact good1 dst src jump count n' k N w st hf (by omega) (by omega) (by omega) (by omega) (by omega) (by omega) hG
  · obtain ⟨nn, rfl⟩ := nat_of (show 0 ≤ n' by omega)
    have hp : 0 ≤ ((nn : Int) - 1) * jump := Int.mul_nonneg (by omega) (by omega)
    exact good5 dst src jump count k N nn w st hf (by omega) (by omega) (by omega) (by omega) (by omega) (by omega) hG
  · rw [if_neg (by decide)] at h6
    exact good6 dst src jump count n' k N w st hf (by omega) (by omega) (by omega) (by omega) (by omega) (by omega) hG
/-- A program that is good. -/
structure PrgOk (b : Bld) (N : Nat) : Prop where
  cl : b.cl = N
  ln : 1 ≤ b.ln ∧ b.ln ≤ 16384
  n1 : 1 ≤ N ∧ N ≤ 262144
  i0 : 0 ≤ b.i0 ∧ b.i0 ≤ b.cl - b.ln
  ou : 0 ≤ b.ou ∧ b.ou ≤ b.cl - b.ln
  st : ∀ s ∈ b.steps, GoodS s N
  len : b.steps.length ≤ 65536
  act : cntS b.steps ≤ 67108864
theorem PrgOk.ok {b : Bld} {N : Nat} (h : PrgOk b N) : ∀ s ∈ b.steps, StepOk s N := fun s hs => (h.st s hs).1

set_option maxRecDepth 100000 in
theorem c_Fault (b : Bld) (N : Nat) (ok : PrgOk b N) (S : Nat → Prop) (A : Option Addr) (c : Nat) (w : World) (st : StT w) (sb : SlR S w A b.steps.length 7 (flatS b.steps)) (hG : 12 ≤ w.heap.size) :
    Calls Tryz.prog 171 #[.agg #[.int .i64 b.ln, .int .i64 b.cl, .int .i64 b.i0, .int .i64 b.ou, .slice A b.steps.length c]] w (Ret (fun v w' => v = .int .i64 (-1) ∧ Ch No w w')) := by
  have hln := ok.ln; have hn1 := ok.n1; have hi0 := ok.i0; have hou := ok.ou; have hlen := ok.len; have hact := ok.act; have hcl := ok.cl
  have hdl0 := cntS_drop_le ok.ok 0; rw [List.drop_zero] at hdl0
  refine calls_of_VC (args := [.agg #[.int .i64 b.ln, .int .i64 b.cl, .int .i64 b.i0, .int .i64 b.ou, .slice A b.steps.length c]]) Tryz.func171 rfl Tryz.ntmps171 rfl (VC.seq (VC.region (VO.wk (Wk.box rfl) rfl rfl rfl ?_)))
  rintro _ w1 ⟨p1, rfl, N1⟩
  have c1 := N1.ch
  have e1 := N1.p; have z1 := N1.size
  have b1 := Bk.new N1
  refine VO.mv (Rn.assign rfl) rfl rfl rfl (VO.nil (VQ.then_code (VC.seq (VC.region (VO.mv (Rn.assign rfl) rfl rfl rfl (VO.nil (VQ.then_code ?_)))))))
  refine VC.seq (VC.seq (VC.region (VO.mv (Rn.field Tryz.underlying138 rfl Tryz.sizeOf136 rfl rfl rfl) rfl rfl rfl (VO.mv (Rn.load Tryz.isAgg136 rfl (b1.cell rfl)) rfl rfl rfl (VO.mv (Rn.len Tryz.underlying136 rfl) rfl rfl rfl (VO.mv (Rn.move rfl) rfl rfl rfl (VO.nil ?_)))))))
  refine VQ.then_code (VC.block ?_)
  have sb_1 := sb.keep c1
  have st_1 := st.keep c1
  have CH_1 := (Ch.refl (No) w).and c1
  refine VC.loopS (σ := Nat × Int) (fun (i, sm) => [(1, .pointer (some ⟨p1, 0, none⟩)), (3, .int .i64 sm), (7, .slice A b.steps.length c), (8, .int .i64 b.steps.length), (9, .int .i64 i)]) (fun (i, sm) w' => i ≤ b.steps.length ∧ sm = cntS b.steps - cntS (b.steps.drop i) ∧ w1.heap.size ≤ w'.heap.size ∧ Bk w' p1 #[.int .i64 b.ln, .int .i64 b.cl, .int .i64 b.i0, .int .i64 b.ou, .slice A b.steps.length c] 138 ∧ SlR S w' A b.steps.length 7 (flatS b.steps) ∧ StT w' ∧ Ch (No) w w') (fun (i, sm) => b.steps.length - i) (0, 0) ?_ ⟨rfl, rfl, rfl, rfl, rfl, trivial⟩ ?_
  · exact ⟨(by omega), (by rw [List.drop_zero]; omega), (Nat.le_refl _), b1, sb_1, st_1, CH_1⟩
  rintro ⟨i, sm⟩ w2 ⟨hi, hsm, hsz2, b1_2, sb_2, st_2, CH_2⟩
  show VC _ _ _ _ [(1, .pointer (some ⟨p1, 0, none⟩)), (3, .int .i64 sm), (7, .slice A b.steps.length c), (8, .int .i64 b.steps.length), (9, .int .i64 i)] _
  have hdl := cntS_drop_le ok.ok i
  refine VC.seq (VC.region (VO.mv (Rn.lss rfl rfl) rfl rfl rfl (VO.nil (VQ.then_code (VC.seq (VC.cond_if rfl (fun hc1 => ?_) (fun hc1 => ?_)))))))
  · skip
    refine VC.skip (VQ.then_code (VC.seq (VC.block (VC.seq ?_))))
    obtain ⟨s, hs⟩ : ∃ s, b.steps[i]? = some s := ⟨_, List.getElem?_eq_getElem (by omega)⟩
    have hsg := ok.st s (List.mem_of_getElem? hs)
    have hcd := cntS_drop hs
    have hdl1 := cntS_drop_le ok.ok (i + 1)
    have hcp := hsg.1.1
    have hcp2 := hsg.1.2.1
    have ks := sl_step sb_2 rfl hs
    refine VC.region (VO.mv (Rn.move rfl) rfl rfl rfl (VO.mv (Rn.indexS Tryz.underlying136 Tryz.sizeOf163 rfl rfl (sb_2.ne (by omega)) (by omega) (by omega)) rfl rfl rfl (VO.mv (Rn.loads Tryz.isAgg163 Tryz.sizeOf163 rfl rfl ks.1) rfl rfl rfl (VO.wk (Wk.alloc Tryz.zeroValue163) rfl rfl rfl ?_))))
    rintro _ w3 ⟨p3, rfl, N3⟩
    have c3 := N3.ch
    have e3 := N3.p; have z3 := N3.size
    have b5 := Bk.new N3
    refine VO.mv (Rn.assign rfl) rfl rfl rfl (VO.wk0 (Wk.puts Tryz.sizeOf163 rfl rfl rfl rfl b5 (Nat.le_of_ble_eq_true rfl)) rfl rfl ?_)
    intro _ w4 Z4
    have c4 := Z4.ch; have z4 := Z4.size
    have b5_4 := Bk.put Z4
    refine VO.nil (VQ.then_code (VC.seq (VC.seq (VC.region (VO.mv (Rn.move rfl) rfl rfl rfl (VO.mv (Rn.eqlF rfl rfl (by omega)) rfl rfl rfl (VO.mv (Rn.move rfl) rfl rfl rfl ?_)))))))
    refine VO.mv (Rn.loads Tryz.isAgg163 Tryz.sizeOf163 rfl rfl (b5_4.all' rfl)) rfl rfl rfl (VO.mv (Rn.field Tryz.underlying138 rfl Tryz.sizeOf3 rfl rfl rfl) rfl rfl rfl ?_)
    have cc_2_4 : Ch No w2 w4 := (Ch.then (E := No) c3 c4 (by intro q h1 h2; rcases h2 with h2 | h2 <;> first | exact h2 | (exfalso; omega)))
    have b1_4 := b1_2.keep cc_2_4
    refine VO.mv (Rn.load Tryz.isAgg3 rfl (b1_4.cell rfl)) rfl rfl rfl ?_
    have st_4 := st_2.keep cc_2_4
    refine VO.wk (Wk.call Tryz.call192 rfl (good_ok _ _ _ ok.cl (by have := ok.n1; omega) hsg _ st_4 (by omega))) rfl rfl rfl ?_
    rintro _ w5 ⟨rfl, c5⟩
    have z5 := c5.size
    refine VO.mv (Rn.not rfl) rfl rfl rfl (VO.mv (Rn.pick_false rfl rfl) rfl rfl rfl (VO.nil (VQ.then_code (VC.cond_false rfl (VC.skip (VQ.then_code (VC.seq ?_)))))))
    refine VC.region (VO.mv (Rn.move rfl) rfl rfl rfl (VO.mv (Rn.field Tryz.underlying163 rfl Tryz.sizeOf3 rfl rfl rfl) rfl rfl rfl ?_))
    have b5_5 := b5_4.keep c5
    refine VO.mv (Rn.load Tryz.isAgg3 rfl (b5_5.cell rfl)) rfl rfl rfl ?_
    refine VO.mv (Rn.add rfl rfl (by rw [IntKind.wrap_i64]; omega)) rfl rfl rfl ?_
    refine VO.mv (Rn.assign rfl) rfl rfl rfl (VO.nil (VQ.then_code (VC.seq (VC.region (VO.mv (Rn.move rfl) rfl rfl rfl (VO.mv (Rn.gtr rfl rfl) rfl rfl rfl (VO.nil ?_)))))))
    refine VQ.then_code (VC.cond_if rfl (fun hc2 => ?_) (fun hc2 => ?_))
    · skip
      omega
    · skip
      refine VC.skip (VQ.block_normal (VQ.then_code (VC.region ?_)))
      refine VO.mv (Rn.add rfl rfl (by rw [IntKind.wrap_i64]; omega)) rfl rfl rfl ?_
      refine VO.mv (Rn.move rfl) rfl rfl rfl (VO.nil ?_)
      refine VQ.round (i + 1, _) (by first | omega | (dsimp only; omega)) ?_ ⟨rfl, rfl, rfl, rfl, rfl, trivial⟩
      have b1_5 := b1_4.keep c5
      have cc_2_5 : Ch No w2 w5 := ((Ch.then (E := No) c3 c4 (by intro q h1 h2; rcases h2 with h2 | h2 <;> first | exact h2 | (exfalso; omega))).and c5)
      have sb_5 := sb_2.keep cc_2_5
      have st_5 := st_4.keep c5
      have CH_5 := CH_2.and cc_2_5
      exact ⟨(by omega), (by omega), (by omega), b1_5, sb_5, st_5, CH_5⟩
  · skip
    refine VC.exit (VQ.then_exit (VQ.then_exit (VQ.block_exit (VQ.then_code (VC.seq (VC.region (VO.mv (Rn.assign rfl) rfl rfl rfl ?_)))))))
    refine VO.nil (VQ.then_code (VC.ret (VQ.ret1 rfl rfl (Ret.mk ?_))))
    exact ⟨rfl, CH_2⟩

set_option maxRecDepth 100000 in
theorem c_Check (b : Bld) (N : Nat) (ok : PrgOk b N) (S : Nat → Prop) (A : Option Addr) (c : Nat) (w : World) (st : StT w) (sb : SlR S w A b.steps.length 7 (flatS b.steps)) (hG : 12 ≤ w.heap.size) :
    Calls Tryz.prog 137 #[.agg #[.int .i64 b.ln, .int .i64 b.cl, .int .i64 b.i0, .int .i64 b.ou, .slice A b.steps.length c]] w (Ret (fun v w' => v = .nilIface ∧ Ch No w w')) := by
  have hln := ok.ln; have hn1 := ok.n1; have hi0 := ok.i0; have hou := ok.ou; have hlen := ok.len; have hact := ok.act; have hcl := ok.cl
  have hdl0 := cntS_drop_le ok.ok 0; rw [List.drop_zero] at hdl0
  refine calls_of_VC (args := [.agg #[.int .i64 b.ln, .int .i64 b.cl, .int .i64 b.i0, .int .i64 b.ou, .slice A b.steps.length c]]) Tryz.func137 rfl Tryz.ntmps137 rfl (VC.seq (VC.region (VO.wk (Wk.box rfl) rfl rfl rfl ?_)))
  rintro _ w1 ⟨p1, rfl, N1⟩
  have c1 := N1.ch
  have e1 := N1.p; have z1 := N1.size
  have b1 := Bk.new N1
  refine VO.mv (Rn.assign rfl) rfl rfl rfl (VO.nil (VQ.then_code (VC.seq (VC.region (VO.mv (Rn.field Tryz.underlying138 rfl Tryz.sizeOf3 rfl rfl rfl) rfl rfl rfl (VO.mv (Rn.load Tryz.isAgg3 rfl (b1.cell rfl)) rfl rfl rfl (VO.mv (Rn.geqT rfl rfl (by omega)) rfl rfl rfl ?_)))))))
  refine VO.mv (Rn.move rfl) rfl rfl rfl (VO.mv (Rn.field Tryz.underlying138 rfl Tryz.sizeOf3 rfl rfl rfl) rfl rfl rfl (VO.mv (Rn.load Tryz.isAgg3 rfl (b1.cell rfl)) rfl rfl rfl (VO.mv (Rn.leqT rfl rfl (by omega)) rfl rfl rfl (VO.mv (Rn.pick_true rfl rfl) rfl rfl rfl (VO.mv (Rn.move rfl) rfl rfl rfl (VO.mv (Rn.field Tryz.underlying138 rfl Tryz.sizeOf3 rfl rfl rfl) rfl rfl rfl (VO.mv (Rn.load Tryz.isAgg3 rfl (b1.cell rfl)) rfl rfl rfl ?_)))))))
  refine VO.mv (Rn.geqT rfl rfl (by omega)) rfl rfl rfl (VO.mv (Rn.pick_true rfl rfl) rfl rfl rfl (VO.mv (Rn.move rfl) rfl rfl rfl (VO.mv (Rn.field Tryz.underlying138 rfl Tryz.sizeOf3 rfl rfl rfl) rfl rfl rfl (VO.mv (Rn.load Tryz.isAgg3 rfl (b1.cell rfl)) rfl rfl rfl (VO.mv (Rn.leqT rfl rfl (by omega)) rfl rfl rfl (VO.mv (Rn.pick_true rfl rfl) rfl rfl rfl (VO.mv (Rn.move rfl) rfl rfl rfl ?_)))))))
  refine VO.mv (Rn.field Tryz.underlying138 rfl Tryz.sizeOf3 rfl rfl rfl) rfl rfl rfl (VO.mv (Rn.load Tryz.isAgg3 rfl (b1.cell rfl)) rfl rfl rfl (VO.mv (Rn.geqT rfl rfl (by omega)) rfl rfl rfl (VO.mv (Rn.pick_true rfl rfl) rfl rfl rfl (VO.mv (Rn.move rfl) rfl rfl rfl (VO.mv (Rn.field Tryz.underlying138 rfl Tryz.sizeOf3 rfl rfl rfl) rfl rfl rfl (VO.mv (Rn.load Tryz.isAgg3 rfl (b1.cell rfl)) rfl rfl rfl (VO.mv (Rn.geqT rfl rfl (by omega)) rfl rfl rfl ?_)))))))
  refine VO.mv (Rn.pick_true rfl rfl) rfl rfl rfl (VO.mv (Rn.move rfl) rfl rfl rfl (VO.mv (Rn.field Tryz.underlying138 rfl Tryz.sizeOf3 rfl rfl rfl) rfl rfl rfl (VO.mv (Rn.load Tryz.isAgg3 rfl (b1.cell rfl)) rfl rfl rfl (VO.mv (Rn.field Tryz.underlying138 rfl Tryz.sizeOf3 rfl rfl rfl) rfl rfl rfl (VO.mv (Rn.load Tryz.isAgg3 rfl (b1.cell rfl)) rfl rfl rfl (VO.mv (Rn.field Tryz.underlying138 rfl Tryz.sizeOf3 rfl rfl rfl) rfl rfl rfl (VO.mv (Rn.load Tryz.isAgg3 rfl (b1.cell rfl)) rfl rfl rfl ?_)))))))
  refine VO.mv (Rn.sub rfl rfl (by rw [IntKind.wrap_i64]; omega)) rfl rfl rfl ?_
  refine VO.mv (Rn.leqT rfl rfl (by omega)) rfl rfl rfl (VO.mv (Rn.pick_true rfl rfl) rfl rfl rfl (VO.mv (Rn.move rfl) rfl rfl rfl (VO.mv (Rn.field Tryz.underlying138 rfl Tryz.sizeOf3 rfl rfl rfl) rfl rfl rfl (VO.mv (Rn.load Tryz.isAgg3 rfl (b1.cell rfl)) rfl rfl rfl (VO.mv (Rn.field Tryz.underlying138 rfl Tryz.sizeOf3 rfl rfl rfl) rfl rfl rfl (VO.mv (Rn.load Tryz.isAgg3 rfl (b1.cell rfl)) rfl rfl rfl (VO.mv (Rn.field Tryz.underlying138 rfl Tryz.sizeOf3 rfl rfl rfl) rfl rfl rfl ?_)))))))
  refine VO.mv (Rn.load Tryz.isAgg3 rfl (b1.cell rfl)) rfl rfl rfl ?_
  refine VO.mv (Rn.sub rfl rfl (by rw [IntKind.wrap_i64]; omega)) rfl rfl rfl ?_
  refine VO.mv (Rn.leqT rfl rfl (by omega)) rfl rfl rfl (VO.mv (Rn.pick_true rfl rfl) rfl rfl rfl (VO.mv (Rn.assign rfl) rfl rfl rfl (VO.nil (VQ.then_code (VC.seq (VC.seq (VC.region ?_)))))))
  refine VO.mv (Rn.move rfl) rfl rfl rfl (VO.mv (Rn.not rfl) rfl rfl rfl (VO.mv (Rn.move rfl) rfl rfl rfl (VO.mv (Rn.loads Tryz.isAgg138 Tryz.sizeOf138 rfl rfl (b1.all' rfl)) rfl rfl rfl ?_)))
  have st_1 := st.keep c1
  have sb_1 := sb.keep c1
  refine VO.wk (Wk.call Tryz.call171 rfl (c_Fault _ _ ok _ _ _ _ st_1 sb_1 (by omega))) rfl rfl rfl ?_
  rintro _ w2 ⟨rfl, c2⟩
  have z2 := c2.size
  refine VO.mv (Rn.geqF rfl rfl (by omega)) rfl rfl rfl (VO.mv (Rn.pick_false rfl rfl) rfl rfl rfl (VO.nil (VQ.then_code (VC.cond_false rfl (VC.skip (VQ.then_code (VC.seq ?_)))))))
  refine VC.region (VO.mv (Rn.assign rfl) rfl rfl rfl (VO.nil (VQ.then_code (VC.ret (VQ.ret1 rfl rfl (Ret.mk ?_))))))
  have CH_2 := (Ch.refl (No) w).and (c1.trans c2)
  exact ⟨rfl, CH_2⟩

set_option maxRecDepth 100000 in
theorem c_Acts (b : Bld) (N : Nat) (ok : PrgOk b N) (S : Nat → Prop) (A : Option Addr) (c : Nat) (w : World) (st : StT w) (sb : SlR S w A b.steps.length 7 (flatS b.steps)) (hG : 12 ≤ w.heap.size) :
    Calls Tryz.prog 119 #[.agg #[.int .i64 b.ln, .int .i64 b.cl, .int .i64 b.i0, .int .i64 b.ou, .slice A b.steps.length c]] w (Ret (fun v w' => v = .tuple #[.int .i64 (cntS b.steps), .nilIface] ∧ Ch No w w')) := by
  have hln := ok.ln; have hn1 := ok.n1; have hi0 := ok.i0; have hou := ok.ou; have hlen := ok.len; have hact := ok.act; have hcl := ok.cl
  have hdl0 := cntS_drop_le ok.ok 0; rw [List.drop_zero] at hdl0
  refine calls_of_VC (args := [.agg #[.int .i64 b.ln, .int .i64 b.cl, .int .i64 b.i0, .int .i64 b.ou, .slice A b.steps.length c]]) Tryz.func119 rfl Tryz.ntmps119 rfl (VC.seq (VC.region (VO.wk (Wk.box rfl) rfl rfl rfl ?_)))
  rintro _ w1 ⟨p1, rfl, N1⟩
  have c1 := N1.ch
  have e1 := N1.p; have z1 := N1.size
  have b1 := Bk.new N1
  refine VO.mv (Rn.assign rfl) rfl rfl rfl (VO.mv (Rn.assign rfl) rfl rfl rfl (VO.nil (VQ.then_code (VC.seq (VC.seq (VC.region (VO.mv (Rn.loads Tryz.isAgg138 Tryz.sizeOf138 rfl rfl (b1.all' rfl)) rfl rfl rfl ?_)))))))
  have st_1 := st.keep c1
  have sb_1 := sb.keep c1
  refine VO.wk (Wk.call Tryz.call137 rfl (c_Check _ _ ok _ _ _ _ st_1 sb_1 (by omega))) rfl rfl rfl ?_
  rintro _ w2 ⟨rfl, c2⟩
  have z2 := c2.size
  refine VO.mv (Rn.assign rfl) rfl rfl rfl (VO.nil (VQ.then_code (VC.seq (VC.region (VO.mv (Rn.move rfl) rfl rfl rfl (VO.mv (Rn.nil_neq_nil Tryz.underlying29 rfl) rfl rfl rfl (VO.nil ?_)))))))
  refine VQ.then_code (VC.cond_false rfl (VC.skip (VQ.then_code (VC.seq (VC.region (VO.mv (Rn.assign rfl) rfl rfl rfl (VO.nil ?_)))))))
  refine VQ.then_code (VC.seq (VC.seq (VC.region (VO.mv (Rn.field Tryz.underlying138 rfl Tryz.sizeOf136 rfl rfl rfl) rfl rfl rfl ?_))))
  have b1_2 := b1.keep c2
  refine VO.mv (Rn.load Tryz.isAgg136 rfl (b1_2.cell rfl)) rfl rfl rfl (VO.mv (Rn.len Tryz.underlying136 rfl) rfl rfl rfl (VO.mv (Rn.move rfl) rfl rfl rfl (VO.nil (VQ.then_code (VC.block ?_)))))
  have sb_2 := sb_1.keep c2
  have CH_2 := (Ch.refl (No) w).and (c1.trans c2)
  refine VC.loopS (σ := Nat × Int) (fun (i, sm) => [(1, .pointer (some ⟨p1, 0, none⟩)), (5, .int .i64 sm), (14, .slice A b.steps.length c), (15, .int .i64 b.steps.length), (16, .int .i64 i)]) (fun (i, sm) w' => i ≤ b.steps.length ∧ sm = cntS b.steps - cntS (b.steps.drop i) ∧ w2.heap.size ≤ w'.heap.size ∧ Bk w' p1 #[.int .i64 b.ln, .int .i64 b.cl, .int .i64 b.i0, .int .i64 b.ou, .slice A b.steps.length c] 138 ∧ SlR S w' A b.steps.length 7 (flatS b.steps) ∧ Ch (No) w w') (fun (i, sm) => b.steps.length - i) (0, 0) ?_ ⟨rfl, rfl, rfl, rfl, rfl, trivial⟩ ?_
  · exact ⟨(by omega), (by rw [List.drop_zero]; omega), (Nat.le_refl _), b1_2, sb_2, CH_2⟩
  rintro ⟨i, sm⟩ w3 ⟨hi, hsm, hsz3, b1_3, sb_3, CH_3⟩
  show VC _ _ _ _ [(1, .pointer (some ⟨p1, 0, none⟩)), (5, .int .i64 sm), (14, .slice A b.steps.length c), (15, .int .i64 b.steps.length), (16, .int .i64 i)] _
  have hdl := cntS_drop_le ok.ok i
  refine VC.seq (VC.region (VO.mv (Rn.lss rfl rfl) rfl rfl rfl (VO.nil (VQ.then_code (VC.seq (VC.cond_if rfl (fun hc1 => ?_) (fun hc1 => ?_)))))))
  · skip
    refine VC.skip (VQ.then_code (VC.seq (VC.block (VC.seq ?_))))
    obtain ⟨s, hs⟩ : ∃ s, b.steps[i]? = some s := ⟨_, List.getElem?_eq_getElem (by omega)⟩
    have hsg := ok.st s (List.mem_of_getElem? hs)
    have hcd := cntS_drop hs
    have hdl1 := cntS_drop_le ok.ok (i + 1)
    have hcp := hsg.1.1
    have hcp2 := hsg.1.2.1
    have ks := sl_step sb_3 rfl hs
    refine VC.region (VO.mv (Rn.indexS Tryz.underlying136 Tryz.sizeOf163 rfl rfl (sb_3.ne (by omega)) (by omega) (by omega)) rfl rfl rfl (VO.mv (Rn.loads Tryz.isAgg163 Tryz.sizeOf163 rfl rfl ks.1) rfl rfl rfl (VO.wk (Wk.alloc Tryz.zeroValue163) rfl rfl rfl ?_)))
    rintro _ w4 ⟨p4, rfl, N4⟩
    have c4 := N4.ch
    have e4 := N4.p; have z4 := N4.size
    have b7 := Bk.new N4
    refine VO.wk0 (Wk.puts Tryz.sizeOf163 rfl rfl rfl rfl b7 (Nat.le_of_ble_eq_true rfl)) rfl rfl ?_
    intro _ w5 Z5
    have c5 := Z5.ch; have z5 := Z5.size
    have b7_5 := Bk.put Z5
    refine VO.nil (VQ.then_code (VC.region (VO.mv (Rn.move rfl) rfl rfl rfl (VO.mv (Rn.field Tryz.underlying163 rfl Tryz.sizeOf3 rfl rfl rfl) rfl rfl rfl (VO.mv (Rn.load Tryz.isAgg3 rfl (b7_5.cell rfl)) rfl rfl rfl ?_)))))
    refine VO.mv (Rn.add rfl rfl (by rw [IntKind.wrap_i64]; omega)) rfl rfl rfl ?_
    refine VO.mv (Rn.assign rfl) rfl rfl rfl (VO.nil (VQ.block_normal (VQ.then_code (VC.region ?_))))
    refine VO.mv (Rn.add rfl rfl (by rw [IntKind.wrap_i64]; omega)) rfl rfl rfl ?_
    refine VO.mv (Rn.move rfl) rfl rfl rfl (VO.nil ?_)
    refine VQ.round (i + 1, _) (by first | omega | (dsimp only; omega)) ?_ ⟨rfl, rfl, rfl, rfl, rfl, trivial⟩
    have cc_3_5 : Ch No w3 w5 := (Ch.then (E := No) c4 c5 (by intro q h1 h2; rcases h2 with h2 | h2 <;> first | exact h2 | (exfalso; omega)))
    have b1_5 := b1_3.keep cc_3_5
    have sb_5 := sb_3.keep cc_3_5
    have CH_5 := CH_3.and cc_3_5
    exact ⟨(by omega), (by omega), (by omega), b1_5, sb_5, CH_5⟩
  · skip
    refine VC.exit (VQ.then_exit (VQ.then_exit (VQ.block_exit (VQ.then_code (VC.seq (VC.region (VO.mv (Rn.move rfl) rfl rfl rfl ?_)))))))
    refine VO.mv (Rn.assign rfl) rfl rfl rfl (VO.mv (Rn.assign rfl) rfl rfl rfl (VO.nil (VQ.then_code (VC.ret (VQ.ret2 rfl rfl rfl (Ret.mk ?_))))))
    have e0 : cntS (b.steps.drop i) = 0 := by rw [List.drop_of_length_le (by omega)]; rfl
    exact ⟨by rw [show sm = cntS b.steps by omega], CH_3⟩

end Go.Tm
namespace Go.Tm
open Go.RowKit Go.Proofs
theorem CR.sub {e : TypeId} {w : World} {r : Nat} {A : Option Addr} {l c : Nat} {xs : List CB} (h : CR e w r A l c xs) {i j : Nat} (h1 : i ≤ j) (h2 : j ≤ l) (hc : l ≤ c) : SlR (At r) w (if c = i then A else A.map (·.add (i * 1))) (j - i) 1 (((xs.drop i).take (j - i)).map cxV) := by
  have := SlR.sub (Ow.sl h) h1 h2 hc
  rw [← List.map_drop, ← List.map_take] at this
  exact this
theorem Ow.r_pos {w : World} {r : Nat} {e : TypeId} {sz : Nat} {A : Option Addr} {l c : Nat} {cs : List Value} (h : Ow w r e sz A l c cs) (hl : 0 < l) : 0 < r := by
  obtain ⟨g, cur, _, rfl, _⟩ := Ow.open' h hl
  omega
theorem cx_one (l : List CB) : (l.map cxV).all Value.oneCell' = true := by
  rw [List.all_eq_true]
  intro v hv
  obtain ⟨z, _, rfl⟩ := List.mem_map.1 hv
  rfl
theorem encB_pos (b : Bld) : 0 < (encB b).length := by
  have := uintB_ne b.steps.length
  rw [encB, List.length_append, List.length_append]; omega

set_option maxRecDepth 100000 in
theorem inf53w44 : Inf Tryz.prog 53 (.complex .f64 0 0) 1 16 := ⟨Tryz.t53, Tryz.type53, rfl, rfl, rfl⟩
set_option maxRecDepth 100000 in
theorem inf163w44 : Inf Tryz.prog 163 (.agg #[.int .i64 0, .int .i64 0, .int .i64 0, .int .i64 0, .int .i64 0, .int .i64 0, .int .i64 0]) 7 56 := ⟨Tryz.t163, Tryz.type163, rfl, rfl, rfl⟩
theorem bld165_0_1_2_3w44 {v0_0 v0_1 v0_2 v0_3 v0_4 v1 v2 v3 : Value} (h : [v1, v2, v3].all Value.oneCell' = true) (w : World) : (Instr.build 165 ([(0, .agg #[v0_0, v0_1, v0_2, v0_3, v0_4]), (1, v1), (2, v2), (3, v3)] : List (Nat × Value)).toArray).run Tryz.prog w = .ok (.agg #[v0_0, v0_1, v0_2, v0_3, v0_4, v1, v2, v3, .int .i64 0, .int .i64 0, .int .i64 0, .slice none 0 0, .int .i64 0, .int .i64 0, .int .i64 0, .int .i64 0, .int .i64 0, .int .i64 0, .int .i64 0]) w := by
  simp only [List.all_cons, Bool.and_eq_true, List.all_nil, and_true] at h
  have hv1 := oneCell_cells (v := v1) (by simp_all)
  have hv2 := oneCell_cells (v := v2) (by simp_all)
  have hv3 := oneCell_cells (v := v3) (by simp_all)
  have h1 := fill_set (fun i => ([(0, 5), (5, 1), (6, 1), (7, 1), (8, 1), (9, 1), (10, 1), (11, 1), (12, 7)] : List (Nat × Nat))[i]?) [(0, .agg #[v0_0, v0_1, v0_2, v0_3, v0_4]), (1, v1), (2, v2), (3, v3)] [.int .i64 0, .int .i64 0, .int .i64 0, .int .i64 0, .slice none 0 0, .string ⟨#[]⟩, .slice none 0 0, .int .i64 0, .int .i64 0, .int .i64 0, .int .i64 0, .slice none 0 0, .int .i64 0, .int .i64 0, .int .i64 0, .int .i64 0, .int .i64 0, .int .i64 0, .int .i64 0] (by simp [okF, agg_cells, hv1, hv2, hv3, Nat.beq, Nat.ble])
  simp [setF, agg_cells, hv1, hv2, hv3] at h1
  simp [Instr.build, Tryz.runUnderlying165, Tryz.zeroValue165, Tryz.sizeOf3, Tryz.sizeOf9, Tryz.sizeOf39, Tryz.sizeOf138, Tryz.sizeOf163, agg_cells, h1]
set_option maxHeartbeats 2000000 in
set_option maxRecDepth 100000 in
theorem m_New (b : Bld) (N : Nat) (ok : PrgOk b N) (S : Nat → Prop) (A : Option Addr) (c : Nat) (w : World) (st : StT w) (sb : SlR S w A b.steps.length 7 (flatS b.steps)) (hG : 12 ≤ w.heap.size) (okb : okB b) (hSb : ∀ y, S y → y < w.heap.size) (hne : 1 ≤ b.steps.length) :
    Calls Tryz.prog 104 #[.agg #[.int .i64 b.ln, .int .i64 b.cl, .int .i64 b.i0, .int .i64 b.ou, .slice A b.steps.length c]] w (Ret (fun v w' => ∃ m r rs SA sc CA, v = .tuple #[.pointer (some ⟨m, 0, none⟩), .nilIface] ∧ MacR w' m r b N SA sc ⟨(encB b).toArray⟩ CA (cntS b.steps) 0 0 0 (List.replicate N (0, 0)) ∧ SlR (At rs) w' SA b.steps.length 7 (flatS b.steps) ∧ (w.heap.size ≤ m ∧ w.heap.size < r ∧ w.heap.size < rs ∧ ¬ rs = r ∧ ¬ rs = m + 1) ∧ Ch No w w')) := by
  have hln := ok.ln; have hn1 := ok.n1; have hi0 := ok.i0; have hou := ok.ou; have hlen := ok.len; have hact := ok.act; have hcl := ok.cl
  have hdl0 := cntS_drop_le ok.ok 0; rw [List.drop_zero] at hdl0
  have hep := encB_pos b
  refine calls_of_VC (args := [.agg #[.int .i64 b.ln, .int .i64 b.cl, .int .i64 b.i0, .int .i64 b.ou, .slice A b.steps.length c]]) Tryz.func104 rfl Tryz.ntmps104 rfl (VC.seq (VC.region (VO.wk (Wk.box rfl) rfl rfl rfl ?_)))
  rintro _ w1 ⟨p1, rfl, N1⟩
  have c1 := N1.ch
  have e1 := N1.p; have z1 := N1.size
  have b1 := Bk.new N1
  refine VO.mv (Rn.assign rfl) rfl rfl rfl (VO.mv (Rn.assign rfl) rfl rfl rfl (VO.nil (VQ.then_code (VC.seq (VC.region (VO.mv (Rn.loads Tryz.isAgg138 Tryz.sizeOf138 rfl rfl (b1.all' rfl)) rfl rfl rfl ?_))))))
  have st_1 := st.keep c1
  have sb_1 := sb.keep c1
  refine VO.wk (Wk.call Tryz.call119 rfl (c_Acts _ _ ok _ _ _ _ st_1 sb_1 (by omega))) rfl rfl rfl ?_
  rintro _ w2 ⟨rfl, c2⟩
  have z2 := c2.size
  refine VO.mv (Rn.move rfl) rfl rfl rfl (VO.mv (Rn.extract rfl rfl) rfl rfl rfl (VO.mv (Rn.extract rfl rfl) rfl rfl rfl (VO.mv (Rn.assign rfl) rfl rfl rfl (VO.mv (Rn.assign rfl) rfl rfl rfl (VO.nil (VQ.then_code (VC.seq ?_)))))))
  refine VC.seq (VC.region (VO.mv (Rn.move rfl) rfl rfl rfl (VO.mv (Rn.nil_neq_nil Tryz.underlying29 rfl) rfl rfl rfl (VO.nil (VQ.then_code (VC.cond_false rfl (VC.skip ?_)))))))
  refine VQ.then_code (VC.seq (VC.region ?_))
  have b1_2 := b1.keep c2
  refine VO.mv (Rn.loads Tryz.isAgg138 Tryz.sizeOf138 rfl rfl (b1_2.all' rfl)) rfl rfl rfl ?_
  have st_2 := st_1.keep c2
  have sb_2 := sb_1.keep c2
  refine VO.wk (Wk.call Tryz.call120 rfl (steps_Encode b okb S _ _ _ st_2 sb_2 (fun y hy => by have := hSb y hy; omega) (by omega))) rfl rfl rfl ?_
  rintro _ w3 ⟨re3, eA3, ec3, rfl, en3, yre3, hel3, c3⟩
  have z3 := c3.size
  refine VO.mv (Rn.move rfl) rfl rfl rfl (VO.mv (Rn.extract rfl rfl) rfl rfl rfl (VO.mv (Rn.extract rfl rfl) rfl rfl rfl (VO.mv (Rn.assign rfl) rfl rfl rfl (VO.mv (Rn.assign rfl) rfl rfl rfl (VO.nil (VQ.then_code (VC.seq ?_)))))))
  refine VC.seq (VC.region (VO.mv (Rn.move rfl) rfl rfl rfl (VO.mv (Rn.nil_neq_nil Tryz.underlying29 rfl) rfl rfl rfl (VO.nil (VQ.then_code (VC.cond_false rfl (VC.skip ?_)))))))
  refine VQ.then_code (VC.seq (VC.region (VO.mv (Rn.field Tryz.underlying138 rfl Tryz.sizeOf136 rfl rfl rfl) rfl rfl rfl ?_)))
  have b1_3 := b1_2.keep c3
  refine VO.mv (Rn.load Tryz.isAgg136 rfl (b1_3.cell rfl)) rfl rfl rfl ?_
  have sb_3 := sb_2.keep c3
  refine VO.wk (Wk.append (S := _) Tryz.underlying136 inf163w44 rfl (by decide) rfl rfl (Ow.nil _ _ _) sb_3 (flatS_one _) (fun h => absurd h (by omega)) (by omega) (by simp only [maxLen]; omega)) rfl rfl rfl ?_
  rintro _ w4 ⟨r4, A4, k4, rfl, o4, c4, q4⟩
  have z4 := c4.size
  have y4 := o4.lt
  refine VO.mv (Rn.field Tryz.underlying138 rfl Tryz.sizeOf136 rfl rfl rfl) rfl rfl rfl ?_
  have b1_4 := b1_3.to c4 (by first | exact id | omega)
  refine VO.wk0 (Wk.put Tryz.sizeOf136 rfl rfl rfl rfl b1_4 rfl) rfl rfl ?_
  intro _ w5 Z5
  have c5 := Z5.ch; have z5 := Z5.size
  have b1_5 := Bk.put Z5
  refine VO.nil (VQ.then_code (VC.seq (VC.draws 10 [(0, true), (1, true), (2, true), (3, true), (4, true), (6, true), (5, false), (7, true), (8, false), (9, true)] (fun w1 w' => Ch (No) w1 w') mixed (by kernel_rfl) (fun _ _ => Ch.refl _ _) ?_)))
  intro w6 D6
  have c6 := Ch.of_drew D6; have z6 := c6.size
  have sb_4 := sb_3.to c4 (by first | exact fun _ _ _ _ => id | (intro q h1 h2 hx h3; have := hSb q h2; omega))
  have sb_5 := sb_4.to c5 (by first | exact fun _ _ _ _ => id | (intro q h1 h2 hx h3; have := hSb q h2; omega))
  have sb_6 := sb_5.keep c6
  have b1_6 := b1_5.keep c6
  have en_4 := en3.to c4 (by first | exact fun _ _ _ _ => id | (intro q h1 h2 hx h3; omega))
  have en_5 := en_4.to c5 (by first | exact fun _ _ _ _ => id | (intro q h1 h2 hx h3; omega))
  have en_6 := en_5.keep c6
  have rs_5 := o4.to c5 (by first | exact fun _ _ _ _ => id | (intro q h1 h2 hx h3; omega))
  have rs_6 := rs_5.keep c6
  refine VH.mv (fun w' hS => Rn.loads Tryz.isAgg138 Tryz.sizeOf138 rfl rfl ((b1_6.keep hS).all' rfl)) rfl rfl rfl rfl (VH.mv (fun w' hS => Rn.move rfl) rfl rfl rfl rfl (VH.mv (fun w' hS => Rn.bytes_string Tryz.underlying159 Tryz.underlying5 Tryz.underlying9 rfl hep (en_6.sl.keep hS)) rfl rfl rfl rfl (VH.mv (fun w' hS => Rn.field Tryz.underlying138 rfl Tryz.sizeOf3 rfl rfl rfl) rfl rfl rfl rfl (VH.mv (fun w' hS => Rn.load Tryz.isAgg3 rfl ((b1_6.keep hS).cell rfl)) rfl rfl rfl rfl (VH.mv (fun w' hS => Rn.move rfl) rfl rfl rfl rfl (VH.wk (Wk.mkC Tryz.underlying39 inf53w44 rfl rfl (by omega) (by omega) (by omega)) rfl rfl rfl rfl ?_))))))
  rintro _ w7 ⟨p7, rfl, o7, c7, e7, z7⟩
  have RD_7 := (Ch.refl (No) w6).and c7
  refine ⟨RD_7, ?_⟩
  refine VH.mv (fun w' hS => Rn.build rfl (bld165_0_1_2_3w44 rfl)) rfl rfl rfl rfl (VH.wk (Wk.box rfl) rfl rfl rfl rfl ?_)
  rintro _ w8 ⟨p8, rfl, N8⟩
  have c8 := N8.ch
  have e8 := N8.p; have z8 := N8.size
  have b35 := Bk.new N8
  have RD_8 := RD_7.and c8
  refine ⟨RD_8, ?_⟩
  refine VH.mv (fun w' hS => Rn.assign rfl) rfl rfl rfl rfl (VH.done (VO.mv (Rn.assign rfl) rfl rfl rfl (VO.nil (VQ.noPanic (VQ.then_code (VC.ret (VQ.ret2 rfl rfl rfl ?_)))))))
  refine Ret.mk ?_
  have hN : b.cl.toNat = N := by omega
  have row_8 := o7.keep c8
  have row9 := row_8; have bk9 := b35; rw [hN] at row9 bk9; rw [Nat.zero_add] at bk9
  have rs_8 := rs_6.keep (c7.trans c8)
  have rs9 := rs_8; rw [Nat.zero_add, List.nil_append] at rs9
  have yrs := Ow.r_pos rs9 (by omega)
  have CH_3 := (Ch.refl (No) w).and (c1.trans (c2.trans c3))
  have CH_4 : Ch (No) w w4 := CH_3.then c4 (by intro q h1 h2; rcases h2 with h2 | h2 <;> first | exact h2 | (exfalso; omega) | omega)
  have CH_5 : Ch (No) w w5 := CH_4.then c5 (by intro q h1 h2; rcases h2 with h2 | h2 <;> first | exact h2 | (exfalso; omega) | omega)
  have CH_8 := CH_5.and (c6.trans (c7.trans c8))
  exact ⟨_, _, _, _, _, _, rfl, ⟨bk9, row9, by omega⟩, rs9.sl, ⟨by omega, by omega, by omega, by omega, by omega⟩, CH_8⟩

set_option maxHeartbeats 1000000 in
set_option maxRecDepth 100000 in
theorem m_Load (m r : Nat) (b : Bld) (N : Nat) (SA : Option Addr) (sc : Nat) (bs : ByteArray) (CA : Option Addr) (ac dn st at_ : Int) (xs : List CB) (w : World) (mr : MacR w m r b N SA sc bs CA ac dn st at_ xs) (ok : PrgOk b N) (SX : Nat → Prop) (X : Option Addr) (n xc : Nat) (ys : List CB) (hn : (n : Int) = b.ln) (sx : SlR SX w X n 1 (ys.map cxV)) (hX : ∀ q, SX q → ¬ MS m r q) :
    Calls Tryz.prog 107 #[.pointer (some ⟨m, 0, none⟩), .slice X n xc] w (Ret (fun v w' => v = .nilIface ∧ MacR w' m r b N SA sc bs CA ac 0 0 0 ((List.replicate N (0, 0)).take b.i0.toNat ++ ys ++ (List.replicate N (0, 0)).drop (b.i0.toNat + n)) ∧ Ch (MS m r) w w')) := by
  obtain ⟨bk, row, ne⟩ := id mr
  have yr := Ow.lt row; have ym := bk.lt
  have hln := ok.ln; have hn1 := ok.n1; have hi0 := ok.i0; have hou := ok.ou; have hcl := ok.cl
  refine calls_of_VC (args := [.pointer (some ⟨m, 0, none⟩), .slice X n xc]) Tryz.func107 rfl Tryz.ntmps107 rfl (VC.seq (VC.region (VO.mv (Rn.assign rfl) rfl rfl rfl (VO.nil (VQ.then_code (VC.seq (VC.seq ?_)))))))
  refine VC.region (VO.mv (Rn.move rfl) rfl rfl rfl (VO.mv (Rn.len Tryz.underlying39 rfl) rfl rfl rfl (VO.mv (Rn.move rfl) rfl rfl rfl (VO.mv (Rn.nilCheck rfl) rfl rfl rfl (VO.mv (Rn.field Tryz.underlying165 rfl Tryz.sizeOf138 rfl rfl rfl) rfl rfl rfl (VO.mv (Rn.field Tryz.underlying138 rfl Tryz.sizeOf3 rfl rfl rfl) rfl rfl rfl (VO.mv (Rn.load Tryz.isAgg3 rfl (bk.cell rfl)) rfl rfl rfl ?_)))))))
  refine VO.mv (Rn.neq rfl rfl) rfl rfl rfl (VO.nil (VQ.then_code (VC.cond_if rfl (fun hc1 => ?_) (fun hc1 => ?_))))
  · skip
    omega
  · skip
    refine VC.skip (VQ.then_code (VC.seq (VC.region (VO.mv (Rn.move rfl) rfl rfl rfl (VO.mv (Rn.nilCheck rfl) rfl rfl rfl (VO.mv (Rn.field Tryz.underlying165 rfl Tryz.sizeOf39 rfl rfl rfl) rfl rfl rfl (VO.mv (Rn.load Tryz.isAgg39 rfl (bk.cell rfl)) rfl rfl rfl ?_)))))))
    refine VO.wk0 (Wk.clearC Tryz.underlying39 inf53w44 rfl row (by omega)) rfl rfl ?_
    rintro _ w1 ⟨row1, c1, z1⟩
    have yr1 := Ow.lt row1
    have z1 := c1.size
    refine VO.nil (VQ.then_code (VC.seq (VC.draws 12 [(0, true), (1, true), (2, true), (3, true), (4, true), (5, true), (6, true), (7, true), (8, true), (9, true), (10, true), (11, false)] (fun w1 w' => Ch (At r) w1 w') mixed (by kernel_rfl) (fun _ _ => Ch.refl _ _) ?_)))
    intro w2 D2
    have c2 := Ch.of_drew D2; have z2 := c2.size
    have bk_1 := bk.to c1 (by first | exact id | omega)
    have bk_2 := bk_1.keep c2
    have row_2 := row1.keep c2
    have sx_1 := sx.to c1 (fun _ _ h2 _ h3 => hX _ h2 (by first | exact .inr h3 | exact .inl h3 | exact h3))
    have sx_2 := sx_1.keep c2
    refine VH.mv (fun w' hS => Rn.move rfl) rfl rfl rfl rfl (VH.mv (fun w' hS => Rn.nilCheck rfl) rfl rfl rfl rfl (VH.mv (fun w' hS => Rn.field Tryz.underlying165 rfl Tryz.sizeOf39 rfl rfl rfl) rfl rfl rfl rfl (VH.mv (fun w' hS => Rn.load Tryz.isAgg39 rfl ((bk_2.to hS (by first | exact id | omega)).cell rfl)) rfl rfl rfl rfl (VH.mv (fun w' hS => Rn.move rfl) rfl rfl rfl rfl (VH.mv (fun w' hS => Rn.nilCheck rfl) rfl rfl rfl rfl (VH.mv (fun w' hS => Rn.field Tryz.underlying165 rfl Tryz.sizeOf138 rfl rfl rfl) rfl rfl rfl rfl (VH.mv (fun w' hS => Rn.field Tryz.underlying138 rfl Tryz.sizeOf3 rfl rfl rfl) rfl rfl rfl rfl ?_)))))))
    refine VH.mv (fun w' hS => Rn.load Tryz.isAgg3 rfl ((bk_2.to hS (by first | exact id | omega)).cell rfl)) rfl rfl rfl rfl (VH.mv (fun w' hS => Rn.sliceLo Tryz.underlying39 Tryz.sizeOf53 rfl rfl (by omega) (by omega) (by omega)) rfl rfl rfl rfl (VH.mv (fun w' hS => Rn.move rfl) rfl rfl rfl rfl (VH.wk (Wk.copyC Tryz.underlying39 inf53w44 rfl rfl row_2 sx_2 (by omega) (by omega)) rfl rfl rfl rfl ?_)))
    rintro _ w3 ⟨rfl, row3, c3, z3⟩
    have yr3 := Ow.lt row3
    have z3 := c3.size
    have RD_3 : Ch (At r) w2 w3 := (Ch.refl (At r) w2).then c3 (by intro q h1 h2; rcases h2 with h2 | h2 <;> first | exact h2 | (exfalso; omega) | omega)
    refine ⟨RD_3, ?_⟩
    refine VH.done (VO.nil (VQ.noPanic (VQ.then_code (VC.seq (VC.region (VO.mv (Rn.move rfl) rfl rfl rfl (VO.mv (Rn.move rfl) rfl rfl rfl ?_)))))))
    refine VO.mv (Rn.move rfl) rfl rfl rfl (VO.mv (Rn.nilCheck rfl) rfl rfl rfl (VO.mv (Rn.field Tryz.underlying165 rfl Tryz.sizeOf3 rfl rfl rfl) rfl rfl rfl ?_))
    have bk_3 := bk_2.to c3 (by first | exact id | omega)
    refine VO.wk0 (Wk.put Tryz.sizeOf3 rfl rfl rfl rfl bk_3 rfl) rfl rfl ?_
    intro _ w4 Z4
    have c4 := Z4.ch; have z4 := Z4.size
    have bk_4 := Bk.put Z4
    refine VO.mv (Rn.nilCheck rfl) rfl rfl rfl (VO.mv (Rn.field Tryz.underlying165 rfl Tryz.sizeOf3 rfl rfl rfl) rfl rfl rfl (VO.wk0 (Wk.put Tryz.sizeOf3 rfl rfl rfl rfl bk_4 rfl) rfl rfl ?_))
    intro _ w5 Z5
    have c5 := Z5.ch; have z5 := Z5.size
    have bk_5 := Bk.put Z5
    refine VO.mv (Rn.nilCheck rfl) rfl rfl rfl (VO.mv (Rn.field Tryz.underlying165 rfl Tryz.sizeOf3 rfl rfl rfl) rfl rfl rfl (VO.wk0 (Wk.put Tryz.sizeOf3 rfl rfl rfl rfl bk_5 rfl) rfl rfl ?_))
    intro _ w6 Z6
    have c6 := Z6.ch; have z6 := Z6.size
    have bk_6 := Bk.put Z6
    refine VO.nil (VQ.then_code (VC.seq (VC.region (VO.mv (Rn.assign rfl) rfl rfl rfl (VO.nil (VQ.then_code (VC.ret ?_)))))))
    refine VQ.ret1 rfl rfl (Ret.mk ?_)
    have row_4 := row3.to c4 (by first | exact fun _ _ _ _ => id | (intro q h1 h2 hx h3; omega))
    have row_5 := row_4.to c5 (by first | exact fun _ _ _ _ => id | (intro q h1 h2 hx h3; omega))
    have row_6 := row_5.to c6 (by first | exact fun _ _ _ _ => id | (intro q h1 h2 hx h3; omega))
    have CH_1 : Ch (MS m r) w w1 := (Ch.refl (MS m r) w).then c1 (by intro q h1 h2; rcases h2 with h2 | h2 <;> first | exact h2 | (exfalso; omega) | omega)
    have CH_2 := CH_1.and c2
    have CH_3 : Ch (MS m r) w w3 := CH_2.then c3 (by intro q h1 h2; rcases h2 with h2 | h2 <;> first | exact h2 | (exfalso; omega) | omega)
    have CH_4 : Ch (MS m r) w w4 := CH_3.then c4 (by intro q h1 h2; rcases h2 with h2 | h2 <;> first | exact h2 | (exfalso; omega) | omega)
    have CH_5 : Ch (MS m r) w w5 := CH_4.then c5 (by intro q h1 h2; rcases h2 with h2 | h2 <;> first | exact h2 | (exfalso; omega) | omega)
    have CH_6 : Ch (MS m r) w w6 := CH_5.then c6 (by intro q h1 h2; rcases h2 with h2 | h2 <;> first | exact h2 | (exfalso; omega) | omega)
    exact ⟨rfl, ⟨bk_6, row_6, ne⟩, CH_6⟩

set_option maxHeartbeats 1000000 in
set_option maxRecDepth 100000 in
theorem m_Out (m r : Nat) (b : Bld) (N : Nat) (SA : Option Addr) (sc : Nat) (bs : ByteArray) (CA : Option Addr) (ac st at_ : Int) (xs : List CB) (w : World) (mr : MacR w m r b N SA sc bs CA ac ac st at_ xs) (ok : PrgOk b N) (hac : 0 ≤ ac ∧ ac ≤ 1000000000) :
    Calls Tryz.prog 110 #[.pointer (some ⟨m, 0, none⟩)] w (Ret (fun v w' => ∃ r' A' c', v = .tuple #[.slice A' b.ln.toNat c', .nilIface] ∧ CR 53 w' r' A' b.ln.toNat c' ((xs.drop b.ou.toNat).take b.ln.toNat) ∧ w.heap.size < r' ∧ Ch No w w')) := by
  obtain ⟨bk, row, ne⟩ := id mr
  have yr := Ow.lt row; have ym := bk.lt
  have hln := ok.ln; have hn1 := ok.n1; have hi0 := ok.i0; have hou := ok.ou; have hcl := ok.cl
  refine calls_of_VC (args := [.pointer (some ⟨m, 0, none⟩)]) Tryz.func110 rfl Tryz.ntmps110 rfl (VC.seq (VC.region (VO.mv (Rn.assign rfl) rfl rfl rfl (VO.mv (Rn.assign rfl) rfl rfl rfl (VO.nil (VQ.then_code (VC.seq ?_)))))))
  refine VC.seq (VC.region (VO.mv (Rn.move rfl) rfl rfl rfl (VO.wk (Wk.call Tryz.call108 rfl (m_Left _ _ _ _ _ _ _ _ _ _ _ _ bk (by omega) (by omega))) rfl rfl rfl ?_)))
  rintro _ w1 ⟨rfl, c1⟩
  have z1 := c1.size
  refine VO.mv (Rn.gtr rfl rfl) rfl rfl rfl (VO.nil (VQ.then_code (VC.cond_if rfl (fun hc1 => ?_) (fun hc1 => ?_))))
  · skip
    omega
  · skip
    refine VC.skip (VQ.then_code (VC.seq (VC.region (VO.mv (Rn.move rfl) rfl rfl rfl (VO.mv (Rn.nilCheck rfl) rfl rfl rfl (VO.mv (Rn.field Tryz.underlying165 rfl Tryz.sizeOf138 rfl rfl rfl) rfl rfl rfl (VO.mv (Rn.field Tryz.underlying138 rfl Tryz.sizeOf3 rfl rfl rfl) rfl rfl rfl ?_)))))))
    have bk_1 := bk.keep c1
    refine VO.mv (Rn.load Tryz.isAgg3 rfl (bk_1.cell rfl)) rfl rfl rfl (VO.mv (Rn.assign rfl) rfl rfl rfl (VO.nil (VQ.then_code (VC.seq (VC.draws 15 [(0, true), (1, true), (2, true), (3, true), (4, true), (5, true), (6, true), (7, true), (8, true), (9, true), (10, true), (11, true), (12, true), (13, false), (14, true)] (fun w1 w' => Ch (At 0) w1 w') mixed (by kernel_rfl) (fun _ _ => Ch.refl _ _) ?_)))))
    intro w2 D2
    have c2 := Ch.of_drew D2; have z2 := c2.size
    have bk_2 := bk_1.keep c2
    have row_2 := row.keep (c1.trans c2)
    refine VH.mv (fun w' hS => Rn.move rfl) rfl rfl rfl rfl (VH.mv (fun w' hS => Rn.nilCheck rfl) rfl rfl rfl rfl (VH.mv (fun w' hS => Rn.field Tryz.underlying165 rfl Tryz.sizeOf39 rfl rfl rfl) rfl rfl rfl rfl (VH.mv (fun w' hS => Rn.load Tryz.isAgg39 rfl ((bk_2.to hS (by first | exact id | omega)).cell rfl)) rfl rfl rfl rfl (VH.mv (fun w' hS => Rn.move rfl) rfl rfl rfl rfl (VH.mv (fun w' hS => Rn.move rfl) rfl rfl rfl rfl (VH.mv (fun w' hS => Rn.move rfl) rfl rfl rfl rfl (VH.mv (fun w' hS => Rn.nilCheck rfl) rfl rfl rfl rfl ?_)))))))
    refine VH.mv (fun w' hS => Rn.field Tryz.underlying165 rfl Tryz.sizeOf138 rfl rfl rfl) rfl rfl rfl rfl (VH.mv (fun w' hS => Rn.field Tryz.underlying138 rfl Tryz.sizeOf3 rfl rfl rfl) rfl rfl rfl rfl (VH.mv (fun w' hS => Rn.load Tryz.isAgg3 rfl ((bk_2.to hS (by first | exact id | omega)).cell rfl)) rfl rfl rfl rfl ?_))
    refine VH.mv (fun w' hS => Rn.add rfl rfl (by rw [IntKind.wrap_i64]; omega)) rfl rfl rfl rfl ?_
    refine VH.mv (fun w' hS => Rn.sliceLH Tryz.underlying39 Tryz.sizeOf53 rfl rfl rfl (by omega) (by omega) (by omega)) rfl rfl rfl rfl ?_
    refine VH.wk (Wk.append (S := At r) Tryz.underlying39 inf53w44 rfl (by decide) rfl rfl (Ow.nil _ _ _) (CR.sub row_2 (i := b.ou.toNat) (j := (b.ou + b.ln).toNat) (by omega) (by omega) (Nat.le_refl _)) (cx_one _) (fun h => absurd h (by omega)) (by omega) (by simp only [maxLen]; omega)) rfl rfl rfl rfl ?_
    rintro _ w3 ⟨r3, A3, k3, rfl, ou3, c3, q3⟩
    have z3 := c3.size
    have RD_3 : Ch (At 0) w2 w3 := (Ch.refl (At 0) w2).then c3 (by intro q h1 h2; rcases h2 with h2 | h2 <;> first | exact h2 | (exfalso; omega) | omega)
    refine ⟨RD_3, ?_⟩
    refine VH.mv (fun w' hS => Rn.assign rfl) rfl rfl rfl rfl (VH.done (VO.mv (Rn.assign rfl) rfl rfl rfl (VO.nil (VQ.noPanic (VQ.then_code (VC.ret (VQ.ret2 rfl rfl rfl ?_)))))))
    refine Ret.mk ?_
    have hl : 0 + ((b.ou + b.ln).toNat - b.ou.toNat) = b.ln.toNat := by omega
    have ou9 := ou3; rw [hl, List.nil_append, show (b.ou + b.ln).toNat - b.ou.toNat = b.ln.toNat by omega] at ou9
    have yo := Ow.r_pos ou9 (by omega)
    have CH_2 := (Ch.refl (No) w).and (c1.trans c2)
    have CH_3 : Ch (No) w w3 := CH_2.then c3 (by intro q h1 h2; rcases h2 with h2 | h2 <;> first | exact h2 | (exfalso; omega) | omega)
    exact ⟨_, _, _, by rw [hl], ou9, by omega, CH_3⟩

end Go.Tm
