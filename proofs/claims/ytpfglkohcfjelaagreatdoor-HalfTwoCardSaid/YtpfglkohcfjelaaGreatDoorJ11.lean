/- Lemmas of this claim, joined by program. Walks of functions: good programs, all operations. Walks of functions: machines made, loaded, read. Walks of functions: a plan's transforms. What a program compiled deep computes, in plain Lean: the order's transform. Conditions: each lemma names its own. -/
import Derived.Test.YtpfglkohcfjelaaGreatDoorJ10
set_option linter.all false
namespace Go.Tm
set_option maxRecDepth 100000
open Go.RowKit Go.Proofs Go.Proofs.Tryz
section
variable {P : Program} {n : Fr} {k : K} {w : World} {d : Option Tmp} {ty : TypeId} {pos : String} {aft : Array Edge} {g : Option (Nat × Bool)} {t t' : TypeId} {x y : Operand} {q : IntKind} {a b : Int}
theorem Rn.lssT (hx : ev k x = some (.int q a)) (hy : ev k y = some (.int q b)) (h : a < b := by omega) : Rn P n k w { dst := d, op := .binOp .lss t x y t', type := ty, pos := pos, after := aft, guard := g } (.bool true) := by
 have := Co (P := P) (n := n) (w := w) (d := d) (ty := ty) (pos := pos) (aft := aft) (g := g) (t := t) (t' := t') hx hy
 rwa [decide_eq_true h] at this
theorem Rn.leqT (hx : ev k x = some (.int q a)) (hy : ev k y = some (.int q b)) (h : a ≤ b := by omega) : Rn P n k w { dst := d, op := .binOp .leq t x y t', type := ty, pos := pos, after := aft, guard := g } (.bool true) := by
 have := Ro (P := P) (n := n) (w := w) (d := d) (ty := ty) (pos := pos) (aft := aft) (g := g) (t := t) (t' := t') hx hy
 rwa [decide_eq_true h] at this
theorem Rn.geqT (hx : ev k x = some (.int q a)) (hy : ev k y = some (.int q b)) (h : b ≤ a := by omega) : Rn P n k w { dst := d, op := .binOp .geq t x y t', type := ty, pos := pos, after := aft, guard := g } (.bool true) := by
 have := Ry (P := P) (n := n) (w := w) (d := d) (ty := ty) (pos := pos) (aft := aft) (g := g) (t := t) (t' := t') hx hy
 rwa [decide_eq_true h] at this
theorem Rn.geqF (hx : ev k x = some (.int q a)) (hy : ev k y = some (.int q b)) (h : a < b := by omega) : Rn P n k w { dst := d, op := .binOp .geq t x y t', type := ty, pos := pos, after := aft, guard := g } (.bool false) := by
 have := Ry (P := P) (n := n) (w := w) (d := d) (ty := ty) (pos := pos) (aft := aft) (g := g) (t := t) (t' := t') hx hy
 rwa [decide_eq_false (by omega)] at this
theorem Wg {m : Nat} {fn : Func} {R : Ending → World → Prop} {s t u sz : Nat} {ty : TypeId} {ad : Addr} {cs : List Value} {v z : Value} (hf : fn.results = #[.tmp s, .cell t ty, .tmp u]) (hs : kget k s = some z) (hv : kget k t = some (.pointer (some ad))) (ht : ∀ w, (isAgg ty).run P w = .ok true w) (hz : ∀ w, (sizeOf ty).run P w = .ok sz w)
  (hl : cs.length = sz) (hc : cellsAt w ad cs) (hu : kget k u = some v) (hR : R (.returned (.tuple #[z, .agg cs.toArray, v])) w) : VQ ⟨m, []⟩ (bodyPost P fn R) .ret k w :=
 VQ.post rfl (fun a ha => by subst hl; have h0 := ha.known s _ hs; have h1 := ha.known t _ hv; have h2 := ha.known u _ hu; simp [results, hf, h0, h1, h2, loadVar, ht, hz, run_loadCells_at hc, asAddr]) hR
end
theorem flat3_get (f : Nat → List Value) (hf : ∀ i, (f i).length = 3) : ∀ (n i : Nat), i < n → ∀ j v, (f i)[j]? = some v → ((List.range n).flatMap f)[i * 3 + j]? = some v
 | 0, _, h, _, _, _ => absurd h (Nat.not_lt_zero _)
 | n + 1, i, h, j, v, hv => by
  have hlen : ∀ n, ((List.range n).flatMap f).length = n * 3 := fun n => by
   induction n with
   | zero => rfl
   | succ n ih => rw [List.range_succ, List.flatMap_append, List.length_append, ih]; simp [hf]; omega
  have hj : j < 3 := by have := (List.getElem?_eq_some_iff.1 hv).1; rw [hf] at this; exact this
  rw [List.range_succ, List.flatMap_append]
  by_cases hi : i < n
  ·
   rw [List.getElem?_append_left (by rw [hlen]; omega)]
   exact flat3_get f hf n i hi j v hv
  ·
   have : i = n := by omega
   subst this
   rw [List.getElem?_append_right (by rw [hlen]; omega), hlen, show i * 3 + j - i * 3 = j by omega]
   simpa using hv
abbrev rowQ (d ju co : Int) (q : Nat) : List Value := [.int .i64 (d + (q : Int) * ju), .int .i64 1, .int .i64 co]
abbrev rowsQ (d ju co : Int) (n : Nat) : List Value := (List.range n).flatMap (rowQ d ju co)
theorem rowsQ_succ (d ju co : Int) (n : Nat) : rowsQ d ju co (n + 1) = rowsQ d ju co n ++ rowQ d ju co n := by simp [rowsQ, List.range_succ]
theorem sl_rowQ {S : Nat → Prop} {w : World} {A : Option Addr} {d ju co : Int} {n : Nat} (h : SlR S w A n 3 (rowsQ d ju co n)) {q : Nat} (hq : q < n) : CaR S w ((sAddr A).add (q * 3)) (rowQ d ju co q) := by
 obtain ⟨ad, had⟩ := h.ne (by omega)
 refine ⟨h.part (i := q) hq (flat3_get _ (fun _ => rfl) n q hq), ?_⟩
 rw [add_block]; subst had; exact h.ok ad rfl
theorem flatS_one (L : List Stp) : (flatS L).all Value.oneCell' = true := by
 rw [List.all_eq_true]
 intro v hv
 obtain ⟨s, _, hs⟩ := List.mem_flatMap.1 hv
 simp only [Stp.cells, List.mem_cons, List.not_mem_nil, or_false] at hs
 rcases hs with rfl | rfl | rfl | rfl | rfl | rfl | rfl <;> rfl
theorem sl_last {S : Nat → Prop} {w : World} {A : Option Addr} {d ju co : Int} {n : Nat} (h : SlR S w A n 3 (rowsQ d ju co n)) (hn : 1 ≤ n) : CaR S w ((sAddr A).add (((n : Int) - 1).toNat * 3)) [.int .i64 (d + ((n : Int) - 1) * ju), .int .i64 1, .int .i64 co] := by
 have := sl_rowQ h (q := n - 1) (by omega)
 rw [show ((n : Int) - 1).toNat = n - 1 by omega]
 have e : ((n - 1 : Nat) : Int) = (n : Int) - 1 := by omega
 simp only [rowQ, e] at this
 exact this
theorem Rn.gtrT {P : Program} {n : Fr} {k : K} {w : World} {d : Option Tmp} {ty : TypeId} {pos : String} {aft : Array Edge} {g : Option (Nat × Bool)} {t t' : TypeId} {x y : Operand} {q : IntKind} {a b : Int} (hx : ev k x = some (.int q a)) (hy : ev k y = some (.int q b)) (h : b < a) : Rn P n k w { dst := d, op := .binOp .gtr t x y t', type := ty, pos := pos, after := aft, guard := g } (.bool true) := by
 have := Rb (P := P) (n := n) (w := w) (d := d) (ty := ty) (pos := pos) (aft := aft) (g := g) (t := t) (t' := t') hx hy
 rwa [decide_eq_true h] at this
theorem inf305w85 : Inf prog 305 (.agg #[.int .i64 0, .int .i64 0, .int .i64 0]) 3 24 := ⟨Tryz.t305, type305, rfl, rfl, rfl⟩
theorem inf312w85 : Inf prog 312 (.agg #[.int .i64 0, .int .i64 0, .int .i64 0, .bool false]) 4 32 := ⟨Tryz.t312, type312, rfl, rfl, rfl⟩
theorem build305w85 {ps : List (Nat × Value)} {cs : Array Value} (h : Instr.fill (fun i => ([(0, 1), (1, 1), (2, 1)] : List (Nat × Nat))[i]?) #[.int .i64 0, .int .i64 0, .int .i64 0] ps = some cs) (w : World) : (Instr.build 305 ps.toArray).run prog w = .ok (.agg cs) w := by
 simp [Instr.build, runUnderlying305, ζ305, ς3, Value.cells, h]
theorem bld305_0_1_2w85 {v0 v1 v2 : Value} (h : [v0, v1, v2].all Value.oneCell' = true) : BLD prog 305 [(0, v0), (1, v1), (2, v2)] #[v0, v1, v2] := build305w85 (fill1 _ _ _ h rfl)
theorem bld312_0_1w85 {v0_0 v0_1 v0_2 v1 : Value} (h : [v1].all Value.oneCell' = true) (w : World) : (Instr.build 312 ([(0, .agg #[v0_0, v0_1, v0_2]), (1, v1)] : List (Nat × Value)).toArray).run prog w = .ok (.agg #[v0_0, v0_1, v0_2, v1]) w := by
 simp only [List.all_cons, Bool.and_eq_true, List.all_nil, and_true] at h
 have hv1 := oneCell_cells (v := v1) (by simp_all)
 have h1 := fill_set (fun i => ([(0, 3), (3, 1)] : List (Nat × Nat))[i]?) [(0, .agg #[v0_0, v0_1, v0_2]), (1, v1)] [.int .i64 0, .int .i64 0, .int .i64 0, .bool false] (by simp [okF, agg_cells, hv1, Nat.beq, Nat.ble])
 simp [setF, agg_cells, hv1] at h1
 simp [Instr.build, runUnderlying312, zeroValue312, ς4, ς305, agg_cells, h1]
theorem cel_last (a j c : Int) (hb : 0 ≤ a ∧ a ≤ 1000000000 ∧ 1 ≤ c ∧ c ≤ 1000000000 ∧ 0 ≤ (c - 1) * j ∧ (c - 1) * j ≤ 1000000000000 ∧ 0 ≤ j ∧ j ≤ 1000000000) (w : World) :
  Calls prog 293 #[.agg #[Kg a, Kg j, Kg c]] w (Ret (fun v w' => v = Kg (a + (c - 1) * j) ∧ Ch No w w')) := by
 refine Ku func293 O ntmps293 O (Kb (Km (Cp O) O ?_))
 intro p1 w1 b1 c1 e1 z1
 refine Ww O O (Wy (Om (Qh υ305 O ς3 O O O) O (Om (Qg ι3 O (b1.cell O)) O (Om (Qh υ305 O ς3 O O O) O ?_))))
 refine Om (Qg ι3 O (b1.cell O)) O ?_
 refine Om (Rg O O) O ?_
 refine Om (Qh υ305 O ς3 O O O) O (Om (Qg ι3 O (b1.cell O)) O ?_)
 refine Om (Cy O O) O ?_
 refine Om (Cd O O) O ?_
 refine Ww O O (Ka (Qp (Qx O O (Kx ?_))))
 have CH_1 := c1
 exact ⟨O, CH_1⟩
theorem cel_has (a j c x : Int) (hx : x < a) (w : World) :
  Calls prog 295 #[.agg #[Kg a, Kg j, Kg c], Kg x] w (Ret (fun v w' => v = Kg (-1) ∧ Ch No w w')) := by
 refine Ku func295 O ntmps295 O (Kb (Km (Cp O) O ?_))
 intro p1 w1 b2 c1 e1 z1
 refine Ww O O (Wz (Kb (Wu O O (Om (Qh υ305 O ς3 O O O) O ?_))))
 refine Om (Qg ι3 O (b2.cell O)) O (Om (Rn.lssT O O) O (Wu O O (Oy O (Oy O (Oy O (Oy O (Om (Qr O O) O ?_)))))))
 refine Wu O O (Oy O (Oy O (Oy O (Oy O (Oy O (Oy O (Oy O ?_)))))))
 refine Oy O (Om (Qr O O) O (Ka (Rd O (Kb (Ww O O ?_)))))
 refine Ka (Qp (Qw (Qx O O (Kx ?_))))
 have CH_1 := c1
 exact ⟨O, CH_1⟩
theorem cel_hasH (a j c x : Int) (hx : a + (c - 1) * j < x) (h0 : a ≤ x) (hb : 0 ≤ a ∧ a ≤ 1000000000 ∧ 1 ≤ c ∧ c ≤ 1000000000 ∧ 0 ≤ (c - 1) * j ∧ (c - 1) * j ≤ 1000000000000 ∧ 0 ≤ j ∧ j ≤ 1000000000) (w : World) :
  Calls prog 295 #[.agg #[Kg a, Kg j, Kg c], Kg x] w (Ret (fun v w' => v = Kg (-1) ∧ Ch No w w')) := by
 refine Ku func295 O ntmps295 O (Kb (Km (Cp O) O ?_))
 intro p1 w1 b2 c1 e1 z1
 refine Ww O O (Wz (Kb (Wu O O (Om (Qh υ305 O ς3 O O O) O ?_))))
 refine Om (Qg ι3 O (b2.cell O)) O (Om (Rn.lssF O O (by omega)) O (Wu O O (Wu O O (Om (Qz ι305 ς305 O O (b2.all' O)) O (Oq (Qi κ293 O (cel_last _ _ _ (by omega) _)) O ?_)))))
 rintro _ w2 ⟨rfl, c2⟩
 have z2 := c2.size
 refine Om (Rn.gtrT O O (by omega)) O (Om (Qm O O) O (Wu O O (Oy O (Oy O (Oy O (Oy O (Oy O ?_)))))))
 refine Oy O (Oy O (Oy O (Om (Qr O O) O (Ka (Rd O (Qe ?_))))))
 refine Qb (Ww O O (Ka (Qp (Qw (Qx O O (Kx ?_))))))
 have CH_2 := (c1.trans c2)
 exact ⟨O, CH_2⟩
theorem cel_hasG (a j c x : Int) (hx : x < a ∨ a + (c - 1) * j < x) (hb : 0 ≤ a ∧ a ≤ 1000000000 ∧ 1 ≤ c ∧ c ≤ 1000000000 ∧ 0 ≤ (c - 1) * j ∧ (c - 1) * j ≤ 1000000000000 ∧ 0 ≤ j ∧ j ≤ 1000000000) (w : World) : Calls prog 295 #[.agg #[Kg a, Kg j, Kg c], Kg x] w (Ret fun v w' => v = Kg (-1) ∧ Ch No w w') := by
 by_cases h : x < a
 · exact cel_has a j c x h w
 · exact cel_hasH a j c x (by omega) (by omega) hb w
theorem steps_Form (s : Stp) (w : World) (st : StT w) (hf : formM s = true) (hG : 24 ≤ w.heap.size := by omega) :
  Calls prog 291 #[.agg #[Kg s.op, Kg s.dst, Kg s.src, Kg s.jump, Kg s.count, Kg s.n, Kg s.k]] w (Ret (fun v w' => v = .nilIface ∧ Ch No w w')) := by
 have hnb := form_n hf
 refine Ku func291 O ntmps291 O (Kb (Km (Cp O) O ?_))
 intro p1 w1 b1 c1 e1 z1
 refine Ww O O (Wz (Kb (Om (Qz ι135 ς135 O O (b1.all' O)) O ?_)))
 have st_1 := st.keep c1
 refine Oq (Qi call202 O (steps_form_ok s _ st_1 (by omega) hf)) O ?_
 rintro _ w2 ⟨rfl, c2⟩
 have z2 := c2.size
 refine Om (Rm O) O (Ka (Cc O (Qn (Qa (Kb ?_)))))
 refine Ww O O (Ka (Qp (Qx O O (Kx ?_))))
 have CH_2 := (c1.trans c2)
 exact ⟨O, CH_2⟩
theorem touched1 (d sr ju co nn kk : Int) (w : World) :
  Calls prog 294 #[.agg #[Kg 1, Kg d, Kg sr, Kg ju, Kg co, Kg nn, Kg kk]] w (Ret (fun v w' => ∃ q, v = .tuple #[.slice (Ki q) 1 1, .agg #[Kg d, Kg 1, Kg co], .bool false] ∧ SlR (Is q) w' (Ki q) 1 4 [Kg sr, Kg ju, Kg co, .bool false] ∧ w.heap.size ≤ q ∧ Ch No w w')) := by
 refine Ku func294 O ntmps294 O (Kb (Km (Cp O) O ?_))
 intro p1 w1 b1 c1 e1 z1
 refine Ww O O (Km (Ck ζ305) O ?_)
 intro p2 w2 b3 c2 e2 z2
 refine Ww O O (Wy (Om (Qh υ135 O ς3 O O O) O ?_))
 have b1_2 := b1.keep c2
 refine Om (Qg ι3 O (b1_2.cell O)) O (Om (Qh υ135 O ς3 O O O) O (Om (Qg ι3 O (b1_2.cell O)) O (Om (Ct O (bld305_0_1_2w85 O)) O (Ks (Cl ς305 O O O O b3) O ?_))))
 intro w3 c3 z3 b3_3
 refine Wz (Kb (Om (Qh υ135 O ς3 O O O) O ?_))
 have b1_3 := b1_2.to c3
 refine Om (Qg ι3 O (b1_3.cell O)) O (Ka (Qt (Kb (Om (Cg O O) O (Ww O O ?_)))))
 refine Ka (Qj O (fun hc1 => ?_) (fun hc1 => ?_))
 ·
  refine Qe (Wj 12 (.mv 0 (.mv 1 (.mv 2 (.mv 3 (.mv 4 (.mv 5 (.mv 6 (.mv 7 (.two 8 (.mv 10 (.wk 9 (.wk 11 .nil))) 9 (.wk 8 (.mv 10 (.wk 11 .nil)))))))))))) (fun w1 w' => Ch (Is p2) w1 w') mixed (by kernel_rfl) (fun _ _ => Ch.refl _ _) ?_)
  intro w4 D4
  have c4 := Ch.of_drew D4; have z4 := c4.size
  have b1_4 := b1_3.keep c4
  have b3_4 := b3_3.keep c4
  refine Rc (fun w' hS => Qh υ135 O ς3 O O O) O O O O (Rc (fun w' hS => Qg ι3 O ((b1_4.to hS).cell O)) O O O O (Rc (fun w' hS => Qh υ135 O ς3 O O O) O O O O (Rc (fun w' hS => Qg ι3 O ((b1_4.to hS).cell O)) O O O O (Rc (fun w' hS => Qh υ135 O ς3 O O O) O O O O (Rc (fun w' hS => Qg ι3 O ((b1_4.to hS).cell O)) O O O O (Rc (fun w' hS => Ct O (bld305_0_1_2w85 O)) O O O O (Rc (fun w' hS => Ct O (bld312_0_1w85 O)) O O O O ?_)))))))
  refine Wl ?_ ?_
  ·
   refine Rs (Kl υ308 inf312w85 O O) O O O O ?_
   rintro _ w5 ⟨p5, rfl, N5⟩
   have c5 := N5.ch
   have e5 := N5.p; have z5 := N5.size
   have l22 := SlR.of_new (sz := 4) (l := 1) N5 rfl
   have l22o := Ow.of_new (sz := 4) (l := 1) N5 rfl (by decide)
   have RD_5 := (Ch.refl (Is p2) w4).and c5
   refine ⟨RD_5, ?_⟩
   refine Rc (fun w' hS => Qd O) O O O O ?_
   have b3_5 := b3_4.keep c5
   refine Ru (Qz ι305 ς305 O O (b3_5.all' O)) O O O O RD_5 (Wm (Cl ς305 O O O O b3_5) O O O ?_)
   intro _ w6 Z6
   obtain ⟨c6, z6⟩ := Z6.cz
   have b3_6 := Bk.put Z6
   have RD_6 : Ch (Is p2) w4 w6 := RD_5.then c6
   refine ⟨RD_6, ?_⟩
   refine Rr (Ww O O (Qf (Ca (Qa (Qp (Cb (Qw ?_)))))))
   refine Wg O O O ι305 ς305 O (b3_6.all' O) O (Kx ?_)
   have cc_0_6 : Ch No w w6 := (Ch.then (E := No) (((Ch.then (E := No) (c1.and c2) c3).and c4).and c5) c6)
   have CH_6 := cc_0_6
   have zz := CH_6.size
   have l22_6 := l22.to c6
   exact ⟨_, O, l22_6, by omega, CH_6⟩
  refine Ru (Qz ι305 ς305 O O (b3_4.all' O)) O O O O (Ch.refl (Is p2) w4) (Rs (Kl υ308 inf312w85 O O) O O O O ?_)
  rintro _ w7 ⟨p7, rfl, N7⟩
  have c7 := N7.ch
  have e7 := N7.p; have z7 := N7.size
  have l22 := SlR.of_new (sz := 4) (l := 1) N7 rfl
  have l22o := Ow.of_new (sz := 4) (l := 1) N7 rfl (by decide)
  have RD_7 := (Ch.refl (Is p2) w4).and c7
  refine ⟨RD_7, ?_⟩
  refine Rc (fun w' hS => Qd O) O O O O ?_
  have b3_7 := b3_4.keep c7
  refine Wm (Cl ς305 O O O O b3_7) O O O ?_
  intro _ w8 Z8
  obtain ⟨c8, z8⟩ := Z8.cz
  have b3_8 := Bk.put Z8
  have RD_8 : Ch (Is p2) w4 w8 := RD_7.then c8
  refine ⟨RD_8, ?_⟩
  refine Rr (Ww O O (Qf (Ca (Qa (Qp (Cb (Qw ?_)))))))
  refine Wg O O O ι305 ς305 O (b3_8.all' O) O (Kx ?_)
  have cc_0_8 : Ch No w w8 := (Ch.then (E := No) (((Ch.then (E := No) (c1.and c2) c3).and c4).and c7) c8)
  have CH_8 := cc_0_8
  have zz := CH_8.size
  have l22_8 := l22.to c8
  exact ⟨_, O, l22_8, by omega, CH_8⟩
 exact absurd O hc1
theorem touched2 (d sr ju co nn kk : Int) (w : World) :
  Calls prog 294 #[.agg #[Kg 2, Kg d, Kg sr, Kg ju, Kg co, Kg nn, Kg kk]] w (Ret (fun v w' => ∃ q, v = .tuple #[.slice (Ki q) 1 1, .agg #[Kg d, Kg ju, Kg co], .bool false] ∧ SlR (Is q) w' (Ki q) 1 4 [Kg sr, Kg 1, Kg co, .bool false] ∧ w.heap.size ≤ q ∧ Ch No w w')) := by
 refine Ku func294 O ntmps294 O (Kb (Km (Cp O) O ?_))
 intro p1 w1 b1 c1 e1 z1
 refine Ww O O (Km (Ck ζ305) O ?_)
 intro p2 w2 b3 c2 e2 z2
 refine Ww O O (Wy (Om (Qh υ135 O ς3 O O O) O ?_))
 have b1_2 := b1.keep c2
 refine Om (Qg ι3 O (b1_2.cell O)) O (Om (Qh υ135 O ς3 O O O) O (Om (Qg ι3 O (b1_2.cell O)) O (Om (Ct O (bld305_0_1_2w85 O)) O (Ks (Cl ς305 O O O O b3) O ?_))))
 intro w3 c3 z3 b3_3
 refine Wz (Kb (Om (Qh υ135 O ς3 O O O) O ?_))
 have b1_3 := b1_2.to c3
 refine Om (Qg ι3 O (b1_3.cell O)) O (Ka (Qt (Kb (Om (Cg O O) O (Ww O O ?_)))))
 refine Ka (Qj O (fun hc1 => ?_) (fun hc1 => ?_))
 · omega
 refine Kb (Om (Cg O O) O (Ww O O (Ka (Qj O (fun hc2 => ?_) (fun hc2 => ?_)))))
 ·
  refine Qe (Kj 16 [0, 2, 4, 6, 8, 10, 14, 16, 18, 20, 22, 24, 26, 13, 28, 31] (Is p2) ?_)
  intro w4 c4 z4
  have b1_4 := b1_3.keep c4
  have b3_4 := b3_3.keep c4
  refine Ws (Qh υ135 O ς3 O O O) O (Wt (fun hS => Qg ι3 O ((b1_4.to hS).cell O)) O (Ws (Qh υ135 O ς3 O O O) O (Wt (fun hS => Qg ι3 O ((b1_4.to hS).cell O)) O (Ws (Ct O (bld305_0_1_2w85 O)) O (Ws (Ct O (bld312_0_1w85 O)) O (Ws (Qh υ135 O ς3 O O O) O (Wt (fun hS => Qg ι3 O ((b1_4.to hS).cell O)) O ?_)))))))
  refine Ws (Qh υ135 O ς3 O O O) O (Wt (fun hS => Qg ι3 O ((b1_4.to hS).cell O)) O (Ws (Qh υ135 O ς3 O O O) O (Wt (fun hS => Qg ι3 O ((b1_4.to hS).cell O)) O (Ws (Ct O (bld305_0_1_2w85 O)) O (Kr 4 1 (Kl υ308 inf312w85 O O) O ?_)))))
  intro p5 w5 l32 l32o c5 e5 z5
  have RD_5 := (Ch.refl (Is p2) w4).and c5
  refine ⟨RD_5, ?_⟩
  refine Wx O O ?_
  have b3_5 := b3_4.keep c5
  refine Kt (Cl ς305 O O O O b3_5) O ?_
  intro w6 c6 z6 b3_6
  have RD_6 : Ch (Is p2) w4 w6 := RD_5.then c6
  refine ⟨RD_6, ?_⟩
  refine Cj (Ww O O (Qf (Ca (Qa (Qp (Cb (Qw ?_)))))))
  refine Wg O O O ι305 ς305 O (b3_6.all' O) O (Kx ?_)
  have cc_0_6 : Ch No w w6 := (Ch.then (E := No) (((Ch.then (E := No) (c1.and c2) c3).and c4).and c5) c6)
  have CH_6 := cc_0_6
  have zz := CH_6.size
  have l32_6 := l32.to c6
  exact ⟨_, O, l32_6, by omega, CH_6⟩
 omega
theorem touched6 (d sr ju co nn kk : Int) (w : World) :
  Calls prog 294 #[.agg #[Kg 6, Kg d, Kg sr, Kg ju, Kg co, Kg nn, Kg kk]] w (Ret (fun v w' => ∃ q, v = .tuple #[.slice (Ki q) 1 1, .agg #[Kg d, Kg 1, Kg co], .bool false] ∧ SlR (Is q) w' (Ki q) 1 4 [Kg sr, Kg ju, Kg nn, .bool true] ∧ w.heap.size ≤ q ∧ Ch No w w')) := by
 refine Ku func294 O ntmps294 O (Kb (Km (Cp O) O ?_))
 intro p1 w1 b1 c1 e1 z1
 refine Ww O O (Km (Ck ζ305) O ?_)
 intro p2 w2 b3 c2 e2 z2
 refine Ww O O (Wy (Om (Qh υ135 O ς3 O O O) O ?_))
 have b1_2 := b1.keep c2
 refine Om (Qg ι3 O (b1_2.cell O)) O (Om (Qh υ135 O ς3 O O O) O (Om (Qg ι3 O (b1_2.cell O)) O (Om (Ct O (bld305_0_1_2w85 O)) O (Ks (Cl ς305 O O O O b3) O ?_))))
 intro w3 c3 z3 b3_3
 refine Wz (Kb (Om (Qh υ135 O ς3 O O O) O ?_))
 have b1_3 := b1_2.to c3
 refine Om (Qg ι3 O (b1_3.cell O)) O (Ka (Qt (Kb (Om (Cg O O) O (Ww O O ?_)))))
 refine Ka (Qj O (fun hc1 => ?_) (fun hc1 => ?_))
 · omega
 refine Kb (Om (Cg O O) O (Ww O O (Ka (Qj O (fun hc2 => ?_) (fun hc2 => ?_)))))
 · omega
 refine Qe (Kb (Om (Cg O O) O (Ww O O (Ka (Qj O (fun hc3 => ?_) (fun hc3 => ?_))))))
 · omega
 refine Qb (Om (Cg O O) O (Ww O O (Ka (Qj O (fun hc4 => ?_) (fun hc4 => ?_)))))
 · omega
 refine Kb (Om (Cg O O) O (Ww O O (Ka (Qj O (fun hc5 => ?_) (fun hc5 => ?_)))))
 ·
  refine Qe (Wj 12 (.mv 0 (.mv 1 (.mv 2 (.mv 3 (.mv 4 (.mv 5 (.mv 6 (.mv 7 (.two 8 (.mv 10 (.wk 9 (.wk 11 .nil))) 9 (.wk 8 (.mv 10 (.wk 11 .nil)))))))))))) (fun w1 w' => Ch (Is p2) w1 w') mixed (by kernel_rfl) (fun _ _ => Ch.refl _ _) ?_)
  intro w4 D4
  have c4 := Ch.of_drew D4; have z4 := c4.size
  have b1_4 := b1_3.keep c4
  have b3_4 := b3_3.keep c4
  refine Rc (fun w' hS => Qh υ135 O ς3 O O O) O O O O (Rc (fun w' hS => Qg ι3 O ((b1_4.to hS).cell O)) O O O O (Rc (fun w' hS => Qh υ135 O ς3 O O O) O O O O (Rc (fun w' hS => Qg ι3 O ((b1_4.to hS).cell O)) O O O O (Rc (fun w' hS => Qh υ135 O ς3 O O O) O O O O (Rc (fun w' hS => Qg ι3 O ((b1_4.to hS).cell O)) O O O O (Rc (fun w' hS => Ct O (bld305_0_1_2w85 O)) O O O O (Rc (fun w' hS => Ct O (bld312_0_1w85 O)) O O O O ?_)))))))
  refine Wl ?_ ?_
  ·
   refine Rs (Kl υ308 inf312w85 O O) O O O O ?_
   rintro _ w5 ⟨p5, rfl, N5⟩
   have c5 := N5.ch
   have e5 := N5.p; have z5 := N5.size
   have l54 := SlR.of_new (sz := 4) (l := 1) N5 rfl
   have l54o := Ow.of_new (sz := 4) (l := 1) N5 rfl (by decide)
   have RD_5 := (Ch.refl (Is p2) w4).and c5
   refine ⟨RD_5, ?_⟩
   refine Rc (fun w' hS => Qd O) O O O O ?_
   have b3_5 := b3_4.keep c5
   refine Ru (Qz ι305 ς305 O O (b3_5.all' O)) O O O O RD_5 (Wm (Cl ς305 O O O O b3_5) O O O ?_)
   intro _ w6 Z6
   obtain ⟨c6, z6⟩ := Z6.cz
   have b3_6 := Bk.put Z6
   have RD_6 : Ch (Is p2) w4 w6 := RD_5.then c6
   refine ⟨RD_6, ?_⟩
   refine Rr (Ww O O (Qf (Ca (Qa (Qp (Cb (Qw ?_)))))))
   refine Wg O O O ι305 ς305 O (b3_6.all' O) O (Kx ?_)
   have cc_0_6 : Ch No w w6 := (Ch.then (E := No) (((Ch.then (E := No) (c1.and c2) c3).and c4).and c5) c6)
   have CH_6 := cc_0_6
   have zz := CH_6.size
   have l54_6 := l54.to c6
   exact ⟨_, O, l54_6, by omega, CH_6⟩
  refine Ru (Qz ι305 ς305 O O (b3_4.all' O)) O O O O (Ch.refl (Is p2) w4) (Rs (Kl υ308 inf312w85 O O) O O O O ?_)
  rintro _ w7 ⟨p7, rfl, N7⟩
  have c7 := N7.ch
  have e7 := N7.p; have z7 := N7.size
  have l54 := SlR.of_new (sz := 4) (l := 1) N7 rfl
  have l54o := Ow.of_new (sz := 4) (l := 1) N7 rfl (by decide)
  have RD_7 := (Ch.refl (Is p2) w4).and c7
  refine ⟨RD_7, ?_⟩
  refine Rc (fun w' hS => Qd O) O O O O ?_
  have b3_7 := b3_4.keep c7
  refine Wm (Cl ς305 O O O O b3_7) O O O ?_
  intro _ w8 Z8
  obtain ⟨c8, z8⟩ := Z8.cz
  have b3_8 := Bk.put Z8
  have RD_8 : Ch (Is p2) w4 w8 := RD_7.then c8
  refine ⟨RD_8, ?_⟩
  refine Rr (Ww O O (Qf (Ca (Qa (Qp (Cb (Qw ?_)))))))
  refine Wg O O O ι305 ς305 O (b3_8.all' O) O (Kx ?_)
  have cc_0_8 : Ch No w w8 := (Ch.then (E := No) (((Ch.then (E := No) (c1.and c2) c3).and c4).and c7) c8)
  have CH_8 := cc_0_8
  have zz := CH_8.size
  have l54_8 := l54.to c8
  exact ⟨_, O, l54_8, by omega, CH_8⟩
 omega
theorem touched9 (d sr ju co nn kk : Int) (w : World) :
  Calls prog 294 #[.agg #[Kg 9, Kg d, Kg sr, Kg ju, Kg co, Kg nn, Kg kk]] w (Ret (fun v w' => ∃ q, v = .tuple #[.slice (Ki q) 1 1, .agg #[Kg d, Kg 1, Kg co], .bool true] ∧ SlR (Is q) w' (Ki q) 1 4 [Kg sr, Kg 1, Kg co, .bool false] ∧ w.heap.size ≤ q ∧ Ch No w w')) := by
 refine Ku func294 O ntmps294 O (Kb (Km (Cp O) O ?_))
 intro p1 w1 b1 c1 e1 z1
 refine Ww O O (Km (Ck ζ305) O ?_)
 intro p2 w2 b3 c2 e2 z2
 refine Ww O O (Wy (Om (Qh υ135 O ς3 O O O) O ?_))
 have b1_2 := b1.keep c2
 refine Om (Qg ι3 O (b1_2.cell O)) O (Om (Qh υ135 O ς3 O O O) O (Om (Qg ι3 O (b1_2.cell O)) O (Om (Ct O (bld305_0_1_2w85 O)) O (Ks (Cl ς305 O O O O b3) O ?_))))
 intro w3 c3 z3 b3_3
 refine Wz (Kb (Om (Qh υ135 O ς3 O O O) O ?_))
 have b1_3 := b1_2.to c3
 refine Om (Qg ι3 O (b1_3.cell O)) O (Ka (Qt (Kb (Om (Cg O O) O (Ww O O ?_)))))
 refine Ka (Qj O (fun hc1 => ?_) (fun hc1 => ?_))
 · omega
 refine Kb (Om (Cg O O) O (Ww O O (Ka (Qj O (fun hc2 => ?_) (fun hc2 => ?_)))))
 · omega
 refine Qe (Kb (Om (Cg O O) O (Ww O O (Ka (Qj O (fun hc3 => ?_) (fun hc3 => ?_))))))
 · omega
 refine Qb (Om (Cg O O) O (Ww O O (Ka (Qj O (fun hc4 => ?_) (fun hc4 => ?_)))))
 · omega
 refine Kb (Om (Cg O O) O (Ww O O (Ka (Qj O (fun hc5 => ?_) (fun hc5 => ?_)))))
 · omega
 refine Kb (Om (Cg O O) O (Ww O O (Ka (Qj O (fun hc6 => ?_) (fun hc6 => ?_)))))
 ·
  refine Qe (Wj 10 (.mv 0 (.mv 1 (.mv 2 (.mv 3 (.mv 4 (.mv 5 (.two 6 (.mv 8 (.wk 7 (.wk 9 .nil))) 7 (.wk 6 (.mv 8 (.wk 9 .nil)))))))))) (fun w1 w' => Ch (Is p2) w1 w') mixed (by kernel_rfl) (fun _ _ => Ch.refl _ _) ?_)
  intro w4 D4
  have c4 := Ch.of_drew D4; have z4 := c4.size
  have b1_4 := b1_3.keep c4
  have b3_4 := b3_3.keep c4
  refine Rc (fun w' hS => Qh υ135 O ς3 O O O) O O O O (Rc (fun w' hS => Qg ι3 O ((b1_4.to hS).cell O)) O O O O (Rc (fun w' hS => Qh υ135 O ς3 O O O) O O O O (Rc (fun w' hS => Qg ι3 O ((b1_4.to hS).cell O)) O O O O (Rc (fun w' hS => Ct O (bld305_0_1_2w85 O)) O O O O (Rc (fun w' hS => Ct O (bld312_0_1w85 O)) O O O O (Wl ?_ ?_))))))
  ·
   refine Rs (Kl υ308 inf312w85 O O) O O O O ?_
   rintro _ w5 ⟨p5, rfl, N5⟩
   have c5 := N5.ch
   have e5 := N5.p; have z5 := N5.size
   have l64 := SlR.of_new (sz := 4) (l := 1) N5 rfl
   have l64o := Ow.of_new (sz := 4) (l := 1) N5 rfl (by decide)
   have RD_5 := (Ch.refl (Is p2) w4).and c5
   refine ⟨RD_5, ?_⟩
   refine Rc (fun w' hS => Qd O) O O O O ?_
   have b3_5 := b3_4.keep c5
   refine Ru (Qz ι305 ς305 O O (b3_5.all' O)) O O O O RD_5 (Wm (Cl ς305 O O O O b3_5) O O O ?_)
   intro _ w6 Z6
   obtain ⟨c6, z6⟩ := Z6.cz
   have b3_6 := Bk.put Z6
   have RD_6 : Ch (Is p2) w4 w6 := RD_5.then c6
   refine ⟨RD_6, ?_⟩
   refine Rr (Ww O O (Qf (Ca (Qa (Qp (Cb (Qw ?_)))))))
   refine Wg O O O ι305 ς305 O (b3_6.all' O) O (Kx ?_)
   have cc_0_6 : Ch No w w6 := (Ch.then (E := No) (((Ch.then (E := No) (c1.and c2) c3).and c4).and c5) c6)
   have CH_6 := cc_0_6
   have zz := CH_6.size
   have l64_6 := l64.to c6
   exact ⟨_, O, l64_6, by omega, CH_6⟩
  refine Ru (Qz ι305 ς305 O O (b3_4.all' O)) O O O O (Ch.refl (Is p2) w4) (Rs (Kl υ308 inf312w85 O O) O O O O ?_)
  rintro _ w7 ⟨p7, rfl, N7⟩
  have c7 := N7.ch
  have e7 := N7.p; have z7 := N7.size
  have l64 := SlR.of_new (sz := 4) (l := 1) N7 rfl
  have l64o := Ow.of_new (sz := 4) (l := 1) N7 rfl (by decide)
  have RD_7 := (Ch.refl (Is p2) w4).and c7
  refine ⟨RD_7, ?_⟩
  refine Rc (fun w' hS => Qd O) O O O O ?_
  have b3_7 := b3_4.keep c7
  refine Wm (Cl ς305 O O O O b3_7) O O O ?_
  intro _ w8 Z8
  obtain ⟨c8, z8⟩ := Z8.cz
  have b3_8 := Bk.put Z8
  have RD_8 : Ch (Is p2) w4 w8 := RD_7.then c8
  refine ⟨RD_8, ?_⟩
  refine Rr (Ww O O (Qf (Ca (Qa (Qp (Cb (Qw ?_)))))))
  refine Wg O O O ι305 ς305 O (b3_8.all' O) O (Kx ?_)
  have cc_0_8 : Ch No w w8 := (Ch.then (E := No) (((Ch.then (E := No) (c1.and c2) c3).and c4).and c7) c8)
  have CH_8 := cc_0_8
  have zz := CH_8.size
  have l64_8 := l64.to c8
  exact ⟨_, O, l64_8, by omega, CH_8⟩
 omega
theorem touched3 (op d sr ju co nn kk : Int) (ho : op = 3) (w : World) :
  Calls prog 294 #[.agg #[Kg op, Kg d, Kg sr, Kg ju, Kg co, Kg nn, Kg kk]] w (Ret (fun v w' => v = .tuple #[.slice none 0 0, .agg #[Kg d, Kg 1, Kg co], .bool false] ∧ Ch No w w')) := by
 refine Ku func294 O ntmps294 O (Kb (Km (Cp O) O ?_))
 intro p1 w1 b1 c1 e1 z1
 refine Ww O O (Km (Ck ζ305) O ?_)
 intro p2 w2 b3 c2 e2 z2
 refine Ww O O (Wy (Om (Qh υ135 O ς3 O O O) O ?_))
 have b1_2 := b1.keep c2
 refine Om (Qg ι3 O (b1_2.cell O)) O (Om (Qh υ135 O ς3 O O O) O (Om (Qg ι3 O (b1_2.cell O)) O (Om (Ct O (bld305_0_1_2w85 O)) O (Ks (Cl ς305 O O O O b3) O ?_))))
 intro w3 c3 z3 b3_3
 refine Wz (Kb (Om (Qh υ135 O ς3 O O O) O ?_))
 have b1_3 := b1_2.to c3
 refine Om (Qg ι3 O (b1_3.cell O)) O (Ka (Qt (Kb (Om (Cg O O) O (Ww O O ?_)))))
 refine Ka (Qj O (fun hc1 => ?_) (fun hc1 => ?_))
 · omega
 refine Kb (Om (Cg O O) O (Ww O O (Ka (Qj O (fun hc2 => ?_) (fun hc2 => ?_)))))
 · omega
 refine Qe (Kb (Om (Cg O O) O (Ww O O (Ka (Qj O (fun hc3 => ?_) (fun hc3 => ?_))))))
 ·
  refine Qn (Qa (Qj O (fun hc4 => ?_) (fun hc4 => ?_)))
  ·
   refine Qe (Kj 3 [2, 1, 5] (Is p2) ?_)
   intro w4 c4 z4
   refine Wx O O ?_
   have b3_4 := b3_3.keep c4
   refine VH.late (Qz ι305 ς305 O O (b3_4.all' O)) O O O O (Ch.refl (Is p2) w4) (Kt (Cl ς305 O O O O b3_4) O ?_)
   intro w5 c5 z5 b3_5
   have RD_5 : Ch (Is p2) w4 w5 := (Ch.refl (Is p2) w4).then c5
   refine ⟨RD_5, ?_⟩
   refine Cj (Ww O O (Qf (Ca (Qa (Qp (Cb (Qw ?_)))))))
   refine Wg O O O ι305 ς305 O (b3_5.all' O) O (Kx ?_)
   have cc_0_5 : Ch No w w5 := (Ch.then (E := No) ((Ch.then (E := No) (c1.and c2) c3).and c4) c5)
   have CH_5 := cc_0_5
   exact ⟨O, CH_5⟩
  omega
 omega
theorem touched8 (op d sr ju co nn kk : Int) (ho : op = 8) (w : World) :
  Calls prog 294 #[.agg #[Kg op, Kg d, Kg sr, Kg ju, Kg co, Kg nn, Kg kk]] w (Ret (fun v w' => v = .tuple #[.slice none 0 0, .agg #[Kg d, Kg 1, Kg co], .bool false] ∧ Ch No w w')) := by
 refine Ku func294 O ntmps294 O (Kb (Km (Cp O) O ?_))
 intro p1 w1 b1 c1 e1 z1
 refine Ww O O (Km (Ck ζ305) O ?_)
 intro p2 w2 b3 c2 e2 z2
 refine Ww O O (Wy (Om (Qh υ135 O ς3 O O O) O ?_))
 have b1_2 := b1.keep c2
 refine Om (Qg ι3 O (b1_2.cell O)) O (Om (Qh υ135 O ς3 O O O) O (Om (Qg ι3 O (b1_2.cell O)) O (Om (Ct O (bld305_0_1_2w85 O)) O (Ks (Cl ς305 O O O O b3) O ?_))))
 intro w3 c3 z3 b3_3
 refine Wz (Kb (Om (Qh υ135 O ς3 O O O) O ?_))
 have b1_3 := b1_2.to c3
 refine Om (Qg ι3 O (b1_3.cell O)) O (Ka (Qt (Kb (Om (Cg O O) O (Ww O O ?_)))))
 refine Ka (Qj O (fun hc1 => ?_) (fun hc1 => ?_))
 · omega
 refine Kb (Om (Cg O O) O (Ww O O (Ka (Qj O (fun hc2 => ?_) (fun hc2 => ?_)))))
 · omega
 refine Qe (Kb (Om (Cg O O) O (Ww O O (Ka (Qj O (fun hc3 => ?_) (fun hc3 => ?_))))))
 · omega
 refine Qb (Om (Cg O O) O (Ww O O (Ka (Qj O (fun hc4 => ?_) (fun hc4 => ?_)))))
 ·
  refine Qe (Kj 3 [2, 1, 5] (Is p2) ?_)
  intro w4 c4 z4
  refine Wx O O ?_
  have b3_4 := b3_3.keep c4
  refine VH.late (Qz ι305 ς305 O O (b3_4.all' O)) O O O O (Ch.refl (Is p2) w4) (Kt (Cl ς305 O O O O b3_4) O ?_)
  intro w5 c5 z5 b3_5
  have RD_5 : Ch (Is p2) w4 w5 := (Ch.refl (Is p2) w4).then c5
  refine ⟨RD_5, ?_⟩
  refine Cj (Ww O O (Qf (Ca (Qa (Qp (Cb (Qw ?_)))))))
  refine Wg O O O ι305 ς305 O (b3_5.all' O) O (Kx ?_)
  have cc_0_5 : Ch No w w5 := (Ch.then (E := No) ((Ch.then (E := No) (c1.and c2) c3).and c4) c5)
  have CH_5 := cc_0_5
  exact ⟨O, CH_5⟩
 omega
theorem touchedO (op d sr ju co nn kk : Int) (ho : op = 4 ∨ op = 7 ∨ 10 ≤ op) (w : World) :
  Calls prog 294 #[.agg #[Kg op, Kg d, Kg sr, Kg ju, Kg co, Kg nn, Kg kk]] w (Ret (fun v w' => v = .tuple #[.slice none 0 0, .agg #[Kg d, Kg 1, Kg co], .bool true] ∧ Ch No w w')) := by
 refine Ku func294 O ntmps294 O (Kb (Km (Cp O) O ?_))
 intro p1 w1 b1 c1 e1 z1
 refine Ww O O (Km (Ck ζ305) O ?_)
 intro p2 w2 b3 c2 e2 z2
 refine Ww O O (Wy (Om (Qh υ135 O ς3 O O O) O ?_))
 have b1_2 := b1.keep c2
 refine Om (Qg ι3 O (b1_2.cell O)) O (Om (Qh υ135 O ς3 O O O) O (Om (Qg ι3 O (b1_2.cell O)) O (Om (Ct O (bld305_0_1_2w85 O)) O (Ks (Cl ς305 O O O O b3) O ?_))))
 intro w3 c3 z3 b3_3
 refine Wz (Kb (Om (Qh υ135 O ς3 O O O) O ?_))
 have b1_3 := b1_2.to c3
 refine Om (Qg ι3 O (b1_3.cell O)) O (Ka (Qt (Kb (Om (Cg O O) O (Ww O O ?_)))))
 refine Ka (Qj O (fun hc1 => ?_) (fun hc1 => ?_))
 · omega
 refine Kb (Om (Cg O O) O (Ww O O (Ka (Qj O (fun hc2 => ?_) (fun hc2 => ?_)))))
 · omega
 refine Qe (Kb (Om (Cg O O) O (Ww O O (Ka (Qj O (fun hc3 => ?_) (fun hc3 => ?_))))))
 · omega
 refine Qb (Om (Cg O O) O (Ww O O (Ka (Qj O (fun hc4 => ?_) (fun hc4 => ?_)))))
 · omega
 refine Kb (Om (Cg O O) O (Ww O O (Ka (Qj O (fun hc5 => ?_) (fun hc5 => ?_)))))
 · omega
 refine Kb (Om (Cg O O) O (Ww O O (Ka (Qj O (fun hc6 => ?_) (fun hc6 => ?_)))))
 · omega
 refine Qn (Ql (Qa (Qe (Kj 3 [2, 1, 5] (Is p2) ?_))))
 intro w4 c4 z4
 refine Wx O O ?_
 have b3_4 := b3_3.keep c4
 refine VH.late (Qz ι305 ς305 O O (b3_4.all' O)) O O O O (Ch.refl (Is p2) w4) (Kt (Cl ς305 O O O O b3_4) O ?_)
 intro w5 c5 z5 b3_5
 have RD_5 : Ch (Is p2) w4 w5 := (Ch.refl (Is p2) w4).then c5
 refine ⟨RD_5, ?_⟩
 refine Cj (Ww O O (Qf (Ca (Qa (Qp (Wg O O O ι305 ς305 O (b3_5.all' O) O (Kx ?_)))))))
 have cc_0_5 : Ch No w w5 := (Ch.then (E := No) ((Ch.then (E := No) (c1.and c2) c3).and c4) c5)
 have CH_5 := cc_0_5
 exact ⟨O, CH_5⟩
theorem good_R (n : Int) (w : World) (st : StT w) (op d sr ju co nn kk : Int) (hf : formM ⟨op, d, sr, ju, co, nn, kk⟩ = true) (h5 : ¬ op = 5) (wa wj wc : Int) (own : Bool) (hw : 0 ≤ wa ∧ 1 ≤ wc ∧ wc ≤ 1000000 ∧ 0 ≤ wj ∧ wj ≤ 1000000) (hw2 : wa + (wc - 1) * wj < n) (hn : n ≤ 1000000) (hG : 24 ≤ w.heap.size) (ra rj rc : Int) (ev : Bool) (hr : 0 ≤ ra ∧ 1 ≤ rc ∧ rc ≤ 1000000 ∧ 0 ≤ rj ∧ rj ≤ 1000000) (hr2 : ra + (rc - 1) * rj < n) (hnot : ∀ j : Nat, (j : Int) < rc → (ra + (j : Int) * rj < wa ∨ wa + (wc - 1) * wj < ra + (j : Int) * rj)) (ht : ∀ w, Calls prog 294 #[.agg #[Kg op, Kg d, Kg sr, Kg ju, Kg co, Kg nn, Kg kk]] w (Ret (fun v w' => ∃ q, v = .tuple #[.slice (Ki q) 1 1, .agg #[Kg wa, Kg wj, Kg wc], .bool own] ∧ SlR (Is q) w' (Ki q) 1 4 [Kg ra, Kg rj, Kg rc, .bool ev] ∧ w.heap.size ≤ q ∧ Ch No w w'))) :
  Calls prog 276 #[.agg #[Kg op, Kg d, Kg sr, Kg ju, Kg co, Kg nn, Kg kk], Kg n] w (Ret (fun v w' => v = .bool true ∧ Ch No w w')) := by
 have hnb := form_n hf
 have hp : 0 ≤ (wc - 1) * wj := Int.mul_nonneg (by omega) (by omega)
 have hpr : 0 ≤ (rc - 1) * rj := Int.mul_nonneg (by omega) (by omega)
 have hJ : ∀ j : Nat, (j : Int) < rc → 0 ≤ (j : Int) * rj ∧ (j : Int) * rj ≤ (rc - 1) * rj := fun j h => ⟨Int.mul_nonneg (by omega) (by omega), Int.mul_le_mul_of_nonneg_right (by omega) (by omega)⟩
 refine Ku func276 O ntmps276 O (Kb (Km (Cp O) O ?_))
 intro p1 w1 b2 c1 e1 z1
 refine Ww O O (Wz (Kb (Om (Qz ι135 ς135 O O (b2.all' O)) O ?_)))
 have st_1 := st.keep c1
 refine Oq (Qi call291 O (steps_Form ⟨op, d, sr, ju, co, nn, kk⟩ _ st_1 hf)) O ?_
 rintro _ w2 ⟨rfl, c2⟩
 have z2 := c2.size
 refine Om (Cr υ28 O) O (Ka (Cc O (Qn (Qa (Qe (Qe ?_))))))
 refine Qb (Om (Qh υ135 O ς3 O O O) O ?_)
 have b2_2 := b2.keep c2
 refine Om (Qg ι3 O (b2_2.cell O)) O (Om (Rn.eqlF O O h5) O (Ka (Cc O (Qn (Qa (Qe ?_))))))
 refine Qb (Om (Qz ι135 ς135 O O (b2_2.all' O)) O (Oq (Qi call294 O (ht _)) O ?_))
 rintro _ w3 ⟨q3, rfl, rd3, eq3, c3⟩
 have z3 := c3.size
 refine Wu O O (Om (Qu O O) O (Om (Qu O O) O (Om (Qu O O) O (Km (Ck ζ305) O ?_))))
 intro p4 w4 b6 c4 e4 z4
 refine Ww O O (Ks (Cl ς305 O O O O b6) O ?_)
 intro w5 c5 z5 b6_5
 refine Ww O O (Wz (Kb (Om (Qz ι305 ς305 O O (b6_5.all' O)) O (Oq (Qi κ293 O (cel_last _ _ _ (by omega) _)) O ?_))))
 rintro _ w6 ⟨rfl, c6⟩
 have z6 := c6.size
 refine Wu O O (Om (Rn.geqF O O) O (Ka (Cc O (Qn (Qa (Qe ?_))))))
 refine Kb (Wu O O (Om (Cs υ308 O) O (Wu O O (Ka (Qt ?_)))))
 have cc_2_6 : Ch No w2 w6 := ((Ch.then (E := No) (c3.and c4) c5).and c6)
 have b2_6 := b2_2.keep cc_2_6
 have b6_6 := b6_5.keep c6
 have cc_3_6 : Ch No w3 w6 := ((Ch.then (E := No) c4 c5).and c6)
 have rd_6 := rd3.keep cc_3_6
 have cc_0_6 : Ch No w w6 := ((Ch.then (E := No) (((c1.and c2).and c3).and c4) c5).and c6)
 have CH_6 := cc_0_6
 refine Kf (σ := Nat) (fun i => [(1, Kg n), (2, Kh p1), (6, Kh p4), (38, .slice (Ki q3) 1 1), (39, Kg 1), (40, Kg i)]) (fun i w' => i ≤ 1 ∧ w6.heap.size ≤ w'.heap.size ∧ Bk w' p1 #[Kg op, Kg d, Kg sr, Kg ju, Kg co, Kg nn, Kg kk] 135 ∧ Bk w' p4 #[Kg wa, Kg wj, Kg wc] 305 ∧ SlR (Is q3) w' (Ki q3) 1 4 [Kg ra, Kg rj, Kg rc, .bool ev] ∧ Ch (No) w w') (fun i => 1 - i) 0 ?_ ?_
 · exact ⟨(by omega), (Nat.le_refl _), b2_6, b6_6, rd_6, CH_6⟩
 rintro i w7 ⟨hi, hsz7, b2_7, b6_7, rd_7, CH_7⟩
 refine Kb (Om (Co O O) O (Wz (Qj O (fun hc1 => ?_) (fun hc1 => ?_))))
 ·
  refine Qn (Qa (Qe (Qt (Qe ?_))))
  obtain rfl : i = 0 := by omega
  have rdc : CaR (Is q3) w7 ((sAddr (Ki q3)).add (0 * 4)) [Kg ra, Kg rj, Kg rc, .bool ev] := ⟨rd_7.part (i := 0) (by omega) (fun j v h => by simpa using h), rfl⟩
  refine Qb (Om (Qs υ308 sizeOf312 O O (rd_7.ne (by omega))) O (Om (Qz isAgg312 sizeOf312 O O rdc.1) O (Km (Ck zeroValue312) O ?_)))
  intro p8 w8 b9 c8 e8 z8
  refine Ks (Cl sizeOf312 O O O O b9) O ?_
  intro w9 c9 z9 b9_9
  refine Wz (Kb (Om (Qh υ312 O ς305 O O O) O (Om (Qz ι305 ς305 O O (b9_9.part 3 O)) O (Oq (Qi κ293 O (cel_last _ _ _ (by omega) _)) O ?_))))
  rintro _ w10 ⟨rfl, c10⟩
  have z10 := c10.size
  refine Wu O O (Om (Rn.geqF O O) O (Ka (Cc O (Qn (Qa (Qe ?_))))))
  refine Qb (Om (Qh υ312 O ς305 O O O) O (Om (Qh υ305 O ς3 O O O) O ?_))
  have b9_10 := b9_9.keep c10
  refine Om (Qg ι3 O (b9_10.cell O)) O (Wu O O (Ka (Qt ?_)))
  have cc_7_10 : Ch No w7 w10 := ((Ch.then (E := No) c8 c9).and c10)
  have b2_10 := b2_7.keep cc_7_10
  have b6_10 := b6_7.keep cc_7_10
  have rd_10 := rd_7.keep cc_7_10
  have CH_10 := CH_7.and cc_7_10
  refine Kf (σ := Nat) (fun j => [(1, Kg n), (2, Kh p1), (6, Kh p4), (9, Kh p8), (38, .slice (Ki q3) 1 1), (39, Kg 1), (40, Kg 0), (51, Kg rc), (52, Kg j)]) (fun j w' => (j : Int) ≤ rc ∧ w10.heap.size ≤ w'.heap.size ∧ Bk w' p1 #[Kg op, Kg d, Kg sr, Kg ju, Kg co, Kg nn, Kg kk] 135 ∧ Bk w' p4 #[Kg wa, Kg wj, Kg wc] 305 ∧ Bk w' p8 #[Kg ra, Kg rj, Kg rc, .bool ev] 312 ∧ SlR (Is q3) w' (Ki q3) 1 4 [Kg ra, Kg rj, Kg rc, .bool ev] ∧ Ch (No) w w') (fun j => rc.toNat - j) 0 ?_ ?_
  · exact ⟨(by omega), (Nat.le_refl _), b2_10, b6_10, b9_10, rd_10, CH_10⟩
  rintro j w11 ⟨hjc, hsz11, b2_11, b6_11, b9_11, rd_11, CH_11⟩
  have hJj := hJ j
  refine Kb (Om (Co O O) O (Wz (Qj O (fun hc2 => ?_) (fun hc2 => ?_))))
  ·
   refine Qn (Qa (Qe (Qt (Kb (Wu O O (Ww O O ?_))))))
   refine Wy (Om (Qz ι305 ς305 O O (b6_11.all' O)) O (Om (Qh υ312 O ς305 O O O) O (Om (Qh υ305 O ς3 O O O) O (Om (Qg ι3 O (b9_11.cell O)) O ?_))))
   refine Wu O O (Om (Qh υ312 O ς305 O O O) O (Om (Qh υ305 O ς3 O O O) O (Om (Qg ι3 O (b9_11.cell O)) O ?_)))
   refine Om (Cy O O) O ?_
   refine Om (Cd O O) O ?_
   refine Oq (Qi call295 O (cel_hasG _ _ _ _ (hnot j (by omega)) (by omega) _)) O ?_
   rintro _ w12 ⟨rfl, c12⟩
   have z12 := c12.size
   refine Ww O O (Wz (Kb (Wu O O (Om (Rn.lssT O O) O ?_))))
   refine Ka (Rd O (Cn (Qk (Qy (Qa (Qb ?_))))))
   refine Om (Cd O O) O ?_
   refine Wu O O (Qf ?_)
   refine Ke (j + 1) ?_
   have b2_12 := b2_11.keep c12
   have b6_12 := b6_11.keep c12
   have b9_12 := b9_11.keep c12
   have rd_12 := rd_11.keep c12
   have CH_12 := CH_11.and c12
   exact ⟨(by omega), (by omega), b2_12, b6_12, b9_12, rd_12, CH_12⟩
  refine Cn (Qk (Qk (Qy (Ql (Qa (Qb ?_))))))
  refine Om (Cd O O) O ?_
  refine Wu O O (Qf ?_)
  refine Ke 1 ?_
  exact ⟨(by omega), (by omega), b2_11, b6_11, rd_11, CH_11⟩
 refine Cn (Qk (Qk (Qy (Qa (Kb (Ww O O ?_))))))
 refine Ka (Qp (Qx O O (Kx ?_)))
 exact ⟨O, CH_7⟩
theorem good_N (n : Int) (w : World) (st : StT w) (op d sr ju co nn kk : Int) (hf : formM ⟨op, d, sr, ju, co, nn, kk⟩ = true) (h5 : ¬ op = 5) (wa wj wc : Int) (own : Bool) (hw : 0 ≤ wa ∧ 1 ≤ wc ∧ wc ≤ 1000000 ∧ 0 ≤ wj ∧ wj ≤ 1000000) (hw2 : wa + (wc - 1) * wj < n) (hn : n ≤ 1000000) (hG : 24 ≤ w.heap.size) (ht : ∀ w, Calls prog 294 #[.agg #[Kg op, Kg d, Kg sr, Kg ju, Kg co, Kg nn, Kg kk]] w (Ret (fun v w' => v = .tuple #[.slice none 0 0, .agg #[Kg wa, Kg wj, Kg wc], .bool own] ∧ Ch No w w'))) :
  Calls prog 276 #[.agg #[Kg op, Kg d, Kg sr, Kg ju, Kg co, Kg nn, Kg kk], Kg n] w (Ret (fun v w' => v = .bool true ∧ Ch No w w')) := by
 have hnb := form_n hf
 have hp : 0 ≤ (wc - 1) * wj := Int.mul_nonneg (by omega) (by omega)
 refine Ku func276 O ntmps276 O (Kb (Km (Cp O) O ?_))
 intro p1 w1 b2 c1 e1 z1
 refine Ww O O (Wz (Kb (Om (Qz ι135 ς135 O O (b2.all' O)) O ?_)))
 have st_1 := st.keep c1
 refine Oq (Qi call291 O (steps_Form ⟨op, d, sr, ju, co, nn, kk⟩ _ st_1 hf)) O ?_
 rintro _ w2 ⟨rfl, c2⟩
 have z2 := c2.size
 refine Om (Cr υ28 O) O (Ka (Cc O (Qn (Qa (Qe (Qe ?_))))))
 refine Qb (Om (Qh υ135 O ς3 O O O) O ?_)
 have b2_2 := b2.keep c2
 refine Om (Qg ι3 O (b2_2.cell O)) O (Om (Rn.eqlF O O h5) O (Ka (Cc O (Qn (Qa (Qe ?_))))))
 refine Qb (Om (Qz ι135 ς135 O O (b2_2.all' O)) O (Oq (Qi call294 O (ht _)) O ?_))
 rintro _ w3 ⟨rfl, c3⟩
 have z3 := c3.size
 refine Wu O O (Om (Qu O O) O (Om (Qu O O) O (Om (Qu O O) O (Km (Ck ζ305) O ?_))))
 intro p4 w4 b6 c4 e4 z4
 refine Ww O O (Ks (Cl ς305 O O O O b6) O ?_)
 intro w5 c5 z5 b6_5
 refine Ww O O (Wz (Kb (Om (Qz ι305 ς305 O O (b6_5.all' O)) O (Oq (Qi κ293 O (cel_last _ _ _ (by omega) _)) O ?_))))
 rintro _ w6 ⟨rfl, c6⟩
 have z6 := c6.size
 refine Wu O O (Om (Rn.geqF O O) O (Ka (Cc O (Qn (Qa (Qe ?_))))))
 refine Kb (Wu O O (Om (Cs υ308 O) O (Wu O O (Ka (Qt ?_)))))
 have cc_0_6 : Ch No w w6 := ((Ch.then (E := No) (((c1.and c2).and c3).and c4) c5).and c6)
 have CH_6 := cc_0_6
 refine Kf (σ := Nat) (fun i => [(39, Kg 0), (40, Kg i)]) (fun i w' => i = 0 ∧ w6.heap.size ≤ w'.heap.size ∧ Ch (No) w w') (fun i => 0 - i) 0 ?_ ?_
 · exact ⟨(by omega), (Nat.le_refl _), CH_6⟩
 rintro i w7 ⟨hi, hsz7, CH_7⟩
 refine Kb (Om (Co O O) O (Wz (Qj O (fun hc1 => ?_) (fun hc1 => ?_))))
 · omega
 refine Cn (Qk (Qk (Qy (Qa (Kb (Ww O O ?_))))))
 refine Ka (Qp (Qx O O (Kx ?_)))
 exact ⟨O, CH_7⟩
theorem flown5 (d sr ju co kk : Int) (nn : Nat) (hd : 0 ≤ d ∧ d ≤ 1000000) (hj : 0 ≤ ju ∧ ju ≤ 1000000) (hn : nn ≤ 64) (w : World) :
  Calls prog 292 #[.agg #[Kg 5, Kg d, Kg sr, Kg ju, Kg co, Kg nn, Kg kk]] w (Ret (fun v w' => ∃ r A c, v = .slice A nn c ∧ SlR (At r) w' A nn 3 (rowsQ d ju co nn) ∧ (r = 0 ∨ w.heap.size < r) ∧ Ch No w w')) := by
 have hJ : ∀ j : Nat, j ≤ 64 → 0 ≤ (j : Int) * ju ∧ (j : Int) * ju ≤ 64 * ju := fun j h => ⟨Int.mul_nonneg (by omega) (by omega), Int.mul_le_mul_of_nonneg_right (by omega) (by omega)⟩
 refine Ku func292 O ntmps292 O (Kb (Km (Cp O) O ?_))
 intro p1 w1 b1 c1 e1 z1
 refine Ww O O (Wy (Ww O O (Ka ?_)))
 refine Qe (Kb (Om (Qh υ135 O ς3 O O O) O (Om (Qg ι3 O (b1.cell O)) O (Wu O O (Ka ?_)))))
 refine Qt ?_
 have CH_1 := c1
 refine Kf (σ := Nat × Nat × Option Addr × Nat) (fun (q, r2, A2, c2) => [(1, Kh p1), (3, .slice A2 q c2), (6, Kg nn), (7, Kg q)]) (fun (q, r2, A2, c2) w' => q ≤ nn ∧ (r2 = 0 ∨ p1 + 1 < r2) ∧ w1.heap.size ≤ w'.heap.size ∧ Bk w' p1 #[Kg 5, Kg d, Kg sr, Kg ju, Kg co, Kg nn, Kg kk] 135 ∧ Ow w' r2 305 3 A2 q c2 (rowsQ d ju co q) ∧ Ch (No) w w') (fun (q, r2, A2, c2) => nn - q) (0, 0, none, 0) ?_ ?_
 · exact ⟨(by omega), (by omega), (Nat.le_refl _), b1, (Ow.nil _ _ _), CH_1⟩
 rintro ⟨q, r2, A2, c2⟩ w2 ⟨hq, hr2, hsz2, b1_2, row_2, CH_2⟩
 have hJq := hJ q (by omega)
 refine Kb (Om (Co O O) O (Wz (Qj O (fun hc1 => ?_) (fun hc1 => ?_))))
 ·
  refine Qn (Qa (Qe (Qt (Kb (Wu O O (Ww O O ?_))))))
  refine Ka (Qb (Wu O O (Om (Qh υ135 O ς3 O O O) O (Om (Qg ι3 O (b1_2.cell O)) O (Wu O O (Om (Qh υ135 O ς3 O O O) O ?_))))))
  refine Om (Qg ι3 O (b1_2.cell O)) O ?_
  refine Om (Cy O O) O ?_
  refine Om (Cd O O) O ?_
  refine Om (Qh υ135 O ς3 O O O) O (Om (Qg ι3 O (b1_2.cell O)) O (Om (Ct O (bld305_0_1_2w85 O)) O (Kq 3 1 (Kl υ306 inf305w85 O O) O ?_)))
  intro p3 w3 l21 l21o c3 e3 z3
  have row_3 := row_2.keep c3
  refine Oq (Cm (S := _) υ306 inf305w85 O (by decide) O O row_3 l21 (by rfl) (fun h => by simp at h) (by omega) (by simp only [maxLen]; omega)) O ?_
  rintro _ w4 ⟨r4, A4, k4, rfl, o4, c4, q4⟩
  have z4 := c4.size
  have y4 := o4.lt
  refine Ww O O (Qf (Ql (Qa (Qb ?_))))
  refine Om (Cd O O) O ?_
  refine Wu O O (Qf ?_)
  refine Ke (q + 1, r4, A4, k4) ?_
  have b1_3 := b1_2.keep c3
  have b1_4 := b1_3.to c4
  have CH_3 := CH_2.and c3
  have CH_4 : Ch (No) w w4 := CH_3.then c4
  exact ⟨(by omega), (by omega), (by omega), b1_4, (by rw [rowsQ_succ]; exact o4), CH_4⟩
 refine Cn (Qk (Qk (Qy (Qa (Kb (Wu O O ?_))))))
 refine Ww O O (Ka (Qp (Qx O O (Kx ?_))))
 have e : q = nn := by omega
 subst e
 exact ⟨_, _, _, O, (row_2).sl, by omega, CH_2⟩
theorem good5 (d sr ju co kk n : Int) (nn : Nat) (w : World) (st : StT w) (hf : formM ⟨5, d, sr, ju, co, nn, kk⟩ = true) (hd : 0 ≤ d ∧ d ≤ 1000000) (hc : 1 ≤ co ∧ co ≤ 1000000) (hj : 1 ≤ ju ∧ ju ≤ 1000000) (hn : 1 ≤ nn ∧ nn ≤ 64) (hr : d + co - 1 + ((nn : Int) - 1) * ju < n) (hn2 : n ≤ 1000000) (hG : 24 ≤ w.heap.size) :
  Calls prog 276 #[.agg #[Kg 5, Kg d, Kg sr, Kg ju, Kg co, Kg nn, Kg kk], Kg n] w (Ret (fun v w' => v = .bool true ∧ Ch No w w')) := by
 have hp : 0 ≤ ((nn : Int) - 1) * ju := Int.mul_nonneg (by omega) (by omega)
 refine Ku func276 O ntmps276 O (Kb (Km (Cp O) O ?_))
 intro p1 w1 b2 c1 e1 z1
 refine Ww O O (Wz (Kb (Om (Qz ι135 ς135 O O (b2.all' O)) O ?_)))
 have st_1 := st.keep c1
 refine Oq (Qi call291 O (steps_Form ⟨5, d, sr, ju, co, nn, kk⟩ _ st_1 hf)) O ?_
 rintro _ w2 ⟨rfl, c2⟩
 have z2 := c2.size
 refine Om (Cr υ28 O) O (Ka (Cc O (Qn (Qa (Qe (Qe ?_))))))
 refine Qb (Om (Qh υ135 O ς3 O O O) O ?_)
 have b2_2 := b2.keep c2
 refine Om (Qg ι3 O (b2_2.cell O)) O (Om (Cg O O) O (Ka (Qj O (fun hc1 => ?_) (fun hc1 => ?_))))
 ·
  refine Qe (Kj 10 [0, 4, 6, 8, 16, 3, 11, 13, 15, 18] (No) ?_)
  intro w3 c3 z3
  have b2_3 := b2_2.keep c3
  refine Wt (fun hS => Qz ι135 ς135 O O ((b2_3.keep hS).all' O)) O (Ws (Qh υ135 O ς3 O O O) O (Wt (fun hS => Qg ι3 O ((b2_3.keep hS).cell O)) O ?_))
  refine Ws (Rg O O) O ?_
  refine Wv O O (Hq (Qi call292 O (flown5 _ _ _ _ _ _ (by omega) (by omega) (by omega) _)) O ?_)
  rintro _ w4 ⟨r4, A4, k4, rfl, fl4, yr4, c4⟩
  have z4 := c4.size
  have RD_4 := (Ch.refl (No) w3).and c4
  refine ⟨RD_4, ?_⟩
  refine VH.late (Qs υ306 ς305 O O (fl4.ne (by omega))) O O O O RD_4 (VH.late (Qz ι305 ς305 O O (sl_last fl4 (by omega)).1) O O O O RD_4 (Hq (Qi κ293 O (cel_last _ _ _ (by omega) _)) O ?_))
  rintro _ w5 ⟨rfl, c5⟩
  have z5 := c5.size
  have RD_5 := RD_4.and c5
  refine ⟨RD_5, ?_⟩
  refine Ws (Rn.lssT O O (by rw [Int.mul_one]; omega)) O ?_
  refine Cj (Ww O O (Qf (Ca (Qa (Qp (Qw (Qx O O ?_)))))))
  refine Kx ?_
  have CH_5 := (c1.trans (c2.trans (c3.trans (c4.trans c5))))
  exact ⟨O, CH_5⟩
 exact absurd O hc1
theorem good_okG (s : Stp) (N : Nat) (n : Int) (hn : n = N) (hN : N ≤ 1000000) (h : GoodG s N) (w : World) (st : StT w) (hG : 24 ≤ w.heap.size) :
  Calls prog 276 #[.agg #[Kg s.op, Kg s.dst, Kg s.src, Kg s.jump, Kg s.count, Kg s.n, Kg s.k], Kg n] w (Ret fun v w' => v = .bool true ∧ Ch No w w') := by
 obtain ⟨op, d, sr, ju, co, nn, kk⟩ := s
 obtain ⟨⟨⟨s1, s2, s3, s4, s5, s6, s7⟩, hc, h5⟩, hf, hj5, d1, d2, d6, d9⟩ := h
 simp only at s1 s2 s3 s4 s5 s6 s7 hc h5 hj5 d1 d2 d6 d9
 subst hn
 have hJ : ∀ c : Int, ∀ j : Nat, (j : Int) < c → 0 ≤ (j : Int) * ju ∧ (j : Int) * ju ≤ (c - 1) * ju := fun c j h => ⟨Int.mul_nonneg (by omega) (by omega), Int.mul_le_mul_of_nonneg_right (by omega) (by omega)⟩
 have hp : 0 ≤ (co - 1) * ju := Int.mul_nonneg (by omega) (by omega)
 rcases h5 with ⟨rfl, h6, h7⟩ | ⟨rfl, h6, h7⟩ | ⟨rfl, h6⟩ | ⟨rfl, h6, h7, h8, h9, h10⟩ | ⟨rfl, h6, h7, h8⟩ | ⟨rfl, h6, h7, h8, h9, h10, h11⟩ | ⟨rfl, h6, h7, h8⟩ | ⟨rfl, h6, h7, h8, h9⟩ | ⟨rfl, h6, h7⟩ | ⟨rfl, h6⟩ | ⟨rfl, h6⟩
 ·
  have d1 := d1 rfl
  exact good_R N w st 1 d sr ju co nn kk hf (by decide) d 1 co false (by omega) (by omega) (by omega) hG sr ju co false (by omega) (by omega) (fun j hj => by have := hJ co j hj; omega) (touched1 d sr ju co nn kk)
 ·
  have d2 := d2 rfl
  exact good_R N w st 2 d sr ju co nn kk hf (by decide) d ju co false (by omega) (by omega) (by omega) hG sr 1 co false (by omega) (by omega) (fun j hj => by omega) (touched2 d sr ju co nn kk)
 · exact good_N N w st 3 d sr ju co nn kk hf (by decide) d 1 co false (by omega) (by omega) (by omega) hG (touched3 3 d sr ju co nn kk O)
 · exact good_N N w st 4 d sr ju co nn kk hf (by decide) d 1 co true (by omega) (by omega) (by omega) hG (touchedO 4 d sr ju co nn kk (by decide))
 ·
  obtain ⟨nn, rfl⟩ := nat_of (show 0 ≤ nn by omega)
  have hp : 0 ≤ ((nn : Int) - 1) * ju := Int.mul_nonneg (by omega) (by omega)
  have := hj5 rfl
  exact good5 d sr ju co kk N nn w st hf (by omega) (by omega) (by omega) (by omega) (by omega) (by omega) hG
 ·
  have d6 := d6 rfl
  have hp6 : 0 ≤ (nn - 1) * ju := Int.mul_nonneg (by omega) (by omega)
  exact good_R N w st 6 d sr ju co nn kk hf (by decide) d 1 co false (by omega) (by omega) (by omega) hG sr ju nn true (by omega) (by omega) (fun j hj => by have := hJ nn j hj; omega) (touched6 d sr ju co nn kk)
 · exact good_N N w st 7 d sr ju co nn kk hf (by decide) d 1 co true (by omega) (by omega) (by omega) hG (touchedO 7 d sr ju co nn kk (by decide))
 · exact good_N N w st 8 d sr ju co nn kk hf (by decide) d 1 co false (by omega) (by omega) (by omega) hG (touched8 8 d sr ju co nn kk O)
 ·
  have d9 := d9 rfl
  exact good_R N w st 9 d sr ju co nn kk hf (by decide) d 1 co true (by omega) (by omega) (by omega) hG sr 1 co false (by omega) (by omega) (fun j hj => by omega) (touched9 d sr ju co nn kk)
 · exact good_N N w st 10 d sr ju co nn kk hf (by decide) d 1 co true (by omega) (by omega) (by omega) hG (touchedO 10 d sr ju co nn kk (by decide))
 · exact good_N N w st 11 d sr ju co nn kk hf (by decide) d 1 co true (by omega) (by omega) (by omega) hG (touchedO 11 d sr ju co nn kk (by decide))
theorem c_Fault (b : Bld) (N : Nat) (ok : PrgG b N) (S : Nat → Prop) (A : Option Addr) (c : Nat) (w : World) (st : StT w) (sb : SlR S w A b.steps.length 7 (flatS b.steps)) (hG : 24 ≤ w.heap.size) :
  Calls prog 247 #[.agg #[Kg b.ln, Kg b.cl, Kg b.i0, Kg b.ou, .slice A b.steps.length c]] w (Ret (fun v w' => v = Kg (-1) ∧ Ch No w w')) := by
 have hln := ok.ln; have hn1 := ok.n1; have hi0 := ok.i0; have hou := ok.ou; have hlen := ok.len; have hact := ok.act; have hcl := ok.cl
 have hdl0 := cntG_drop_le ok.cn 0; rw [List.drop_zero] at hdl0
 refine Ku func247 O ntmps247 O (Kb (Km (Cp O) O ?_))
 intro p1 w1 b1 c1 e1 z1
 refine Ww O O (Wy (Ww O O (Ka ?_)))
 refine Qe (Kb (Om (Qh υ98 O ς96 O O O) O (Om (Qg ι96 O (b1.cell O)) O (Om (Cs υ96 O) O (Wu O O (Qf ?_))))))
 refine Qa (Qt ?_)
 have sb_1 := sb.keep c1
 have st_1 := st.keep c1
 have CH_1 := c1
 refine Kf (σ := Nat × Int) (fun (i, sm) => [(1, Kh p1), (3, Kg sm), (7, .slice A b.steps.length c), (8, Kg b.steps.length), (9, Kg i)]) (fun (i, sm) w' => i ≤ b.steps.length ∧ sm = cntS b.steps - cntS (b.steps.drop i) ∧ w1.heap.size ≤ w'.heap.size ∧ Bk w' p1 #[Kg b.ln, Kg b.cl, Kg b.i0, Kg b.ou, .slice A b.steps.length c] 98 ∧ SlR S w' A b.steps.length 7 (flatS b.steps) ∧ StT w' ∧ Ch (No) w w') (fun (i, sm) => b.steps.length - i) (0, 0) ?_ ?_
 · exact ⟨(by omega), (by rw [List.drop_zero]; omega), (Nat.le_refl _), b1, sb_1, st_1, CH_1⟩
 rintro ⟨i, sm⟩ w2 ⟨hi, hsm, hsz2, b1_2, sb_2, st_2, CH_2⟩
 have hdl := cntG_drop_le ok.cn i
 refine Kb (Om (Co O O) O (Wz (Qj O (fun hc1 => ?_) (fun hc1 => ?_))))
 ·
  refine Qn (Qa (Qe (Qt (Qe ?_))))
  obtain ⟨s, hs⟩ : ∃ s, b.steps[i]? = some s := ⟨_, List.getElem?_eq_getElem (by omega)⟩
  have hsg := ok.st s (List.mem_of_getElem? hs)
  have hcd := cntS_drop hs
  have hdl1 := cntG_drop_le ok.cn (i + 1)
  have hcp := hsg.st.cnt.1
  have hcp2 := hsg.st.cnt.2
  have ks := sl_step sb_2 rfl hs
  refine Qb (Wu O O (Om (Qs υ96 ς135 O O (sb_2.ne (by omega))) O (Om (Qz ι135 ς135 O O ks.1) O (Km (Ck ζ135) O ?_))))
  intro p3 w3 b5 c3 e3 z3
  refine Ww O O (Ks (Cl ς135 O O O O b5) O ?_)
  intro w4 c4 z4 b5_4
  refine Wz (Kb (Wu O O (Om (Rn.eqlF O O (by omega)) O (Wu O O ?_))))
  refine Om (Qz ι135 ς135 O O (b5_4.all' O)) O (Om (Qh υ98 O ς3 O O O) O ?_)
  have cc_2_4 : Ch No w2 w4 := (Ch.then (E := No) c3 c4)
  have b1_4 := b1_2.keep cc_2_4
  refine Om (Qg ι3 O (b1_4.cell O)) O ?_
  have st_4 := st_2.keep cc_2_4
  refine Oq (Qi call276 O (good_okG _ _ _ ok.cl (by have := ok.n1; omega) hsg _ st_4 (by omega))) O ?_
  rintro _ w5 ⟨rfl, c5⟩
  have z5 := c5.size
  refine Om (Rm O) O (Om (Qm O O) O (Ka (Cc O (Qn (Qa (Qe ?_))))))
  refine Qb (Wu O O (Om (Qh υ135 O ς3 O O O) O ?_))
  have b5_5 := b5_4.keep c5
  refine Om (Qg ι3 O (b5_5.cell O)) O ?_
  refine Om (Cd O O) O ?_
  refine Ww O O (Wy (Wu O O (Om (Rb O O) O (Qf ?_))))
  refine Qa (Qj O (fun hc2 => ?_) (fun hc2 => ?_))
  · omega
  refine Qn (Ql (Qa (Qb ?_)))
  refine Om (Cd O O) O ?_
  refine Wu O O (Qf ?_)
  refine Ke (i + 1, _) ?_
  have b1_5 := b1_4.keep c5
  have cc_2_5 : Ch No w2 w5 := ((Ch.then (E := No) c3 c4).and c5)
  have sb_5 := sb_2.keep cc_2_5
  have st_5 := st_4.keep c5
  have CH_5 := CH_2.and cc_2_5
  exact ⟨(by omega), (by omega), (by omega), b1_5, sb_5, st_5, CH_5⟩
 refine Cn (Qk (Qk (Qy (Qa (Kb (Ww O O ?_))))))
 refine Ka (Qp (Qx O O (Kx ?_)))
 exact ⟨O, CH_2⟩
theorem c_Check (b : Bld) (N : Nat) (ok : PrgG b N) (S : Nat → Prop) (A : Option Addr) (c : Nat) (w : World) (st : StT w) (sb : SlR S w A b.steps.length 7 (flatS b.steps)) (hG : 24 ≤ w.heap.size) :
  Calls prog 198 #[.agg #[Kg b.ln, Kg b.cl, Kg b.i0, Kg b.ou, .slice A b.steps.length c]] w (Ret (fun v w' => v = .nilIface ∧ Ch No w w')) := by
 have hln := ok.ln; have hn1 := ok.n1; have hi0 := ok.i0; have hou := ok.ou; have hlen := ok.len; have hact := ok.act; have hcl := ok.cl
 have hdl0 := cntG_drop_le ok.cn 0; rw [List.drop_zero] at hdl0
 refine Ku func198 O ntmps198 O (Kb (Km (Cp O) O ?_))
 intro p1 w1 b1 c1 e1 z1
 refine Ww O O (Wy (Om (Qh υ98 O ς3 O O O) O (Om (Qg ι3 O (b1.cell O)) O (Om (Rn.geqT O O) O ?_))))
 refine Wu O O (Om (Qh υ98 O ς3 O O O) O (Om (Qg ι3 O (b1.cell O)) O (Om (Rn.leqT O O) O (Om (Qr O O) O (Wu O O (Om (Qh υ98 O ς3 O O O) O (Om (Qg ι3 O (b1.cell O)) O ?_)))))))
 refine Om (Rn.geqT O O) O (Om (Qr O O) O (Wu O O (Om (Qh υ98 O ς3 O O O) O (Om (Qg ι3 O (b1.cell O)) O (Om (Rn.leqT O O) O (Om (Qr O O) O (Wu O O ?_)))))))
 refine Om (Qh υ98 O ς3 O O O) O (Om (Qg ι3 O (b1.cell O)) O (Om (Rn.geqT O O) O (Om (Qr O O) O (Wu O O (Om (Qh υ98 O ς3 O O O) O (Om (Qg ι3 O (b1.cell O)) O (Om (Rn.geqT O O) O ?_)))))))
 refine Om (Qr O O) O (Wu O O (Om (Qh υ98 O ς3 O O O) O (Om (Qg ι3 O (b1.cell O)) O (Om (Qh υ98 O ς3 O O O) O (Om (Qg ι3 O (b1.cell O)) O (Om (Qh υ98 O ς3 O O O) O (Om (Qg ι3 O (b1.cell O)) O ?_)))))))
 refine Om (Rg O O) O ?_
 refine Om (Rn.leqT O O) O (Om (Qr O O) O (Wu O O (Om (Qh υ98 O ς3 O O O) O (Om (Qg ι3 O (b1.cell O)) O (Om (Qh υ98 O ς3 O O O) O (Om (Qg ι3 O (b1.cell O)) O (Om (Qh υ98 O ς3 O O O) O ?_)))))))
 refine Om (Qg ι3 O (b1.cell O)) O ?_
 refine Om (Rg O O) O ?_
 refine Om (Rn.leqT O O) O (Om (Qr O O) O (Ww O O (Wz (Kb ?_))))
 refine Wu O O (Om (Rm O) O (Wu O O (Om (Qz ι98 ς98 O O (b1.all' O)) O ?_)))
 have st_1 := st.keep c1
 have sb_1 := sb.keep c1
 refine Oq (Qi call247 O (c_Fault _ _ ok _ _ _ _ st_1 sb_1 (by omega))) O ?_
 rintro _ w2 ⟨rfl, c2⟩
 have z2 := c2.size
 refine Om (Rn.geqF O O) O (Om (Qm O O) O (Ka (Cc O (Qn (Qa (Qe ?_))))))
 refine Qb (Ww O O (Ka (Qp (Qx O O (Kx ?_)))))
 have CH_2 := (c1.trans c2)
 exact ⟨O, CH_2⟩
theorem c_Acts (b : Bld) (N : Nat) (ok : PrgG b N) (S : Nat → Prop) (A : Option Addr) (c : Nat) (w : World) (st : StT w) (sb : SlR S w A b.steps.length 7 (flatS b.steps)) (hG : 24 ≤ w.heap.size) :
  Calls prog 164 #[.agg #[Kg b.ln, Kg b.cl, Kg b.i0, Kg b.ou, .slice A b.steps.length c]] w (Ret (fun v w' => v = .tuple #[Kg (cntS b.steps), .nilIface] ∧ Ch No w w')) := by
 have hln := ok.ln; have hn1 := ok.n1; have hi0 := ok.i0; have hou := ok.ou; have hlen := ok.len; have hact := ok.act; have hcl := ok.cl
 have hdl0 := cntG_drop_le ok.cn 0; rw [List.drop_zero] at hdl0
 refine Ku func164 O ntmps164 O (Kb (Km (Cp O) O ?_))
 intro p1 w1 b1 c1 e1 z1
 refine Ww O O (Ww O O (Wz (Kb (Om (Qz ι98 ς98 O O (b1.all' O)) O ?_))))
 have st_1 := st.keep c1
 have sb_1 := sb.keep c1
 refine Oq (Qi call198 O (c_Check _ _ ok _ _ _ _ st_1 sb_1 (by omega))) O ?_
 rintro _ w2 ⟨rfl, c2⟩
 have z2 := c2.size
 refine Ww O O (Wy (Wu O O (Om (Cr υ28 O) O (Qf ?_))))
 refine Qa (Cc O (Qn (Qa (Kb (Ww O O (Qf ?_))))))
 refine Qa (Qe (Kb (Om (Qh υ98 O ς96 O O O) O ?_)))
 have b1_2 := b1.keep c2
 refine Om (Qg ι96 O (b1_2.cell O)) O (Om (Cs υ96 O) O (Wu O O (Ka (Qt ?_))))
 have sb_2 := sb_1.keep c2
 have CH_2 := (c1.trans c2)
 refine Kf (σ := Nat × Int) (fun (i, sm) => [(1, Kh p1), (5, Kg sm), (14, .slice A b.steps.length c), (15, Kg b.steps.length), (16, Kg i)]) (fun (i, sm) w' => i ≤ b.steps.length ∧ sm = cntS b.steps - cntS (b.steps.drop i) ∧ w2.heap.size ≤ w'.heap.size ∧ Bk w' p1 #[Kg b.ln, Kg b.cl, Kg b.i0, Kg b.ou, .slice A b.steps.length c] 98 ∧ SlR S w' A b.steps.length 7 (flatS b.steps) ∧ Ch (No) w w') (fun (i, sm) => b.steps.length - i) (0, 0) ?_ ?_
 · exact ⟨(by omega), (by rw [List.drop_zero]; omega), (Nat.le_refl _), b1_2, sb_2, CH_2⟩
 rintro ⟨i, sm⟩ w3 ⟨hi, hsm, hsz3, b1_3, sb_3, CH_3⟩
 have hdl := cntG_drop_le ok.cn i
 refine Kb (Om (Co O O) O (Wz (Qj O (fun hc1 => ?_) (fun hc1 => ?_))))
 ·
  refine Qn (Qa (Qe (Qt (Qe ?_))))
  obtain ⟨s, hs⟩ : ∃ s, b.steps[i]? = some s := ⟨_, List.getElem?_eq_getElem (by omega)⟩
  have hsg := ok.st s (List.mem_of_getElem? hs)
  have hcd := cntS_drop hs
  have hdl1 := cntG_drop_le ok.cn (i + 1)
  have hcp := hsg.st.cnt.1
  have hcp2 := hsg.st.cnt.2
  have ks := sl_step sb_3 rfl hs
  refine Qb (Om (Qs υ96 ς135 O O (sb_3.ne (by omega))) O (Om (Qz ι135 ς135 O O ks.1) O (Km (Ck ζ135) O ?_)))
  intro p4 w4 b7 c4 e4 z4
  refine Ks (Cl ς135 O O O O b7) O ?_
  intro w5 c5 z5 b7_5
  refine Ka (Qb (Wu O O (Om (Qh υ135 O ς3 O O O) O (Om (Qg ι3 O (b7_5.cell O)) O ?_))))
  refine Om (Cd O O) O ?_
  refine Ww O O (Qf (Ql (Qa (Qb ?_))))
  refine Om (Cd O O) O ?_
  refine Wu O O (Qf ?_)
  refine Ke (i + 1, _) ?_
  have cc_3_5 : Ch No w3 w5 := (Ch.then (E := No) c4 c5)
  have b1_5 := b1_3.keep cc_3_5
  have sb_5 := sb_3.keep cc_3_5
  have CH_5 := CH_3.and cc_3_5
  exact ⟨(by omega), (by omega), (by omega), b1_5, sb_5, CH_5⟩
 refine Cn (Qk (Qk (Qy (Qa (Kb (Wu O O ?_))))))
 refine Ww O O (Ww O O (Ka (Qp (Ra O O O (Kx ?_)))))
 have e0 : cntS (b.steps.drop i) = 0 := by rw [List.drop_of_length_le (by omega)]; rfl
 exact ⟨by rw [show sm = cntS b.steps by omega], CH_3⟩
end Go.Tm
namespace Go.Tm
set_option maxRecDepth 100000
open Go.RowKit Go.Proofs Go.Proofs.Tryz
theorem CR.sub {e : TypeId} {w : World} {r : Nat} {A : Option Addr} {l c : Nat} {xs : List CB} (h : CR e w r A l c xs) {i j : Nat} (h1 : i ≤ j) (h2 : j ≤ l) (hc : l ≤ c) : SlR (At r) w (if c = i then A else A.map (·.add (i * 1))) (j - i) 1 (((xs.drop i).take (j - i)).map cxV) := by
 have := SlR.sub (Ow.sl h) h1 h2 hc
 rw [← List.map_drop, ← List.map_take] at this
 exact this
theorem Ow.r_pos {w : World} {r : Nat} {e : TypeId} {sz : Nat} {A : Option Addr} {l c : Nat} {cs : List Value} (h : Ow w r e sz A l c cs) (hl : 0 < l := by omega) : 0 < r := by
 obtain ⟨g, cur, _, rfl, _⟩ := Ow.open' h hl
 omega
theorem cx_one (l : List CB) : (l.map cxV).all Value.oneCell' = true := by
 rw [List.all_eq_true]
 intro v hv
 obtain ⟨z, _, rfl⟩ := List.mem_map.1 hv
 rfl
theorem encB_pos (b : Bld) : 0 < (encB b).length := by
 have := uintB_ne b.steps.length
 rw [encB, List.length_append, List.length_append]; omega
def Fil0 : Fil := ⟨none, 0, 0, ⟨0, 0, 0, 0, 0, 0, 0⟩, 0, []⟩
theorem fil0_ok {w : World} {m r : Nat} (hr : 0 < r) : FilR w m r Fil0 := ⟨Ow.nil _ _ _, by show ¬ 0 = r; omega, by show ¬ 0 = m + 1; omega, by unfold SmS; decide, fun h => absurd h (by decide)⟩
theorem inf33w86 : Inf prog 33 (.complex .f64 0 0) 1 16 := ⟨Tryz.t33, type33, rfl, rfl, rfl⟩
theorem inf135w86 : Inf prog 135 (.agg #[.int .i64 0, .int .i64 0, .int .i64 0, .int .i64 0, .int .i64 0, .int .i64 0, .int .i64 0]) 7 56 := ⟨Tryz.t135, type135, rfl, rfl, rfl⟩
theorem bld209_0_1_2_3w86 {v0_0 v0_1 v0_2 v0_3 v0_4 v1 v2 v3 : Value} (h : [v1, v2, v3].all Value.oneCell' = true) (w : World) : (Instr.build 209 ([(0, .agg #[v0_0, v0_1, v0_2, v0_3, v0_4]), (1, v1), (2, v2), (3, v3)] : List (Nat × Value)).toArray).run prog w = .ok (.agg #[v0_0, v0_1, v0_2, v0_3, v0_4, v1, v2, v3, .int .i64 0, .int .i64 0, .int .i64 0, .slice none 0 0, .int .i64 0, .int .i64 0, .int .i64 0, .int .i64 0, .int .i64 0, .int .i64 0, .int .i64 0]) w := by
 simp only [List.all_cons, Bool.and_eq_true, List.all_nil, and_true] at h
 have hv1 := oneCell_cells (v := v1) (by simp_all)
 have hv2 := oneCell_cells (v := v2) (by simp_all)
 have hv3 := oneCell_cells (v := v3) (by simp_all)
 have h1 := fill_set (fun i => ([(0, 5), (5, 1), (6, 1), (7, 1), (8, 1), (9, 1), (10, 1), (11, 1), (12, 7)] : List (Nat × Nat))[i]?) [(0, .agg #[v0_0, v0_1, v0_2, v0_3, v0_4]), (1, v1), (2, v2), (3, v3)] [.int .i64 0, .int .i64 0, .int .i64 0, .int .i64 0, .slice none 0 0, .string ⟨#[]⟩, .slice none 0 0, .int .i64 0, .int .i64 0, .int .i64 0, .int .i64 0, .slice none 0 0, .int .i64 0, .int .i64 0, .int .i64 0, .int .i64 0, .int .i64 0, .int .i64 0, .int .i64 0] (by simp [okF, agg_cells, hv1, hv2, hv3, Nat.beq, Nat.ble])
 simp [setF, agg_cells, hv1, hv2, hv3] at h1
 simp [Instr.build, runUnderlying209, zeroValue209, ς3, ς9, ς31, ς98, ς135, agg_cells, h1]
set_option maxHeartbeats 2000000 in
theorem m_New (b : Bld) (N : Nat) (ok : PrgG b N) (S : Nat → Prop) (A : Option Addr) (c : Nat) (w : World) (st : StT w) (sb : SlR S w A b.steps.length 7 (flatS b.steps)) (hG : 24 ≤ w.heap.size) (okb : okB b) (hSb : ∀ y, S y → y < w.heap.size) (hne : 1 ≤ b.steps.length) :
  Calls prog 129 #[.agg #[Kg b.ln, Kg b.cl, Kg b.i0, Kg b.ou, .slice A b.steps.length c]] w (Ret (fun v w' => ∃ m r rs SA sc CA, v = .tuple #[Kh m, .nilIface] ∧ MacG w' m r b N SA sc ⟨(encB b).toArray⟩ CA (cntS b.steps) 0 0 0 Fil0 (List.replicate N (0, 0)) ∧ SlR (At rs) w' SA b.steps.length 7 (flatS b.steps) ∧ (w.heap.size ≤ m ∧ w.heap.size < r ∧ w.heap.size < rs ∧ ¬ rs = r ∧ ¬ rs = m + 1) ∧ Ch No w w')) := by
 have hln := ok.ln; have hn1 := ok.n1; have hi0 := ok.i0; have hou := ok.ou; have hlen := ok.len; have hact := ok.act; have hcl := ok.cl
 have hdl0 := cntG_drop_le ok.cn 0; rw [List.drop_zero] at hdl0
 have hep := encB_pos b
 refine Ku func129 O ntmps129 O (Kb (Km (Cp O) O ?_))
 intro p1 w1 b1 c1 e1 z1
 refine Ww O O (Ww O O (Wy (Om (Qz ι98 ς98 O O (b1.all' O)) O ?_)))
 have st_1 := st.keep c1
 have sb_1 := sb.keep c1
 refine Oq (Qi call164 O (c_Acts _ _ ok _ _ _ _ st_1 sb_1 (by omega))) O ?_
 rintro _ w2 ⟨rfl, c2⟩
 have z2 := c2.size
 refine Wu O O (Om (Qu O O) O (Om (Qu O O) O (Ww O O (Ww O O (Wz ?_)))))
 refine Kb (Wu O O (Om (Cr υ28 O) O (Ka (Cc O (Qn ?_)))))
 refine Qa (Kb ?_)
 have b1_2 := b1.keep c2
 refine Om (Qz ι98 ς98 O O (b1_2.all' O)) O ?_
 have st_2 := st_1.keep c2
 have sb_2 := sb_1.keep c2
 refine Oq (Qi call165 O (steps_Encode b okb S _ _ _ st_2 sb_2 (fun y hy => by have := hSb y hy; omega) (by omega))) O ?_
 rintro _ w3 ⟨re3, eA3, ec3, rfl, en3, yre3, hel3, c3⟩
 have z3 := c3.size
 refine Wu O O (Om (Qu O O) O (Om (Qu O O) O (Ww O O (Ww O O (Wz ?_)))))
 refine Kb (Wu O O (Om (Cr υ28 O) O (Ka (Cc O (Qn ?_)))))
 refine Qa (Kb (Om (Qh υ98 O ς96 O O O) O ?_))
 have b1_3 := b1_2.keep c3
 refine Om (Qg ι96 O (b1_3.cell O)) O ?_
 have sb_3 := sb_2.keep c3
 refine Oq (Cm (S := _) υ96 inf135w86 O (by decide) O O (Ow.nil _ _ _) sb_3 (flatS_one _) (fun h => absurd h (by omega)) (by omega) (by simp only [maxLen]; omega)) O ?_
 rintro _ w4 ⟨r4, A4, k4, rfl, o4, c4, q4⟩
 have z4 := c4.size
 have y4 := o4.lt
 refine Om (Qh υ98 O ς96 O O O) O ?_
 have b1_4 := b1_3.to c4
 refine Ks (Rk ς96 O O O O b1_4 O) O ?_
 intro w5 c5 z5 b1_5
 refine Wz (Kj 10 [0, 2, 4, 6, 8, 12, 11, 14, 17, 18] (No) ?_)
 intro w6 c6 z6
 have sb_4 := sb_3.to c4 (by first | exact fun _ _ _ _ => id | (intro q h1 h2 hx h3; have := hSb q h2; omega))
 have sb_5 := sb_4.to c5 (by first | exact fun _ _ _ _ => id | (intro q h1 h2 hx h3; have := hSb q h2; omega))
 have sb_6 := sb_5.keep c6
 have b1_6 := b1_5.keep c6
 have en_4 := en3.to c4
 have en_5 := en_4.to c5
 have en_6 := en_5.keep c6
 have rs_5 := o4.to c5
 have rs_6 := rs_5.keep c6
 refine Wt (fun hS => Qz ι98 ς98 O O ((b1_6.keep hS).all' O)) O (Wv O O (Wt (fun hS => Rn.bytes_string υ172 υ5 υ9 O hep (en_6.sl.keep hS)) O (Ws (Qh υ98 O ς3 O O O) O (Wt (fun hS => Qg ι3 O ((b1_6.keep hS).cell O)) O (Wv O O (Hq (Wn υ31 inf33w86 O O (by omega) (by omega) (by omega)) O ?_))))))
 rintro _ w7 ⟨p7, rfl, o7, c7, e7, z7⟩
 have RD_7 := (Ch.refl (No) w6).and c7
 refine ⟨RD_7, ?_⟩
 refine Ws (Ct O (bld209_0_1_2_3w86 O)) O (Ko (Cp O) O ?_)
 intro p8 w8 b35 c8 e8 z8
 have RD_8 := RD_7.and c8
 refine ⟨RD_8, ?_⟩
 refine Wx O O (Cj (Ww O O (Qf (Ca (Qa (Qp (Ra O O O ?_)))))))
 refine Kx ?_
 have hN : b.cl.toNat = N := by omega
 have row_8 := o7.keep c8
 have row9 := row_8; have bk9 := b35; rw [hN] at row9 bk9; rw [Nat.zero_add] at bk9
 have rs_8 := rs_6.keep (c7.trans c8)
 have rs9 := rs_8; rw [Nat.zero_add, List.nil_append] at rs9
 have yrs := Ow.r_pos rs9
 have CH_3 := (c1.trans (c2.trans c3))
 have CH_4 : Ch (No) w w4 := CH_3.then c4
 have CH_5 : Ch (No) w w5 := CH_4.then c5
 have CH_8 := CH_5.and (c6.trans (c7.trans c8))
 exact ⟨_, _, _, _, _, _, O, ⟨bk9, row9, by omega, fil0_ok (by omega)⟩, rs9.sl, ⟨by omega, by omega, by omega, by omega, by omega⟩, CH_8⟩
set_option maxHeartbeats 1000000 in
theorem m_Load (m r : Nat) (b : Bld) (N : Nat) (SA : Option Addr) (sc : Nat) (bs : ByteArray) (CA : Option Addr) (ac dn st at_ : Int) (F : Fil) (xs : List CB) (w : World) (mr : MacG w m r b N SA sc bs CA ac dn st at_ F xs) (ok : PrgG b N) (SX : Nat → Prop) (X : Option Addr) (n xc : Nat) (ys : List CB) (hn : (n : Int) = b.ln) (sx : SlR SX w X n 1 (ys.map cxV)) (hX : ∀ q, SX q → ¬ MS m r q) :
  Calls prog 132 #[Kh m, .slice X n xc] w (Ret (fun v w' => v = .nilIface ∧ MacG w' m r b N SA sc bs CA ac 0 0 0 F ((List.replicate N (0, 0)).take b.i0.toNat ++ ys ++ (List.replicate N (0, 0)).drop (b.i0.toNat + n)) ∧ Ch (MS m r) w w')) := by
 obtain ⟨bk, row, ne, fil⟩ := id mr
 have yr := Ow.lt row; have ym := bk.lt; have fn1 := fil.n1; have fn2 := fil.n2; have fy := Ow.lt fil.ow
 have hln := ok.ln; have hn1 := ok.n1; have hi0 := ok.i0; have hou := ok.ou; have hcl := ok.cl
 refine Ku func132 O ntmps132 O (Kb (Ww O O (Wz (Qe ?_))))
 refine Qb (Wu O O (Om (Cs υ31 O) O (Wu O O (Om (Qq O) O (Om (Qh υ209 O ς98 O O O) O (Om (Qh υ98 O ς3 O O O) O (Om (Qg ι3 O (bk.cell O)) O ?_)))))))
 refine Om (Wd O O) O (Ka (Qj O (fun hc1 => ?_) (fun hc1 => ?_)))
 · omega
 refine Qn (Qa (Kb (Wu O O (Om (Qq O) O (Om (Qh υ209 O ς31 O O O) O (Om (Qg ι31 O (bk.cell O)) O ?_))))))
 refine Oz (Wk.clearC υ31 inf33w86 O row (by omega)) O ?_
 rintro _ w1 ⟨row1, c1, z1⟩
 have yr1 := Ow.lt row1
 have z1 := c1.size
 refine Wz (Kj 12 [0, 2, 4, 6, 8, 10, 12, 14, 16, 18, 20, 23] (At r) ?_)
 intro w2 c2 z2
 have bk_1 := bk.to c1
 have bk_2 := bk_1.keep c2
 have row_2 := row1.keep c2
 have sx_1 := sx.to c1 (fun _ _ h2 _ h3 => hX _ h2 (by first | exact .inr h3 | exact .inl h3 | exact h3))
 have sx_2 := sx_1.keep c2
 refine Wv O O (Ws (Qq O) O (Ws (Qh υ209 O ς31 O O O) O (Wt (fun hS => Qg ι31 O ((bk_2.to hS).cell O)) O (Wv O O (Ws (Qq O) O (Ws (Qh υ209 O ς98 O O O) O (Ws (Qh υ98 O ς3 O O O) O ?_)))))))
 refine Wt (fun hS => Qg ι3 O ((bk_2.to hS).cell O)) O (Ws (Rn.sliceLo υ31 ς33 O O (by omega) (by omega) (by omega)) O (Wv O O (Hq (Wk.copyC υ31 inf33w86 O O row_2 sx_2 (by omega) (by omega)) O ?_)))
 rintro _ w3 ⟨rfl, row3, c3, z3⟩
 have yr3 := Ow.lt row3
 have z3 := c3.size
 have RD_3 : Ch (At r) w2 w3 := (Ch.refl (At r) w2).then c3
 refine ⟨RD_3, ?_⟩
 refine Cj (Qf (Ca (Qa (Kb (Wu O O (Wu O O ?_))))))
 refine Wu O O (Om (Qq O) O (Om (Qh υ209 O ς3 O O O) O ?_))
 have bk_3 := bk_2.to c3
 refine Ks (Rk ς3 O O O O bk_3 O) O ?_
 intro w4 c4 z4 bk_4
 refine Om (Qq O) O (Om (Qh υ209 O ς3 O O O) O (Ks (Rk ς3 O O O O bk_4 O) O ?_))
 intro w5 c5 z5 bk_5
 refine Om (Qq O) O (Om (Qh υ209 O ς3 O O O) O (Ks (Rk ς3 O O O O bk_5 O) O ?_))
 intro w6 c6 z6 bk_6
 refine Wy (Ww O O (Ka (Qp ?_)))
 refine Qx O O (Kx ?_)
 have row_4 := row3.to c4
 have row_5 := row_4.to c5
 have row_6 := row_5.to c6
 have fil_1 := fil.to c1
 have fil_2 := fil_1.keep c2
 have fil_3 := fil_2.to c3
 have fil_4 := fil_3.to c4
 have fil_5 := fil_4.to c5
 have fil_6 := fil_5.to c6
 have CH_1 : Ch (MS m r) w w1 := (Ch.refl (MS m r) w).then c1
 have CH_2 := CH_1.and c2
 have CH_3 : Ch (MS m r) w w3 := CH_2.then c3
 have CH_4 : Ch (MS m r) w w4 := CH_3.then c4
 have CH_5 : Ch (MS m r) w w5 := CH_4.then c5
 have CH_6 : Ch (MS m r) w w6 := CH_5.then c6
 exact ⟨O, ⟨bk_6, row_6, ne, fil_6⟩, CH_6⟩
set_option maxHeartbeats 1000000 in
theorem m_Out (m r : Nat) (b : Bld) (N : Nat) (SA : Option Addr) (sc : Nat) (bs : ByteArray) (CA : Option Addr) (ac st at_ : Int) (F : Fil) (xs : List CB) (w : World) (mr : MacG w m r b N SA sc bs CA ac ac st at_ F xs) (ok : PrgG b N) (hac : 0 ≤ ac ∧ ac ≤ 1000000000) :
  Calls prog 135 #[Kh m] w (Ret (fun v w' => ∃ r' A' c', v = .tuple #[.slice A' b.ln.toNat c', .nilIface] ∧ CR 33 w' r' A' b.ln.toNat c' ((xs.drop b.ou.toNat).take b.ln.toNat) ∧ w.heap.size < r' ∧ Ch No w w')) := by
 obtain ⟨bk, row, ne, fil⟩ := id mr
 have yr := Ow.lt row; have ym := bk.lt; have fn1 := fil.n1; have fn2 := fil.n2; have fy := Ow.lt fil.ow
 have hln := ok.ln; have hn1 := ok.n1; have hi0 := ok.i0; have hou := ok.ou; have hcl := ok.cl
 refine Ku func135 O ntmps135 O (Kb (Ww O O (Ww O O (Wz ?_))))
 refine Kb (Wu O O (Oq (Qi call133 O (m_Left _ _ _ _ _ _ _ _ _ _ _ _ _ bk)) O ?_))
 rintro _ w1 ⟨rfl, c1⟩
 have z1 := c1.size
 refine Om (Rb O O) O (Ka (Qj O (fun hc1 => ?_) (fun hc1 => ?_)))
 · omega
 refine Qn (Qa (Kb (Wu O O (Om (Qq O) O (Om (Qh υ209 O ς98 O O O) O (Om (Qh υ98 O ς3 O O O) O ?_))))))
 have bk_1 := bk.keep c1
 refine Om (Qg ι3 O (bk_1.cell O)) O (Ww O O (Wz (Kj 15 [0, 2, 4, 6, 8, 10, 12, 14, 16, 18, 20, 22, 24, 27, 28] (At 0) ?_)))
 intro w2 c2 z2
 have bk_2 := bk_1.keep c2
 have row_2 := row.keep (c1.trans c2)
 refine Wv O O (Ws (Qq O) O (Ws (Qh υ209 O ς31 O O O) O (Wt (fun hS => Qg ι31 O ((bk_2.to hS).cell O)) O (Wv O O (Wv O O (Wv O O (Ws (Qq O) O ?_)))))))
 refine Ws (Qh υ209 O ς98 O O O) O (Ws (Qh υ98 O ς3 O O O) O (Wt (fun hS => Qg ι3 O ((bk_2.to hS).cell O)) O ?_))
 refine Ws (Cd O O) O ?_
 refine Ws (Rn.sliceLH υ31 ς33 O O O (by omega) (by omega) (by omega)) O ?_
 refine Hq (Cm (S := At r) υ31 inf33w86 O (by decide) O O (Ow.nil _ _ _) (CR.sub row_2 (i := b.ou.toNat) (j := (b.ou + b.ln).toNat) (by omega) (by omega) (Nat.le_refl _)) (cx_one _) (fun h => absurd h (by omega)) (by omega) (by simp only [maxLen]; omega)) O ?_
 rintro _ w3 ⟨r3, A3, k3, rfl, ou3, c3, q3⟩
 have z3 := c3.size
 have RD_3 : Ch (At 0) w2 w3 := (Ch.refl (At 0) w2).then c3
 refine ⟨RD_3, ?_⟩
 refine Wx O O (Cj (Ww O O (Qf (Ca (Qa (Qp (Ra O O O ?_)))))))
 refine Kx ?_
 have hl : 0 + ((b.ou + b.ln).toNat - b.ou.toNat) = b.ln.toNat := by omega
 have ou9 := ou3; rw [hl, List.nil_append, show (b.ou + b.ln).toNat - b.ou.toNat = b.ln.toNat by omega] at ou9
 have yo := Ow.r_pos ou9
 have CH_2 := (c1.trans c2)
 have CH_3 : Ch (No) w w3 := CH_2.then c3
 exact ⟨_, _, _, by rw [hl], ou9, by omega, CH_3⟩
end Go.Tm
namespace Go.Tm
set_option maxRecDepth 100000
open Go.RowKit Go.Proofs Go.Proofs.Tryz
def Upto (f : Cx → Cx) (ys zs : List CB) (j : Nat) : Prop := ∀ i, i < j → cx (zs.getD i (0, 0)) = f (cx (ys.getD i (0, 0)))
theorem set_getD {zs : List CB} {i j : Nat} {z d : CB} (hj : j < zs.length) : (zs.set j z).getD i d = if i = j then z else zs.getD i d := by
 simp only [List.getD, List.getElem?_set]
 by_cases h : j = i
 · subst h; simp [hj]
 ·
  have : ¬ i = j := fun e => h e.symm
  simp [h, this]
theorem Upto.zero (f : Cx → Cx) (ys zs : List CB) : Upto f ys zs 0 := fun i h => absurd h (Nat.not_lt_zero i)
theorem Upto.step {f : Cx → Cx} {ys zs : List CB} {j : Nat} {z : CB} (h : Upto f ys zs j) (hj : j < zs.length) (hz : cx z = f (cx (ys.getD j (0, 0)))) : Upto f ys (zs.set j z) (j + 1) := by
 intro i hi
 rw [set_getD hj]
 by_cases e : i = j
 · subst e; rw [if_pos rfl]; exact hz
 · rw [if_neg e]; exact h i (by omega)
theorem Upto.all {f : Cx → Cx} {ys zs : List CB} {n : Nat} (h : Upto f ys zs n) (h1 : ys.length = n) (h2 : zs.length = n) : zs.map cx = (ys.map cx).map f := by
 apply List.ext_getElem
 · simp [h1, h2]
 ·
  intro i hi hi2
  simp only [List.length_map] at hi
  have := h i (by omega)
  simp only [List.getD, List.getElem?_eq_getElem hi, List.getElem?_eq_getElem (show i < ys.length by omega), Option.getD_some] at this
  simpa using this
def loadC (N off : Nat) (zs : List Cx) : List Cx := (List.replicate N z0).take off ++ zs ++ (List.replicate N z0).drop (off + zs.length)
theorem load_map (N off n : Nat) (ys : List CB) (h : ys.length = n) : ((List.replicate N (0, 0)).take off ++ ys ++ (List.replicate N (0, 0)).drop (off + n)).map cx = loadC N off (ys.map cx) := by
 subst h
 simp [loadC, z0]
def fwdG (b : Bld) (zs : List Cx) : List Cx := ((runG b.steps (loadC b.cl.toNat b.i0.toNat zs)).drop b.ou.toNat).take b.ln.toNat
def invG (b : Bld) (zs : List Cx) : List Cx := ((fwdG b (zs.map conjC)).map conjC).map fun z => overC z b.ln
theorem inf33w87 : Inf prog 33 (.complex .f64 0 0) 1 16 := ⟨Tryz.t33, type33, rfl, rfl, rfl⟩
theorem inf135w87 : Inf prog 135 (.agg #[.int .i64 0, .int .i64 0, .int .i64 0, .int .i64 0, .int .i64 0, .int .i64 0, .int .i64 0]) 7 56 := ⟨Tryz.t135, type135, rfl, rfl, rfl⟩
theorem build161w87 {ps : List (Nat × Value)} {cs : Array Value} (h : Instr.fill (fun i => ([(0, 1), (1, 1), (2, 1)] : List (Nat × Nat))[i]?) #[.pointer none, .bool false, .pointer none] ps = some cs) (w : World) : (Instr.build 161 ps.toArray).run prog w = .ok (.agg cs) w := by
 simp [Instr.build, runUnderlying161, zeroValue161, ς4, sizeOf26, ς155, Value.cells, h]
theorem bld161_0_1_2w87 {v0 v1 v2 : Value} (h : [v0, v1, v2].all Value.oneCell' = true) : BLD prog 161 [(0, v0), (1, v1), (2, v2)] #[v0, v1, v2] := build161w87 (fill1 _ _ _ h rfl)
theorem p_Length (lo hi p : Nat) (P : Pln) (w : World) (pl : PlnR lo hi w p P) (hh : hi ≤ w.heap.size)  :
  Calls prog 60 #[Kh p] w (Ret (fun v w' => v = Kg P.b.ln ∧ w = w')) := by
 obtain ⟨oA, oC, sA, sC, bp, pk, ps⟩ := id pl.ex; have hpa := pl.at_
 refine Ku func60 O ntmps60 O (Kb (Ww O O (Wy ?_)))
 refine Wu O O (Om (Qq O) O (Om (Qh underlying131 O ς98 O O O) O (Om (Qh υ98 O ς3 O O O) O (Om (Qg ι3 O (bp.cell O)) O (Ww O O (Ka ?_))))))
 refine Qp (Qx O O (Kx ?_))
 exact ⟨O, O⟩
theorem p_Program (lo hi p : Nat) (P : Pln) (w : World) (pl : PlnR lo hi w p P) (hh : hi ≤ w.heap.size) (hne : 1 ≤ P.b.steps.length) (hlen : P.b.steps.length ≤ 65536) :
  Calls prog 130 #[Kh p] w (Ret (fun v w' => ∃ rs A c, v = .agg #[Kg P.b.ln, Kg P.b.cl, Kg P.b.i0, Kg P.b.ou, .slice A P.b.steps.length c] ∧ SlR (At rs) w' A P.b.steps.length 7 (flatS P.b.steps) ∧ w.heap.size < rs ∧ rs ≤ w'.heap.size ∧ Ch No w w')) := by
 obtain ⟨oA, oC, sA, sC, bp, pk, ps⟩ := id pl.ex; have hpa := pl.at_
 refine Ku func130 O ntmps130 O (Kb (Km (Ck ζ98) O ?_))
 intro p1 w1 b2 c1 e1 z1
 refine Wy (Wu O O (Om (Qq O) O (Om (Qh underlying131 O ς98 O O O) O ?_)))
 have bp_1 := bp.keep c1
 refine Om (Qz ι98 ς98 O O (bp_1.part 5 O)) O (Km (Ck ζ98) O ?_)
 intro p2 w2 b3 c2 e2 z2
 refine Ks (Cl ς98 O O O O b3) O ?_
 intro w3 c3 z3 b3_3
 refine Wy (Om (Qh υ98 O ς96 O O O) O (Om (Qg ι96 O (b3_3.cell O)) O ?_))
 have cc_0_3 : Ch No w w3 := (Ch.then (E := No) (c1.and c2) c3)
 have ps_3 := ps.keep cc_0_3
 refine Oq (Cm (S := _) υ96 inf135w87 O (by decide) O O (Ow.nil _ _ _) ps_3 (flatS_one _) (fun h => absurd h (by omega)) (by omega) (by simp only [maxLen]; omega)) O ?_
 rintro _ w4 ⟨r4, A4, k4, rfl, o4, c4, q4⟩
 have z4 := c4.size
 have y4 := o4.lt
 refine Om (Qh υ98 O ς96 O O O) O ?_
 have b3_4 := b3_3.to c4
 refine Ks (Rk ς96 O O O O b3_4 O) O ?_
 intro w5 c5 z5 b3_5
 refine Wy (Om (Qz ι98 ς98 O O (b3_5.all' O)) O ?_)
 have cc_1_3 : Ch No w1 w3 := (Ch.then (E := No) c2 c3)
 have b2_3 := b2.keep cc_1_3
 have b2_4 := b2_3.to c4
 have b2_5 := b2_4.to c5
 refine Ks (Cl ς98 O O O O b2_5) O ?_
 intro w6 c6 z6 b2_6
 refine Ka (Qp (Rl O O ι98 ς98 O (b2_6.all' O) (Kx ?_)))
 have rs_5 := o4.to c5
 have rs_6 := rs_5.to c6
 have rs9 := rs_6; rw [Nat.zero_add, List.nil_append] at rs9
 have yrs := Ow.r_pos rs9; have yr2 := rs9.lt
 have CH_3 := cc_0_3
 have CH_4 : Ch (No) w w4 := CH_3.then c4
 have CH_5 : Ch (No) w w5 := CH_4.then c5
 have CH_6 : Ch (No) w w6 := CH_5.then c6
 exact ⟨_, _, _, congrArg (fun l => Value.agg #[Kg P.b.ln, Kg P.b.cl, Kg P.b.i0, Kg P.b.ou, .slice A4 l k4]) (Nat.zero_add P.b.steps.length), rs9.sl, by omega, by omega, CH_6⟩
theorem p_conj (SX : Nat → Prop) (X : Option Addr) (n xc : Nat) (ys : List CB) (w : World) (sx : SlR SX w X n 1 (ys.map cxV)) (hX : ∀ q, SX q → q < w.heap.size) (hn : n ≤ 16384)  :
  Calls prog 131 #[.slice X n xc] w (Ret (fun v w' => ∃ q zs, v = .slice (Ki q) n n ∧ CR 33 w' (q + 1) (Ki q) n n zs ∧ zs.map cx = (ys.map cx).map conjC ∧ w.heap.size ≤ q ∧ Ch No w w')) := by
 have hyl : ys.length = n := by have := sx.len; simpa using this
 refine Ku func131 O ntmps131 O (Kb (Ww O O (Wy ?_)))
 refine Wu O O (Om (Cs υ31 O) O (Oq (Wn υ31 inf33w87 O O (by omega) (by omega) (by omega)) O ?_))
 rintro _ w1 ⟨p1, rfl, o1, c1, e1, z1⟩
 refine Ww O O (Wz (Kb (Wu O O (Om (Cs υ31 O) O ?_))))
 refine Wu O O (Ka (Qt ?_))
 have sx_1 := sx.keep c1
 have CH_1 := c1
 refine Kf (σ := Nat × List CB) (fun (j, zs) => [(3, .slice (Ki p1) n n), (9, .slice X n xc), (10, Kg n), (11, Kg j)]) (fun (j, zs) w' => j ≤ n ∧ Upto conjC ys zs j ∧ w1.heap.size ≤ w'.heap.size ∧ CR 33 w' (p1 + 1) (Ki p1) n n zs ∧ SlR SX w' X n 1 (ys.map cxV) ∧ Ch (No) w w') (fun (j, zs) => n - j) (0, List.replicate n (0, 0)) ?_ ?_
 · exact ⟨(by omega), (Upto.zero _ _ _), (Nat.le_refl _), o1, sx_1, CH_1⟩
 rintro ⟨j, zs⟩ w2 ⟨hj, hu, hsz2, row_2, sx_2, CH_2⟩
 have hzl := CR.len row_2
 refine Kb (Om (Co O O) O (Wz (Qj O (fun hc1 => ?_) (fun hc1 => ?_))))
 ·
  refine Qn (Qa (Qe (Qt (Kb (Wu O O (Om (Qs υ31 ς33 O O (sx_2.ne (by omega))) O ?_))))))
  refine Om (Qg ι33 O (sx_2.getC (by omega) (by omega))) O (Ww O O (Ww O O (Ka (Qb (Wu O O (Wu O O ?_))))))
  refine Wu O O (Oq (Qi κ78 O (cplx_Conj _ _ _)) O ?_)
  rintro _ w3 ⟨p3, q3, rfl, F3, c3⟩
  have z3 := c3.size
  have row_3 := row_2.keep c3
  refine Om (Qs υ31 ς33 O O (row_3.sl.ne (by omega))) O (Oz (Rj ς33 O O (by omega) row_3) O ?_)
  rintro _ w4 ⟨o4, c4, z4⟩
  have y4 := o4.lt
  refine Qf (Ql (Qa (Qb ?_)))
  refine Om (Cd O O) O ?_
  refine Wu O O (Qf ?_)
  refine Ke (j + 1, zs.set j (p3, q3)) ?_
  have sx_3 := sx_2.keep c3
  have sx_4 := sx_3.to c4 (by first | exact fun _ _ _ _ => id | (intro q h1 h2 hx h3; have := hX q h2; omega))
  have CH_3 := CH_2.and c3
  have CH_4 : Ch (No) w w4 := CH_3.then c4
  exact ⟨(by omega), (hu.step (by omega) (by rw [F3, Int.toNat_natCast])), (by omega), o4, sx_4, CH_4⟩
 refine Cn (Qk (Qk (Qy (Qa (Kb (Wu O O ?_))))))
 refine Ww O O (Ka (Qp (Qx O O (Kx ?_))))
 have e : j = n := by omega
 rw [e] at hu
 exact ⟨_, _, O, row_2, hu.all hyl hzl, by omega, CH_2⟩
set_option maxHeartbeats 1000000 in
theorem p_Begin0 (lo hi p : Nat) (P : Pln) (SX : Nat → Prop) (X : Option Addr) (n xc : Nat) (ys : List CB) (w : World) (sx : SlR SX w X n 1 (ys.map cxV)) (hX : ∀ q, SX q → q < w.heap.size) (pl : PlnR lo hi w p P) (hh : hi ≤ w.heap.size) (N : Nat) (ok : PrgG P.b N) (okb : okB P.b) (hne : 1 ≤ P.b.steps.length) (hn : (n : Int) = P.b.ln) (st : StT w) (hG : 24 ≤ w.heap.size)  :
  Calls prog 93 #[Kh p, .slice X n xc, .bool false] w (Ret (fun v w' => ∃ q m r rs SA sc CA xs, v = .tuple #[Kh q, .nilIface] ∧ Bk w' q #[Kh p, .bool false, Kh m] 161 ∧ MacG w' m r P.b N SA sc ⟨(encB P.b).toArray⟩ CA (cntS P.b.steps) 0 0 0 Fil0 xs ∧ xs.map cx = loadC N P.b.i0.toNat (ys.map cx) ∧ SlR (At rs) w' SA P.b.steps.length 7 (flatS P.b.steps) ∧ (w.heap.size ≤ q ∧ w.heap.size ≤ m ∧ w.heap.size < r ∧ w.heap.size < rs ∧ ¬ rs = r ∧ ¬ rs = m + 1 ∧ ¬ q = m ∧ ¬ r = q + 1) ∧ Ch No w w')) := by
 have hln := ok.ln; have hn1 := ok.n1; have hcl := ok.cl; have hlen := ok.len
 have hyl : ys.length = n := by have := sx.len; simpa using this
 refine Ku func93 O ntmps93 O (Kb (Ww O O (Ww O O (Wz ?_))))
 refine Kb (Wu O O (Om (Cs υ31 O) O (Wu O O (Oq (Qi call60 O (p_Length _ _ _ _ _ pl (by omega))) O ?_))))
 rintro _ _ ⟨rfl, rfl⟩
 refine Om (Wd O O) O (Ka (Qj O (fun hc1 => ?_) (fun hc1 => ?_)))
 · omega
 refine Qn (Qa (Kb (Wu O O (Oq (Qi call130 O (p_Program _ _ _ _ _ pl (by omega) hne hlen)) O ?_))))
 rintro _ w1 ⟨r1, A1, k1, rfl, pg1, yr1, yr21, c1⟩
 have z1 := c1.size
 have st_1 := st.keep c1
 refine Oq (Qi call129 O (m_New _ _ ok _ _ _ _ st_1 pg1 (by omega) okb (fun y hy => by omega) hne)) O ?_
 rintro _ w2 ⟨m2, r2, rs2, sA2, sc2, cA2, rfl, mac2, ss2, hb2, c2⟩
 have ym2 := mac2.bk.lt; have yr2 := Ow.lt mac2.row
 have z2 := c2.size
 refine Wu O O (Om (Qu O O) O (Om (Qu O O) O (Ww O O (Ww O O (Wz ?_)))))
 refine Kb (Wu O O (Om (Cr υ28 O) O (Ka (Cc O (Qn ?_)))))
 refine Qa (Qe (Kb (Wu O O (Ka (Cc O ?_)))))
 refine Qn (Qa (Qe (Kb (Wu O O (Wu O O ?_)))))
 have sx_2 := sx.keep (c1.trans c2)
 refine Oq (Qi call132 O (m_Load _ _ _ _ _ _ _ _ _ _ _ _ _ _ _ mac2 ok _ _ n _ _ hn sx_2 (fun q hq hm => by have := hX q hq; omega))) O ?_
 rintro _ w3 ⟨rfl, mac3, c3⟩
 have z3 := c3.size
 refine Ww O O (Wy (Wu O O (Om (Cr υ28 O) O (Qf ?_))))
 refine Qa (Cc O (Qn (Qa (Kb (Wu O O (Wu O O ?_))))))
 refine Wu O O (Om (Ct O (bld161_0_1_2w87 O)) O (Km (Cp O) O ?_))
 intro p4 w4 b39 c4 e4 z4
 refine Ww O O (Ww O O (Ka (Qp (Ra O O O (Kx ?_)))))
 obtain ⟨hb1, hb2, hb3, hb4, hb5⟩ := hb2
 have mac_4 := mac3.keep c4
 have ss_3 := ss2.to c3
 have ss_4 := ss_3.keep c4
 have CH_2 := (c1.trans c2)
 have CH_3 : Ch (No) w w3 := CH_2.then c3
 have CH_4 := CH_3.and c4
 exact ⟨_, _, _, _, _, _, _, _, O, b39, mac_4, load_map _ _ _ _ hyl, ss_4, ⟨by omega, by omega, by omega, by omega, by omega, by omega, by omega, by omega⟩, CH_4⟩
set_option maxHeartbeats 1000000 in
theorem p_Begin1 (lo hi p : Nat) (P : Pln) (SX : Nat → Prop) (X : Option Addr) (n xc : Nat) (ys : List CB) (w : World) (sx : SlR SX w X n 1 (ys.map cxV)) (hX : ∀ q, SX q → q < w.heap.size) (pl : PlnR lo hi w p P) (hh : hi ≤ w.heap.size) (N : Nat) (ok : PrgG P.b N) (okb : okB P.b) (hne : 1 ≤ P.b.steps.length) (hn : (n : Int) = P.b.ln) (st : StT w) (hG : 24 ≤ w.heap.size)  :
  Calls prog 93 #[Kh p, .slice X n xc, .bool true] w (Ret (fun v w' => ∃ q m r rs SA sc CA xs, v = .tuple #[Kh q, .nilIface] ∧ Bk w' q #[Kh p, .bool true, Kh m] 161 ∧ MacG w' m r P.b N SA sc ⟨(encB P.b).toArray⟩ CA (cntS P.b.steps) 0 0 0 Fil0 xs ∧ xs.map cx = loadC N P.b.i0.toNat ((ys.map cx).map conjC) ∧ SlR (At rs) w' SA P.b.steps.length 7 (flatS P.b.steps) ∧ (w.heap.size ≤ q ∧ w.heap.size ≤ m ∧ w.heap.size < r ∧ w.heap.size < rs ∧ ¬ rs = r ∧ ¬ rs = m + 1 ∧ ¬ q = m ∧ ¬ r = q + 1) ∧ Ch No w w')) := by
 have hln := ok.ln; have hn1 := ok.n1; have hcl := ok.cl; have hlen := ok.len
 have hyl : ys.length = n := by have := sx.len; simpa using this
 refine Ku func93 O ntmps93 O (Kb (Ww O O (Ww O O (Wz ?_))))
 refine Kb (Wu O O (Om (Cs υ31 O) O (Wu O O (Oq (Qi call60 O (p_Length _ _ _ _ _ pl (by omega))) O ?_))))
 rintro _ _ ⟨rfl, rfl⟩
 refine Om (Wd O O) O (Ka (Qj O (fun hc1 => ?_) (fun hc1 => ?_)))
 · omega
 refine Qn (Qa (Kb (Wu O O (Oq (Qi call130 O (p_Program _ _ _ _ _ pl (by omega) hne hlen)) O ?_))))
 rintro _ w1 ⟨r1, A1, k1, rfl, pg1, yr1, yr21, c1⟩
 have z1 := c1.size
 have st_1 := st.keep c1
 refine Oq (Qi call129 O (m_New _ _ ok _ _ _ _ st_1 pg1 (by omega) okb (fun y hy => by omega) hne)) O ?_
 rintro _ w2 ⟨m2, r2, rs2, sA2, sc2, cA2, rfl, mac2, ss2, hb2, c2⟩
 have ym2 := mac2.bk.lt; have yr2 := Ow.lt mac2.row
 have z2 := c2.size
 refine Wu O O (Om (Qu O O) O (Om (Qu O O) O (Ww O O (Ww O O (Wz ?_)))))
 refine Kb (Wu O O (Om (Cr υ28 O) O (Ka (Cc O (Qn ?_)))))
 refine Qa (Qe (Kb (Wu O O (Ka (Rd O ?_)))))
 refine Qb (Wu O O ?_)
 have sx_2 := sx.keep (c1.trans c2)
 refine Oq (Qi call131 O (p_conj _ _ _ _ _ _ sx_2 (fun q hq => by have := hX q hq; omega) (by omega))) O ?_
 rintro _ w3 ⟨q3, zs3, rfl, cj3, hz3, e3, c3⟩
 have ycj3 := Ow.lt cj3
 have z3 := c3.size
 refine Ww O O (Wz (Kb (Wu O O (Wu O O ?_))))
 have mac_3 := mac2.keep c3
 refine Oq (Qi call132 O (m_Load _ _ _ _ _ _ _ _ _ _ _ _ _ _ _ mac_3 ok _ _ n _ _ hn cj3.sl (fun q hq hm => by omega))) O ?_
 rintro _ w4 ⟨rfl, mac4, c4⟩
 have z4 := c4.size
 refine Ww O O (Wy (Wu O O (Om (Cr υ28 O) O (Qf ?_))))
 refine Qa (Cc O (Qn (Qa (Kb (Wu O O (Wu O O ?_))))))
 refine Wu O O (Om (Ct O (bld161_0_1_2w87 O)) O (Km (Cp O) O ?_))
 intro p5 w5 b39 c5 e5 z5
 refine Ww O O (Ww O O (Ka (Qp (Ra O O O (Kx ?_)))))
 obtain ⟨hb1, hb2, hb3, hb4, hb5⟩ := hb2
 have mac_5 := mac4.keep c5
 have ss_3 := ss2.keep c3
 have ss_4 := ss_3.to c4
 have ss_5 := ss_4.keep c5
 have CH_3 := (c1.trans (c2.trans c3))
 have CH_4 : Ch (No) w w4 := CH_3.then c4
 have CH_5 := CH_4.and c5
 exact ⟨_, _, _, _, _, _, _, _, O, b39, mac_5, (by rw [load_map _ _ _ _ (CR.len cj3), hz3]), ss_5, ⟨by omega, by omega, by omega, by omega, by omega, by omega, by omega, by omega⟩, CH_5⟩
theorem r_Left (q p m r : Nat) (b : Bld) (N : Nat) (SA : Option Addr) (sc : Nat) (bs : ByteArray) (CA : Option Addr) (ac dn sn at_ : Int) (F : Fil) (xs : List CB) (w : World) (I : Bool) (rb : Bk w q #[Kh p, .bool I, Kh m] 161) (mac : MacG w m r b N SA sc bs CA ac dn sn at_ F xs) (hac : 0 ≤ ac ∧ ac ≤ 1000000000 := by omega) (hdn : 0 ≤ dn ∧ dn ≤ 1000000000 := by omega) :
  Calls prog 94 #[Kh q] w (Ret (fun v w' => v = Kg (ac - dn) ∧ Ch No w w')) := by
 refine Ku func94 O ntmps94 O (Kb (Ww O O (Wy ?_)))
 refine Wu O O (Om (Qq O) O (Om (Qh υ161 O ς155 O O O) O (Om (Qg ι155 O (rb.cell O)) O (Oq (Qi call133 O (m_Left _ _ _ _ _ _ _ _ _ _ _ _ _ mac.bk)) O ?_))))
 rintro _ w1 ⟨rfl, c1⟩
 have z1 := c1.size
 refine Ww O O (Ka (Qp (Qx O O (Kx ?_))))
 have CH_1 := c1
 exact ⟨O, CH_1⟩
theorem r_Do (q p m r : Nat) (b : Bld) (N : Nat) (SA : Option Addr) (sc : Nat) (bs : ByteArray) (CA : Option Addr) (ac : Int) (F : Fil) (xs : List CB) (w : World) (I : Bool) (rb : Bk w q #[Kh p, .bool I, Kh m] 161) (mac : MacG w m r b N SA sc bs CA ac 0 0 0 F xs) (hN : N ≤ 1000000) (hac : ac = cntS b.steps) (hac1 : 1 ≤ ac) (hac2 : ac ≤ 100000000) (hok : ∀ s ∈ b.steps, StepG s N) (hl : b.steps.length ≤ 1000000) (S : Nat → Prop) (hS : ∀ q, S q → ¬ MS m r q) (ss : SlR S w SA b.steps.length 7 (flatS b.steps)) (z : Int) (hz : ac = z) :
  Calls prog 95 #[Kh q, Kg z] w (Ret (fun v w' => v = .tuple #[Kg ac, .nilIface] ∧ ∃ F ys, MacG w' m r b N SA sc bs CA ac ac b.steps.length 0 F ys ∧ ys.map cx = runG b.steps (xs.map cx) ∧ Ch (MS m r) w w')) := by
 refine Ku func95 O ntmps95 O ?_
 subst hz
 refine Kb (Ww O O (Ww O O (Wy ?_)))
 refine Wu O O (Om (Qq O) O (Om (Qh υ161 O ς155 O O O) O (Om (Qg ι155 O (rb.cell O)) O (Wu O O (Oq (Qi call134 O (mG_Run m r b N SA sc bs CA ac _ xs _ mac (by omega) hac hac1 hac2 hok hl S hS ss)) O ?_)))))
 rintro _ w1 ⟨rfl, F1, ys1, mac1, hy1, c1⟩
 have z1 := c1.size
 refine Om (Qu O O) O (Om (Qu O O) O (Ww O O (Ww O O (Ka (Qp (Ra O O O ?_))))))
 refine Kx ?_
 have CH_1 : Ch (MS m r) w w1 := (Ch.refl (MS m r) w).then c1
 exact ⟨O, _, _, mac1, hy1, CH_1⟩
set_option maxHeartbeats 1000000 in
theorem r_Result0 (q p m r : Nat) (b : Bld) (N : Nat) (SA : Option Addr) (sc : Nat) (bs : ByteArray) (CA : Option Addr) (ac : Int) (F : Fil) (xs : List CB) (w : World) (rb : Bk w q #[Kh p, .bool false, Kh m] 161) (mac : MacG w m r b N SA sc bs CA ac ac b.steps.length 0 F xs) (ok : PrgG b N) (hac : 0 ≤ ac ∧ ac ≤ 1000000000) :
  Calls prog 96 #[Kh q] w (Ret (fun v w' => ∃ r' A' c' zs, v = .tuple #[.slice A' b.ln.toNat c', .nilIface] ∧ CR 33 w' r' A' b.ln.toNat c' zs ∧ zs.map cx = ((xs.map cx).drop b.ou.toNat).take b.ln.toNat ∧ w.heap.size < r' ∧ Ch No w w')) := by
 have hln := ok.ln
 refine Ku func96 O ntmps96 O (Kb (Ww O O (Ww O O (Wz ?_))))
 refine Qb (Wu O O (Om (Qq O) O (Om (Qh υ161 O ς155 O O O) O (Om (Qg ι155 O (rb.cell O)) O (Oq (Qi call135 O (m_Out _ _ _ _ _ _ _ _ _ _ _ _ _ _ mac ok (by omega))) O ?_)))))
 rintro _ w1 ⟨r1, A1, k1, rfl, out1, yo1, c1⟩
 have z1 := c1.size
 refine Wu O O (Om (Qu O O) O (Om (Qu O O) O (Ww O O (Ww O O (Wz ?_)))))
 refine Kb (Wu O O (Om (Cr υ28 O) O (Wu O O (Wu O O (Om (Qq O) O (Om (Qh υ161 O ς4 O O O) O ?_))))))
 have rb_1 := rb.keep c1
 refine Om (Qg ι4 O (rb_1.cell O)) O (Om (Rm O) O (Om (Qm O O) O (Ka (Rd O (Kb ?_)))))
 refine Wu O O (Wu O O (Ww O O (Ww O O (Ka (Qp (Qw ?_))))))
 refine Ra O O O (Kx ?_)
 have CH_1 := c1
 exact ⟨_, _, _, _, O, out1, by rw [List.map_take, List.map_drop], by omega, CH_1⟩
set_option maxHeartbeats 1000000 in
theorem r_Result1 (q p m r : Nat) (b : Bld) (N : Nat) (SA : Option Addr) (sc : Nat) (bs : ByteArray) (CA : Option Addr) (ac : Int) (F : Fil) (xs : List CB) (w : World) (rb : Bk w q #[Kh p, .bool true, Kh m] 161) (mac : MacG w m r b N SA sc bs CA ac ac b.steps.length 0 F xs) (ok : PrgG b N) (hac : 0 ≤ ac ∧ ac ≤ 1000000000) :
  Calls prog 96 #[Kh q] w (Ret (fun v w' => ∃ r' A' c' zs, v = .tuple #[.slice A' b.ln.toNat c', .nilIface] ∧ CR 33 w' r' A' b.ln.toNat c' zs ∧ zs.map cx = ((((xs.map cx).drop b.ou.toNat).take b.ln.toNat).map conjC).map (fun z => overC z b.ln) ∧ w.heap.size < r' ∧ Ch No w w')) := by
 have hln := ok.ln
 refine Ku func96 O ntmps96 O (Kb (Ww O O (Ww O O (Wz ?_))))
 refine Qb (Wu O O (Om (Qq O) O (Om (Qh υ161 O ς155 O O O) O (Om (Qg ι155 O (rb.cell O)) O (Oq (Qi call135 O (m_Out _ _ _ _ _ _ _ _ _ _ _ _ _ _ mac ok (by omega))) O ?_)))))
 rintro _ w1 ⟨r1, A1, k1, rfl, out1, yo1, c1⟩
 have z1 := c1.size
 refine Wu O O (Om (Qu O O) O (Om (Qu O O) O (Ww O O (Ww O O (Wz ?_)))))
 refine Kb (Wu O O (Om (Cr υ28 O) O (Wu O O (Wu O O (Om (Qq O) O (Om (Qh υ161 O ς4 O O O) O ?_))))))
 have rb_1 := rb.keep c1
 refine Om (Qg ι4 O (rb_1.cell O)) O (Om (Rm O) O (Om (Qm O O) O (Ka (Cc O (Qn (Qa ?_))))))
 refine Kb (Wu O O ?_)
 refine Oq (Qi call131 O (p_conj _ _ _ _ _ _ out1.sl (fun q hq => by have := (out1).lt; omega) (by omega))) O ?_
 rintro _ w2 ⟨q2, zs2, rfl, cj2, hz2, e2, c2⟩
 have ycj2 := Ow.lt cj2
 have z2 := c2.size
 refine Ww O O (Wz (Kb (Wu O O (Om (Cs υ31 O) O ?_))))
 refine Wu O O (Ka (Qt ?_))
 have CH_2 := (c1.trans c2)
 refine Kf (σ := Nat × List CB) (fun (j, zs) => [(4, .slice (Ki q2) b.ln.toNat b.ln.toNat), (29, .slice (Ki q2) b.ln.toNat b.ln.toNat), (30, Kg (b.ln.toNat : Nat)), (31, Kg j)]) (fun (j, zs) w' => j ≤ b.ln.toNat ∧ Upto (fun z => overC z b.ln) zs2 zs j ∧ (∀ i, j ≤ i → zs.getD i (0, 0) = zs2.getD i (0, 0)) ∧ w2.heap.size ≤ w'.heap.size ∧ CR 33 w' (q2 + 1) (Ki q2) b.ln.toNat b.ln.toNat zs ∧ Ch (No) w w') (fun (j, zs) => b.ln.toNat - j) (0, zs2) ?_ ?_
 · exact ⟨(by omega), (Upto.zero _ _ _), (fun i _ => rfl), (Nat.le_refl _), cj2, CH_2⟩
 rintro ⟨j, zs⟩ w3 ⟨hj, hu, hsm, hsz3, cj_3, CH_3⟩
 have hzl := CR.len cj_3
 have hlc : ((b.ln.toNat : Nat) : Int) = b.ln := by omega
 refine Kb (Om (Co O O) O (Wz (Qj O (fun hc1 => ?_) (fun hc1 => ?_))))
 ·
  refine Qn (Qa (Qe (Qt (Kb (Wu O O (Om (Qs υ31 ς33 O O (cj_3.sl.ne (by omega))) O ?_))))))
  refine Om (Qg ι33 O (cj_3.sl.getC (by omega) (by omega))) O (Ww O O (Ww O O (Ka (Qb (Wu O O (Wu O O ?_))))))
  refine Wu O O (Wu O O (Om (Cs υ31 O) O (Oq (Qi call136 O (cplx_Over _ _ _ _)) O ?_)))
  rintro _ w4 ⟨p4, q4, rfl, F4, c4⟩
  have z4 := c4.size
  have cj_4 := cj_3.keep c4
  refine Om (Qs υ31 ς33 O O (cj_4.sl.ne (by omega))) O (Oz (Rj ς33 O O (by omega) cj_4) O ?_)
  rintro _ w5 ⟨o5, c5, z5⟩
  have y5 := o5.lt
  refine Qf (Ql (Qa (Qb ?_)))
  refine Om (Cd O O) O ?_
  refine Wu O O (Qf ?_)
  refine Ke (j + 1, zs.set j (p4, q4)) ?_
  have CH_4 := CH_3.and c4
  have CH_5 : Ch (No) w w5 := CH_4.then c5
  exact ⟨(by omega), (hu.step (by omega) (by rw [F4, Int.toNat_natCast, hlc, ← hsm j (Nat.le_refl _)])), (fun i hi => by rw [set_getD (by omega), if_neg (by omega)]; exact hsm i (by omega)), (by omega), o5, CH_5⟩
 refine Cn (Qk (Qk (Qy (Qa (Kb (Wu O O ?_))))))
 refine Ww O O (Ww O O (Ka (Qp (Ra O O O (Kx ?_)))))
 have e : j = b.ln.toNat := by omega
 rw [e] at hu
 have hz9 := hu.all (CR.len cj2) (CR.len cj_3)
 have y9 := Ow.lt cj_3
 exact ⟨_, _, _, _, O, cj_3, by rw [hz9, hz2, List.map_take, List.map_drop], by omega, CH_3⟩
set_option maxHeartbeats 1000000 in
theorem p_whole0 (lo hi p : Nat) (P : Pln) (SX : Nat → Prop) (X : Option Addr) (n xc : Nat) (ys : List CB) (w : World) (sx : SlR SX w X n 1 (ys.map cxV)) (hX : ∀ q, SX q → q < w.heap.size) (pl : PlnR lo hi w p P) (hh : hi ≤ w.heap.size) (N : Nat) (ok : PrgG P.b N) (okb : okB P.b) (hne : 1 ≤ P.b.steps.length) (hn : (n : Int) = P.b.ln) (st : StT w) (hG : 24 ≤ w.heap.size) (hac1 : 1 ≤ cntS P.b.steps)  :
  Calls prog 49 #[Kh p, .slice X n xc, .bool false] w (Ret (fun v w' => ∃ r' A' c' zs, v = .tuple #[.slice A' P.b.ln.toNat c', .nilIface] ∧ CR 33 w' r' A' P.b.ln.toNat c' zs ∧ zs.map cx = fwdG P.b (ys.map cx) ∧ w.heap.size < r' ∧ Ch No w w')) := by
 have hln := ok.ln; have hn1 := ok.n1; have hcl := ok.cl; have hlen := ok.len
 have hyl : ys.length = n := by have := sx.len; simpa using this
 refine Ku func49 O ntmps49 O (Kb (Ww O O (Ww O O (Wz ?_))))
 refine Qb (Wu O O (Wu O O (Wu O O (Oq (Qi call93 O (p_Begin0 _ _ _ _ _ _ _ _ _ _ sx hX pl (by omega) _ ok okb hne hn st (by omega))) O ?_))))
 rintro _ w1 ⟨q1, m1, r1, rs1, sA1, sc1, cA1, xs1, rfl, rb1, mac1, hx1, ss1, hb1, c1⟩
 obtain ⟨hb1, hb2, hb3, hb4, hb5, hb6, hb7, hb8⟩ := hb1
 have yq1 := rb1.lt; have ym1 := mac1.bk.lt; have yr1 := Ow.lt mac1.row
 have hS : ∀ y, At rs1 y → ¬ MS m1 r1 y := fun y h1 h2 => by omega
 have hok := ok.ok; have hac2 : cntS P.b.steps ≤ 100000000 := by have := ok.act; omega
 have z1 := c1.size
 refine Wu O O (Om (Qu O O) O (Om (Qu O O) O (Ww O O (Ww O O (Wz ?_)))))
 refine Kb (Wu O O (Om (Cr υ28 O) O (Ka (Cc O (Qn ?_)))))
 refine Qa (Qe (Kb (Wu O O (Oq (Qi κ94 O (r_Left _ _ _ _ _ _ _ _ _ _ _ _ _ _ _ _ _ _ rb1 mac1)) O ?_))))
 rintro _ w2 ⟨rfl, c2⟩
 have z2 := c2.size
 refine Om (Rb O O) O (Ka (Qj O (fun hc1 => ?_) (fun hc1 => ?_)))
 ·
  refine Kb (Wu O O (Wu O O ?_))
  have rb_2 := rb1.keep c2
  have mac_2 := mac1.keep c2
  refine Oq (Qi κ94 O (r_Left _ _ _ _ _ _ _ _ _ _ _ _ _ _ _ _ _ _ rb_2 mac_2)) O ?_
  rintro _ w3 ⟨rfl, c3⟩
  have z3 := c3.size
  have rb_3 := rb_2.keep c3
  have mac_3 := mac_2.keep c3
  have ss_3 := ss1.keep (c2.trans c3)
  refine Oq (Qi call95 O (r_Do _ _ _ _ _ _ _ _ _ _ _ _ _ _ _ rb_3 mac_3 (by omega) O hac1 hac2 hok (by omega) _ hS ss_3 _ (by omega))) O ?_
  rintro _ w4 ⟨rfl, F4, ys4, mac4, hy4, c4⟩
  have z4 := c4.size
  refine Wu O O (Om (Qu O O) O (Om (Qu O O) O (Ww O O (Ww O O (Wz ?_)))))
  refine Qb (Wu O O (Om (Cr υ28 O) O (Ka (Cc O (Qn (Qa ?_))))))
  refine Kb (Wu O O ?_)
  have rb_4 := rb_3.to c4
  refine Oq (Qi call96 O (r_Result0 _ _ _ _ _ _ _ _ _ _ _ _ _ _ rb_4 mac4 ok (by omega))) O ?_
  rintro _ w5 ⟨r5, A5, k5, zs5, rfl, out5, hz5, yo5, c5⟩
  have z5 := c5.size
  refine Om (Qu O O) O (Om (Qu O O) O (Ww O O (Ww O O (Ka (Qp (Ra O O O ?_))))))
  refine Kx ?_
  have CH_3 := (c1.trans (c2.trans c3))
  have CH_4 : Ch (No) w w4 := CH_3.then c4
  have CH_5 := CH_4.and c5
  exact ⟨_, _, _, _, O, out5, by rw [hz5, hy4, hx1, show N = P.b.cl.toNat by omega]; rfl, by omega, CH_5⟩
 omega
set_option maxHeartbeats 1000000 in
theorem p_whole1 (lo hi p : Nat) (P : Pln) (SX : Nat → Prop) (X : Option Addr) (n xc : Nat) (ys : List CB) (w : World) (sx : SlR SX w X n 1 (ys.map cxV)) (hX : ∀ q, SX q → q < w.heap.size) (pl : PlnR lo hi w p P) (hh : hi ≤ w.heap.size) (N : Nat) (ok : PrgG P.b N) (okb : okB P.b) (hne : 1 ≤ P.b.steps.length) (hn : (n : Int) = P.b.ln) (st : StT w) (hG : 24 ≤ w.heap.size) (hac1 : 1 ≤ cntS P.b.steps)  :
  Calls prog 49 #[Kh p, .slice X n xc, .bool true] w (Ret (fun v w' => ∃ r' A' c' zs, v = .tuple #[.slice A' P.b.ln.toNat c', .nilIface] ∧ CR 33 w' r' A' P.b.ln.toNat c' zs ∧ zs.map cx = invG P.b (ys.map cx) ∧ w.heap.size < r' ∧ Ch No w w')) := by
 have hln := ok.ln; have hn1 := ok.n1; have hcl := ok.cl; have hlen := ok.len
 have hyl : ys.length = n := by have := sx.len; simpa using this
 refine Ku func49 O ntmps49 O (Kb (Ww O O (Ww O O (Wz ?_))))
 refine Qb (Wu O O (Wu O O (Wu O O (Oq (Qi call93 O (p_Begin1 _ _ _ _ _ _ _ _ _ _ sx hX pl (by omega) _ ok okb hne hn st (by omega))) O ?_))))
 rintro _ w1 ⟨q1, m1, r1, rs1, sA1, sc1, cA1, xs1, rfl, rb1, mac1, hx1, ss1, hb1, c1⟩
 obtain ⟨hb1, hb2, hb3, hb4, hb5, hb6, hb7, hb8⟩ := hb1
 have yq1 := rb1.lt; have ym1 := mac1.bk.lt; have yr1 := Ow.lt mac1.row
 have hS : ∀ y, At rs1 y → ¬ MS m1 r1 y := fun y h1 h2 => by omega
 have hok := ok.ok; have hac2 : cntS P.b.steps ≤ 100000000 := by have := ok.act; omega
 have z1 := c1.size
 refine Wu O O (Om (Qu O O) O (Om (Qu O O) O (Ww O O (Ww O O (Wz ?_)))))
 refine Kb (Wu O O (Om (Cr υ28 O) O (Ka (Cc O (Qn ?_)))))
 refine Qa (Qe (Kb (Wu O O (Oq (Qi κ94 O (r_Left _ _ _ _ _ _ _ _ _ _ _ _ _ _ _ _ _ _ rb1 mac1)) O ?_))))
 rintro _ w2 ⟨rfl, c2⟩
 have z2 := c2.size
 refine Om (Rb O O) O (Ka (Qj O (fun hc1 => ?_) (fun hc1 => ?_)))
 ·
  refine Kb (Wu O O (Wu O O ?_))
  have rb_2 := rb1.keep c2
  have mac_2 := mac1.keep c2
  refine Oq (Qi κ94 O (r_Left _ _ _ _ _ _ _ _ _ _ _ _ _ _ _ _ _ _ rb_2 mac_2)) O ?_
  rintro _ w3 ⟨rfl, c3⟩
  have z3 := c3.size
  have rb_3 := rb_2.keep c3
  have mac_3 := mac_2.keep c3
  have ss_3 := ss1.keep (c2.trans c3)
  refine Oq (Qi call95 O (r_Do _ _ _ _ _ _ _ _ _ _ _ _ _ _ _ rb_3 mac_3 (by omega) O hac1 hac2 hok (by omega) _ hS ss_3 _ (by omega))) O ?_
  rintro _ w4 ⟨rfl, F4, ys4, mac4, hy4, c4⟩
  have z4 := c4.size
  refine Wu O O (Om (Qu O O) O (Om (Qu O O) O (Ww O O (Ww O O (Wz ?_)))))
  refine Qb (Wu O O (Om (Cr υ28 O) O (Ka (Cc O (Qn (Qa ?_))))))
  refine Kb (Wu O O ?_)
  have rb_4 := rb_3.to c4
  refine Oq (Qi call96 O (r_Result1 _ _ _ _ _ _ _ _ _ _ _ _ _ _ rb_4 mac4 ok (by omega))) O ?_
  rintro _ w5 ⟨r5, A5, k5, zs5, rfl, out5, hz5, yo5, c5⟩
  have z5 := c5.size
  refine Om (Qu O O) O (Om (Qu O O) O (Ww O O (Ww O O (Ka (Qp (Ra O O O ?_))))))
  refine Kx ?_
  have CH_3 := (c1.trans (c2.trans c3))
  have CH_4 : Ch (No) w w4 := CH_3.then c4
  have CH_5 := CH_4.and c5
  exact ⟨_, _, _, _, O, out5, by rw [hz5, hy4, hx1, show N = P.b.cl.toNat by omega]; rfl, by omega, CH_5⟩
 omega
theorem p_Forward (lo hi p : Nat) (P : Pln) (SX : Nat → Prop) (X : Option Addr) (n xc : Nat) (ys : List CB) (w : World) (sx : SlR SX w X n 1 (ys.map cxV)) (hX : ∀ q, SX q → q < w.heap.size) (pl : PlnR lo hi w p P) (hh : hi ≤ w.heap.size) (N : Nat) (ok : PrgG P.b N) (okb : okB P.b) (hne : 1 ≤ P.b.steps.length) (hn : (n : Int) = P.b.ln) (st : StT w) (hG : 24 ≤ w.heap.size) (hac1 : 1 ≤ cntS P.b.steps)  :
  Calls prog 15 #[Kh p, .slice X n xc] w (Ret (fun v w' => ∃ r' A' c' zs, v = .tuple #[.slice A' P.b.ln.toNat c', .nilIface] ∧ CR 33 w' r' A' P.b.ln.toNat c' zs ∧ zs.map cx = fwdG P.b (ys.map cx) ∧ w.heap.size < r' ∧ Ch No w w')) := by
 refine Ku func15 O ntmps15 O (Kb (Ww O O (Ww O O (Wz ?_))))
 refine Qb (Wu O O (Wu O O (Oq (Qi call49 O (p_whole0 _ _ _ _ _ _ _ _ _ _ sx hX pl (by omega) _ ok okb hne hn st (by omega) hac1)) O ?_)))
 rintro _ w1 ⟨r1, A1, k1, zs1, rfl, out1, hz1, yo1, c1⟩
 have z1 := c1.size
 refine Om (Qu O O) O (Om (Qu O O) O (Ww O O (Ww O O (Ka (Qp (Ra O O O ?_))))))
 refine Kx ?_
 have CH_1 := c1
 exact ⟨_, _, _, _, O, out1, hz1, by omega, CH_1⟩
theorem p_Inverse (lo hi p : Nat) (P : Pln) (SX : Nat → Prop) (X : Option Addr) (n xc : Nat) (ys : List CB) (w : World) (sx : SlR SX w X n 1 (ys.map cxV)) (hX : ∀ q, SX q → q < w.heap.size) (pl : PlnR lo hi w p P) (hh : hi ≤ w.heap.size) (N : Nat) (ok : PrgG P.b N) (okb : okB P.b) (hne : 1 ≤ P.b.steps.length) (hn : (n : Int) = P.b.ln) (st : StT w) (hG : 24 ≤ w.heap.size) (hac1 : 1 ≤ cntS P.b.steps)  :
  Calls prog 16 #[Kh p, .slice X n xc] w (Ret (fun v w' => ∃ r' A' c' zs, v = .tuple #[.slice A' P.b.ln.toNat c', .nilIface] ∧ CR 33 w' r' A' P.b.ln.toNat c' zs ∧ zs.map cx = invG P.b (ys.map cx) ∧ w.heap.size < r' ∧ Ch No w w')) := by
 refine Ku func16 O ntmps16 O (Kb (Ww O O (Ww O O (Wz ?_))))
 refine Qb (Wu O O (Wu O O (Oq (Qi call49 O (p_whole1 _ _ _ _ _ _ _ _ _ _ sx hX pl (by omega) _ ok okb hne hn st (by omega) hac1)) O ?_)))
 rintro _ w1 ⟨r1, A1, k1, zs1, rfl, out1, hz1, yo1, c1⟩
 have z1 := c1.size
 refine Om (Qu O O) O (Om (Qu O O) O (Ww O O (Ww O O (Ka (Qp (Ra O O O ?_))))))
 refine Kx ?_
 have CH_1 := c1
 exact ⟨_, _, _, _, O, out1, hz1, by omega, CH_1⟩
end Go.Tm
namespace Go.Tm
def trT (a b : Nat) (TA TB : (Nat → Cx) → Nat → Cx) (x : Nat → Cx) (i : Nat) : Cx :=
 TA (fun j => twistF (TB (fun l => x (j + a * l)) (i % b)) (a * b) (j * (i % b) % (a * b))) (i / b)
def trB (n m : Nat) (R : (Nat → Cx) → Nat → Cx) (x : Nat → Cx) (k : Nat) : Cx :=
 mulC (overC (conjC (R (fun i => conjC (mulC (R (fun j => if j < n then mulC (x j) (chirpF n j) else z0) i) (R (otherF n m) i))) k)) (m : Int)) (chirpF n k)
def trM : Ord → (Nat → Cx) → Nat → Cx
 | .mk k n ks, x =>
  if k = 1 then fun i => directG n.toNat i x
  else if k = 2 then fun i => (flyG ((List.range n.toNat).map x)).getD i z0
  else if k = 3 then
   match ks with
   | [a, b] => trT a.len.toNat b.len.toNat (trM a) (trM b) x
   | _ => x
  else
   match ks with
   | [a] => trB n.toNat a.len.toNat (trM a) x
   | _ => x
theorem trM_direct (n : Int) : trM (.mk 1 n []) = fun x i => directG n.toNat i x := by funext x; unfold trM; rw [if_pos rfl]
theorem trM_fly (n : Int) : trM (.mk 2 n []) = fun x i => (flyG ((List.range n.toNat).map x)).getD i z0 := by funext x; unfold trM; rw [if_neg (by decide), if_pos rfl]
theorem trM_times (n : Int) (a b : Ord) : trM (.mk 3 n [a, b]) = trT a.len.toNat b.len.toNat (trM a) (trM b) := by funext x; rw [trM, if_neg (by decide), if_neg (by decide), if_pos rfl]
theorem trM_blue (n : Int) (a : Ord) : trM (.mk 4 n [a]) = trB n.toNat a.len.toNat (trM a) := by funext x; rw [trM, if_neg (by decide), if_neg (by decide), if_neg (by decide)]
theorem sumG_congr {n k : Nat} {x y : Nat → Cx} : ∀ j, (∀ i, i ≤ j → x i = y i) → sumG n k x j = sumG n k y j
 | 0, h => h 0 (Nat.le_refl _)
 | j + 1, h => by
  unfold sumG
  rw [sumG_congr j fun i hi => h i (by omega), h (j + 1) (Nat.le_refl _)]
theorem directG_congr {n k : Nat} {x y : Nat → Cx} (hn : 1 ≤ n) (h : ∀ i, i < n → x i = y i) : directG n k x = directG n k y := sumG_congr _ fun i hi => h i (by omega)
theorem mapr_congr {n : Nat} {x y : Nat → Cx} (h : ∀ i, i < n → x i = y i) : (List.range n).map x = (List.range n).map y := List.map_congr_left fun i hi => h i (List.mem_range.1 hi)
def Loc (n : Nat) (T : (Nat → Cx) → Nat → Cx) : Prop := ∀ x y : Nat → Cx, (∀ j, j < n → x j = y j) → ∀ k, T x k = T y k
theorem trT_loc {a b : Nat} {TA TB : (Nat → Cx) → Nat → Cx} (ha : Loc a TA) (hb : Loc b TB) : Loc (a * b) (trT a b TA TB) := by
 intro x y h k
 unfold trT
 refine ha _ _ (fun j hj => ?_) _
 rw [hb _ _ (fun l hl => h (j + a * l) ?_) (k % b)]
 have h1 : a * (l + 1) ≤ a * b := Nat.mul_le_mul_left a hl
 rw [Nat.mul_succ] at h1
 omega
theorem trB_loc {n m : Nat} {R : (Nat → Cx) → Nat → Cx} (hR : Loc m R) : Loc n (trB n m R) := by
 intro x y h k
 unfold trB
 rw [hR _ _ (fun i hi => ?_) k]
 rw [hR _ _ (fun j hj => ?_) i]
 by_cases e : j < n
 · rw [if_pos e, if_pos e, h j e]
 · rw [if_neg e, if_neg e]
theorem trM_loc {o : Ord} (h : GO o) : Loc (sl o).toNat (trM o) := by
 induction h with
 | @direct n h1 h2 =>
  intro x y h k
  rw [trM_direct]
  exact directG_congr (by omega) h
 | @fly n h1 h2 =>
  intro x y h k
  rw [trM_fly]
  show (flyG _).getD k z0 = (flyG _).getD k z0
  rw [mapr_congr (n := n.toNat) h]
 | @times a b ga gb h2 h3 h4 ia ib =>
  intro x y h k
  rw [trM_times]
  rw [← len_sl (show a.len ≠ 0 by omega)] at ia
  rw [← len_sl (show b.len ≠ 0 by omega)] at ib
  refine trT_loc ia ib x y (fun j hj => h j ?_) k
  have : (sl (.mk 3 0 [a, b])) = a.len * b.len := rfl
  rw [this, Int.toNat_mul (by omega) (by omega)]; exact hj
 | @blue n a h1 h2 ga h3 ia =>
  intro x y h k
  rw [trM_blue]
  rw [← len_sl (show a.len ≠ 0 by omega)] at ia
  exact trB_loc ia x y h k
def gd (c : List Cx) (i : Nat) : Cx := c.getD i z0
theorem gd_set {c : List Cx} {i j : Nat} {z : Cx} (hj : j < c.length) : gd (c.set j z) i = if i = j then z else gd c i := by
 simp only [gd, List.getD, List.getElem?_set]
 by_cases h : j = i
 · subst h; simp [hj]
 ·
  have : ¬ i = j := fun e => h e.symm
  simp [h, this]
theorem acts_simple {s : Stp} {c : List Cx} {D : Nat → Nat} {f : Nat → Cx} : ∀ n, (∀ i, i < n → D i < c.length) → (∀ i j, i < j → j < n → D i ≠ D j) → (∀ i, i < n → ∀ c' : List Cx, c'.length = c.length → (∀ q, (∀ j, j < i → q ≠ D j) → gd c' q = gd c q) → actG s i c' = c'.set (D i) (f i)) →
  (actsG s c n).length = c.length ∧ (∀ i, i < n → gd (actsG s c n) (D i) = f i) ∧ ∀ q, (∀ i, i < n → q ≠ D i) → gd (actsG s c n) q = gd c q
 | 0, _, _, _ => ⟨rfl, fun i hi => absurd hi (Nat.not_lt_zero i), fun _ _ => rfl⟩
 | n + 1, h1, h2, h3 => by
  obtain ⟨a1, a2, a3⟩ := acts_simple n (fun i hi => h1 i (by omega)) (fun i j hij hj => h2 i j hij (by omega)) (fun i hi => h3 i (by omega))
  have e : actsG s c (n + 1) = (actsG s c n).set (D n) (f n) := h3 n (by omega) _ a1 a3
  have hl : D n < (actsG s c n).length := by rw [a1]; exact h1 n (by omega)
  refine ⟨by rw [e, List.length_set, a1], fun i hi => ?_, fun q hq => ?_⟩
  ·
   rw [e, gd_set hl]
   by_cases p : i = n
   · subst p; rw [if_pos rfl]
   · rw [if_neg (h2 i n (by omega) (by omega)), a2 i (by omega)]
  · rw [e, gd_set hl, if_neg (hq n (by omega)), a3 q fun i hi => hq i (by omega)]
def Eff (s : Stp) (N : Int) (Φ : (Nat → Cx) → (Nat → Cx) → Prop) : Prop := ∀ c : List Cx, N ≤ (c.length : Int) → (runG [s] c).length = c.length ∧ Φ (gd c) (gd (runG [s] c))
theorem Eff.simple {s : Stp} {N : Int} {Φ : (Nat → Cx) → (Nat → Cx) → Prop} {n : Nat} (hn : s.count.toNat = n) (D : Nat → Nat) (f : (Nat → Cx) → Nat → Cx) (h1 : ∀ i, i < n → (D i : Int) < N) (h2 : ∀ i j, i < j → j < n → D i ≠ D j) (h3 : ∀ i, i < n → ∀ c c' : List Cx, (∀ q, (∀ j, j < i → q ≠ D j) → gd c' q = gd c q) → actG s i c' = c'.set (D i) (f (gd c) i)) (h4 : ∀ c c', (∀ i, i < n → c' (D i) = f c i) → (∀ q, (∀ i, i < n → q ≠ D i) → c' q = c q) → Φ c c') : Eff s N Φ := by
 intro c hc
 have e : runG [s] c = actsG s c n := by show actsG s c s.count.toNat = _; rw [hn]
 obtain ⟨a1, a2, a3⟩ := acts_simple (s := s) (c := c) (D := D) (f := f (gd c)) n (fun i hi => by have := h1 i hi; omega) h2 fun i hi c' _ hq => h3 i hi c c' hq
 rw [e]
 exact ⟨a1, h4 _ _ a2 a3⟩
def Wr (d n : Nat) (f : (Nat → Cx) → Nat → Cx) (c c' : Nat → Cx) : Prop := (∀ i, i < n → c' (d + i) = f c i) ∧ ∀ q, (q < d ∨ d + n ≤ q) → c' q = c q
theorem Eff.row {s : Stp} {N : Int} {d n : Nat} (f : (Nat → Cx) → Nat → Cx) (hn : s.count.toNat = n) (h1 : ((d + n : Nat) : Int) ≤ N) (h3 : ∀ i, i < n → ∀ c c' : List Cx, (∀ q, (∀ j, j < i → q ≠ d + j) → gd c' q = gd c q) → actG s i c' = c'.set (d + i) (f (gd c) i)) : Eff s N (Wr d n f) :=
 Eff.simple hn (fun i => d + i) f (fun i hi => by omega) (fun i j hij _ => by omega) h3 fun c c' a b => ⟨a, fun q hq => b q fun i hi => by omega⟩
section
variable {N : Int} {d s J n m k r : Nat}
theorem eff_gather (hx : s + (n - 1) * J < d ∨ d + n ≤ s) (h1 : ((d + n : Nat) : Int) ≤ N) : Eff (gatherS d s J n) N (Wr d n fun c i => c (s + i * J)) :=
 Eff.row _ (by simp [gatherS]) h1 fun i hi c c' hq => by
  have e : actG (gatherS d s J n) i c' = c'.set (d + i) (gd c' (s + i * J)) := by simp [actG, gatherS, gd]
  have hm : i * J ≤ (n - 1) * J := Nat.mul_le_mul_right J (by omega)
  rw [e, hq _ fun j hj => by omega]
theorem eff_zero (h1 : ((d + n : Nat) : Int) ≤ N) : Eff (zeroS d n) N (Wr d n fun _ _ => z0) :=
 Eff.row _ (by simp [zeroS]) h1 fun i hi c c' hq => by simp [actG, zeroS]
theorem eff_twist (h1 : ((d + m : Nat) : Int) ≤ N) : Eff (twistS d m n k) N (Wr d m fun c i => twistF (c (d + i)) n (k * i % n)) :=
 Eff.row _ (by simp [twistS]) h1 fun i hi c c' hq => by
  have e : actG (twistS d m n k) i c' = c'.set (d + i) (twistF (gd c' (d + i)) n (k * i % n)) := by simp [actG, twistS, gd]
  rw [e, hq _ fun j hj => by omega]
theorem eff_direct (hn : 1 ≤ n) (hx : s + (n - 1) * J < d ∨ d + n ≤ s) (h1 : ((d + n : Nat) : Int) ≤ N) : Eff (directS ⟨s, J, d⟩ n) N (Wr d n fun c i => directG n i fun j => c (s + j * J)) :=
 Eff.row _ (by simp [directS]) h1 fun i hi c c' hq => by
  have e : actG (directS ⟨s, J, d⟩ n) i c' = c'.set (d + i) (directG n i fun j => gd c' (s + j * J)) := by simp [actG, directS, gd]
  rw [e, directG_congr hn fun q hq2 => hq (s + q * J) fun j hj => by
   have hm : q * J ≤ (n - 1) * J := Nat.mul_le_mul_right J (by omega)
   omega]
theorem eff_chirp (h1 : ((d + m : Nat) : Int) ≤ N) : Eff (chirpS d m n) N (Wr d m fun c i => mulC (c (d + i)) (chirpF n i)) :=
 Eff.row _ (by simp [chirpS]) h1 fun i hi c c' hq => by
  have e : actG (chirpS d m n) i c' = c'.set (d + i) (mulC (gd c' (d + i)) (chirpF n i)) := by simp [actG, chirpS, gd]
  rw [e, hq _ fun j hj => by omega]
theorem eff_fill (h1 : ((d + m : Nat) : Int) ≤ N) : Eff (fillS d m n) N (Wr d m fun _ i => otherF n m i) :=
 Eff.row _ (by simp [fillS]) h1 fun i hi c c' hq => by simp [actG, fillS]
theorem eff_times (hx : s + n ≤ d ∨ d + n ≤ s) (h1 : ((d + n : Nat) : Int) ≤ N) : Eff (tmsS d s n) N (Wr d n fun c i => mulC (c (d + i)) (c (s + i))) :=
 Eff.row _ (by simp [tmsS]) h1 fun i hi c c' hq => by
  have e : actG (tmsS d s n) i c' = c'.set (d + i) (mulC (gd c' (d + i)) (gd c' (s + i))) := by simp [actG, tmsS, gd]
  rw [e, hq (d + i) fun j hj => by omega, hq (s + i) fun j hj => by omega]
theorem eff_conj (h1 : ((d + n : Nat) : Int) ≤ N) : Eff (conjS d n) N (Wr d n fun c i => conjC (c (d + i))) :=
 Eff.row _ (by simp [conjS]) h1 fun i hi c c' hq => by
  have e : actG (conjS d n) i c' = c'.set (d + i) (conjC (gd c' (d + i))) := by simp [actG, conjS, gd]
  rw [e, hq _ fun j hj => by omega]
theorem eff_over (h1 : ((d + n : Nat) : Int) ≤ N) : Eff (overS d n m) N (Wr d n fun c i => overC (c (d + i)) (m : Int)) :=
 Eff.row _ (by simp [overS]) h1 fun i hi c c' hq => by
  have e : actG (overS d n m) i c' = c'.set (d + i) (overC (gd c' (d + i)) (m : Int)) := by simp [actG, overS, gd]
  rw [e, hq _ fun j hj => by omega]
theorem eff_scatter (hJ : 1 ≤ J) (hx : s + n ≤ d ∨ d + (n - 1) * J < s) (h1 : ∀ i, i < n → ((d + i * J : Nat) : Int) < N) : Eff (scatterS d s J n) N (fun c c' => (∀ i, i < n → c' (d + i * J) = c (s + i)) ∧ ∀ q, (∀ i, i < n → q ≠ d + i * J) → c' q = c q) :=
 Eff.simple (n := n) (by simp [scatterS]) (fun i => d + i * J) (fun c i => c (s + i)) h1 (fun i j hij _ e => by
  have h2 : (i + 1) * J ≤ j * J := Nat.mul_le_mul_right J hij
  rw [Nat.succ_mul] at h2
  omega) (fun i hi c c' hq => by
  have e : actG (scatterS d s J n) i c' = c'.set (d + i * J) (gd c' (s + i)) := by simp [actG, scatterS, gd]
  rw [e, hq _ fun j hj => by
   have hm : j * J ≤ (n - 1) * J := Nat.mul_le_mul_right J (by omega)
   omega]) fun c c' a b => ⟨a, b⟩
theorem putN_gd {c : List Cx} {u v : Nat} {ys : List Cx} (hv : 1 ≤ v) : ∀ n, (∀ q, q < n → u + q * v < c.length) → (putN c u v ys n).length = c.length ∧ (∀ q, q < n → gd (putN c u v ys n) (u + q * v) = ys.getD q z0) ∧ ∀ p, (∀ q, q < n → p ≠ u + q * v) → gd (putN c u v ys n) p = gd c p
 | 0, _ => ⟨rfl, fun i hi => absurd hi (Nat.not_lt_zero i), fun _ _ => rfl⟩
 | n + 1, h => by
  obtain ⟨a1, a2, a3⟩ := putN_gd (c := c) (u := u) (ys := ys) hv n fun q hq => h q (by omega)
  have hl : u + n * v < (putN c u v ys n).length := by rw [a1]; exact h n (by omega)
  refine ⟨?_, fun q hq => ?_, fun p hp => ?_⟩
  ·
   show ((putN c u v ys n).set _ _).length = _
   rw [List.length_set, a1]
  ·
   show gd ((putN c u v ys n).set _ _) _ = _
   rw [gd_set hl]
   by_cases e : q = n
   · subst e; rw [if_pos rfl]
   ·
    have h2 : (q + 1) * v ≤ n * v := Nat.mul_le_mul_right v (by omega)
    rw [Nat.succ_mul] at h2
    rw [if_neg (by omega), a2 q (by omega)]
  ·
   show gd ((putN c u v ys n).set _ _) _ = _
   rw [gd_set hl, if_neg (hp n (by omega)), a3 p fun q hq => hp q (by omega)]
theorem grid_ne {i i' q q' J : Nat} (h : i < i') (hi : i' < J) : i + q * J ≠ i' + q' * J := by
 intro e
 have h1 : (i + q * J) % J = i := by rw [Nat.add_mul_mod_self_right, Nat.mod_eq_of_lt (by omega)]
 have h2 : (i' + q' * J) % J = i' := by rw [Nat.add_mul_mod_self_right, Nat.mod_eq_of_lt hi]
 rw [e, h2] at h1
 omega
theorem acts_fly {c : List Cx} (hJ : 1 ≤ J) : ∀ n, n ≤ J → (∀ i, i < n → ∀ q, q < r → d + i + q * J < c.length) →
  (actsG (flyS d J m r) c n).length = c.length ∧ (∀ i, i < n → ∀ q, q < r → gd (actsG (flyS d J m r) c n) (d + i + q * J) = (flyG ((List.range r).map fun q => gd c (d + i + q * J))).getD q z0) ∧ ∀ p, (∀ i, i < n → ∀ q, q < r → p ≠ d + i + q * J) → gd (actsG (flyS d J m r) c n) p = gd c p
 | 0, _, _ => ⟨rfl, fun i hi => absurd hi (Nat.not_lt_zero i), fun _ _ => rfl⟩
 | n + 1, hn, h => by
  obtain ⟨a1, a2, a3⟩ := acts_fly (c := c) hJ n (by omega) fun i hi => h i (by omega)
  have e : actsG (flyS d J m r) c (n + 1) = putN (actsG (flyS d J m r) c n) (d + n) J (flyG ((List.range r).map fun q => gd c (d + n + q * J))) r := by
   show actG _ _ _ = _
   have e2 : actG (flyS d J m r) n (actsG (flyS d J m r) c n) = putN (actsG (flyS d J m r) c n) (d + n) J (flyG ((List.range r).map fun q => gd (actsG (flyS d J m r) c n) (d + n + q * J))) r := by simp [actG, flyS, gd]
   rw [e2, mapr_congr (y := fun q => gd c (d + n + q * J)) fun q hq => a3 _ fun i hi q' hq' e => grid_ne (q := q') (q' := q) hi (show n < J by omega) (by omega)]
  obtain ⟨b1, b2, b3⟩ := putN_gd (c := actsG (flyS d J m r) c n) (u := d + n) (ys := flyG ((List.range r).map fun q => gd c (d + n + q * J))) hJ r fun q hq => by rw [a1]; exact h n (by omega) q hq
  rw [e]
  refine ⟨b1.trans a1, fun i hi q hq => ?_, fun p hp => ?_⟩
  ·
   by_cases p : i = n
   · subst p; exact b2 q hq
   ·
    rw [b3 _ fun q' hq' e => grid_ne (q := q) (q' := q') (show i < n by omega) (show n < J by omega) (by omega)]
    exact a2 i (by omega) q hq
  · rw [b3 _ (hp n (by omega)), a3 p fun i hi => hp i (by omega)]
theorem eff_fly (hJ : 1 ≤ J) (hm : m ≤ J) (h1 : ∀ i, i < m → ∀ q, q < r → ((d + i + q * J : Nat) : Int) < N) : Eff (flyS d J m r) N (fun c c' => (∀ i, i < m → ∀ q, q < r → c' (d + i + q * J) = (flyG ((List.range r).map fun q => c (d + i + q * J))).getD q z0) ∧ ∀ p, (∀ i, i < m → ∀ q, q < r → p ≠ d + i + q * J) → c' p = c p) := by
 intro c hc
 have e : runG [flyS d J m r] c = actsG (flyS d J m r) c m := by show actsG _ c (flyS d J m r).count.toNat = _; simp [flyS]
 rw [e]
 exact acts_fly hJ m hm fun i hi q hq => by have := h1 i hi q hq; omega
end
def Runs (b b' : Bld) (Φ : (Nat → Cx) → (Nat → Cx) → Prop) : Prop :=
 b'.full = false → b.full = false ∧ b.cl ≤ b'.cl ∧ ∃ L, b'.steps = b.steps ++ L ∧ ∀ c : List Cx, b'.cl ≤ (c.length : Int) → (runG L c).length = c.length ∧ Φ (gd c) (gd (runG L c))
theorem Runs.mono {b b' : Bld} {Φ Ψ : (Nat → Cx) → (Nat → Cx) → Prop} (h : Runs b b' Φ) (hm : ∀ c c', Φ c c' → Ψ c c') : Runs b b' Ψ := fun hf => by
 obtain ⟨h1, h2, L, h3, h4⟩ := h hf
 exact ⟨h1, h2, L, h3, fun c hc => ⟨(h4 c hc).1, hm _ _ (h4 c hc).2⟩⟩
theorem Runs.refl (b : Bld) : Runs b b (fun c c' => c' = c) := fun hf => ⟨hf, Int.le_refl _, [], by simp, fun c _ => ⟨rfl, rfl⟩⟩
theorem Runs.trans {a b c : Bld} {Φ Ψ : (Nat → Cx) → (Nat → Cx) → Prop} (h : Runs a b Φ) (g : Runs b c Ψ) : Runs a c (fun x z => ∃ y, Φ x y ∧ Ψ y z) := fun hf => by
 obtain ⟨g1, g2, M, g3, g4⟩ := g hf
 obtain ⟨h1, h2, L, h3, h4⟩ := h g1
 refine ⟨h1, Int.le_trans h2 g2, L ++ M, by rw [g3, h3, List.append_assoc], fun x hx => ?_⟩
 have e : runG (L ++ M) x = runG M (runG L x) := List.foldl_append
 obtain ⟨k1, k2⟩ := h4 x (by omega)
 obtain ⟨k3, k4⟩ := g4 (runG L x) (by rw [k1]; exact hx)
 rw [e]
 exact ⟨k3.trans k1, _, k2, k4⟩
theorem Runs.add {b : Bld} {s : Stp} {Φ : (Nat → Cx) → (Nat → Cx) → Prop} (h : Eff s b.cl Φ) : Runs b (b.add s) Φ := fun hf => by
 by_cases hb : b.full = true
 · rw [add_full hb, hb] at hf; cases hf
 ·
  have hb : b.full = false := by simpa using hb
  refine ⟨hb, by rw [add_cl]; exact Int.le_refl _, [s], by rw [add_not hb], fun c hc => h c ?_⟩
  rw [add_cl] at hc; exact hc
theorem Runs.region (b : Bld) (n : Int) : Runs b (b.region n) (fun c c' => c' = c) := fun hf => by
 have h2 := region_cl b n
 refine ⟨?_, h2, [], by simp [Bld.region], fun c _ => ⟨O, O⟩⟩
 have h1 := full_false hf
 have h3 : (b.region n).steps = b.steps := rfl
 have h4 : (b.region n).acts = b.acts := rfl
 rw [h3, h4] at h1
 simp only [Bld.full, Bool.or_eq_false_iff, decide_eq_false_iff_not]
 omega
theorem Runs.back {b r : Bld} {Φ : (Nat → Cx) → (Nat → Cx) → Prop} {f : Int} (h : Runs b r Φ) : Runs b { r with fr := f } Φ := fun hf => h hf
theorem Runs.fold {F : Bld → Nat → Bld} {I : Nat → (Nat → Cx) → (Nat → Cx) → Prop} {Q : Bld → Prop} (h0 : ∀ c, I 0 c c) (hQ : ∀ b j, Q b → Q (F b j)) : ∀ n, (∀ j, j < n → ∀ b, Q b → Runs b (F b j) (fun c c' => ∀ c0, I j c0 c → I (j + 1) c0 c')) → ∀ b, Q b → Q ((List.range n).foldl F b) ∧ Runs b ((List.range n).foldl F b) (I n)
 | 0, _, b, hb => ⟨hb, (Runs.refl b).mono fun c c' e => by rw [e]; exact h0 c⟩
 | n + 1, hF, b, hb => by
  obtain ⟨q, k⟩ := Runs.fold h0 hQ n (fun j hj => hF j (by omega)) b hb
  rw [List.range_succ, List.foldl_append]
  refine ⟨hQ _ _ q, (k.trans (hF n (by omega) _ q)).mono ?_⟩
  rintro c c' ⟨y, h1, h2⟩
  exact h2 c h1
def Tr1 (n : Nat) (T : (Nat → Cx) → Nat → Cx) (s J d f : Nat) (c c' : Nat → Cx) : Prop :=
 (∀ k, k < n → c' (d + k) = T (fun j => c (s + j * J)) k) ∧ ∀ q, q < f → (q < d ∨ d + n ≤ q) → c' q = c q
def DeepTr (R : Inst → Bld → Bld) (L : Int) (T : (Nat → Cx) → Nat → Cx) : Prop := ∀ (s J d : Nat) (b : Bld), BdOk b → InsOk ⟨s, J, d⟩ L b.fr → Runs b (R ⟨s, J, d⟩ b) (Tr1 L.toNat T s J d b.fr.toNat)
structure Fq (f : Int) (b : Bld) : Prop where
  ok : BdOk b
  fr : b.fr = f
theorem Fq.kp {f : Int} {b c : Bld} (h : Fq f b) (k : Kp b c) : Fq f c := ⟨k.ok, k.fr.trans h.fr⟩
end Go.Tm
