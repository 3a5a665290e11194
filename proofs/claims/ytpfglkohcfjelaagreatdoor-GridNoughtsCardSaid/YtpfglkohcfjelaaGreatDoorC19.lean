/- Lemmas of this claim, joined by program. The usual orders of short lists keep to finite floats. Relations of floats through the usual plans, in plain Lean. Walks of functions: the fixed fact of the grids' laws. Conditions: each lemma names its own. -/
import Derived.Test.YtpfglkohcfjelaaGreatDoorC18
import Derived.Test.YtpfglkohcfjelaaGreatDoorC16
set_option linter.all false
namespace Go.Tm
theorem chk_pick {a n : Nat} (h : ((List.range 10).all fun k : Nat => chkK ((k : Int) + (a : Int))) = true) (h1 : a ≤ n) (h2 : n < a + 10) : chkK n = true := by
  have := List.all_eq_true.1 h (n - a) (by simp; omega)
  rwa [show (((n - a : Nat) : Int)) + (a : Int) = (n : Int) by omega] at this
theorem chk30 {n : Nat} (h1 : 1 ≤ n) (h2 : n ≤ 30) : chkK n = true := by
  rcases (show n < 11 ∨ (11 ≤ n ∧ n < 21) ∨ 21 ≤ n by omega) with h | h | h
  · exact chk_pick (a := 1) chkK0 h1 h
  · exact chk_pick (a := 11) chkK1 h.1 h.2
  · exact chk_pick (a := 21) chkK2 h (by omega)
theorem ko_best {n : Nat} (h : chkK n = true) (h1 : 1 ≤ n) {r : Ord × Int} (hr : Best PU n r) (hl : r.1.len = n) : KO Fin' r.1 := by
  unfold chkK at h
  cases hb : bestF PU 30 (n : Int) with
  | none => rw [hb] at h; cases h
  | some r2 =>
    rw [hb] at h
    have := hr.unique ⟨30, hb⟩
    subst this
    exact ko_of 20 _ h (GO.of_len (by omega))
end Go.Tm
namespace Go.Tm
section
variable {R : Fl → Fl → Prop} {K : Fl → Prop}
def RL (R : Fl → Fl → Prop) (l m : List Cx) : Prop := ∀ k, RC R (l.getD k z0) (m.getD k z0)
theorem RL.map {f g : Cx → Cx} {l m : List Cx} (h : RL R l m) (hlm : l.length = m.length) (hz : RC R z0 z0) (hf : ∀ {a b}, RC R a b → RC R (f a) (g b)) : RL R (l.map f) (m.map g) := by
  intro k
  have hk := h k
  simp only [List.getD, List.getElem?_map] at hk ⊢
  by_cases c : k < l.length
  · rw [List.getElem?_eq_getElem c, List.getElem?_eq_getElem (by omega : k < m.length)] at hk ⊢
    exact hf hk
  · rw [List.getElem?_eq_none (by omega), List.getElem?_eq_none (by omega)]
    exact hz
theorem RL.range {n : Nat} {f g : Nat → Cx} (hz : RC R z0 z0) (h : ∀ k, k < n → RC R (f k) (g k)) : RL R ((List.range n).map f) ((List.range n).map g) := by
  intro k
  simp only [List.getD, List.getElem?_map]
  by_cases c : k < n
  · rw [List.getElem?_range c]; exact h k c
  · rw [List.getElem?_eq_none (by simp; omega)]; exact hz
theorem fwdG_len {n : Nat} (us : UsG n) {zs : List Cx} (hz : zs.length = n) : (fwdG (bOf n) zs).length = n := by rw [us.fwd zs hz]; simp
theorem fwd_rel (h : RelF R K) {n : Nat} (us : UsG n) (ko : KO K (oOf n)) {l m : List Cx} (hl : l.length = n) (hm : m.length = n) (hr : RL R l m) : RL R (fwdG (bOf n) l) (fwdG (bOf n) m) := by
  rw [us.fwd l hl, us.fwd m hm]
  exact RL.range h.z fun k _ => trM_rel h ko hr k
theorem inv_rel (h : RelF R K) {n : Nat} (h1 : 1 ≤ n) (h2 : n ≤ 4096) (us : UsG n) (ko : KO K (oOf n)) {l m : List Cx} (hl : l.length = n) (hm : m.length = n) (hr : RL R l m) : RL R (invG (bOf n) l) (invG (bOf n) m) := by
  unfold invG
  have e1 := hr.map (f := conjC) (g := conjC) (by rw [hl, hm]) h.z fun p => h.conj p
  have e2 := fwd_rel h us ko (by simp [hl]) (by simp [hm]) e1
  have l1 := fwdG_len us (zs := l.map conjC) (by simp [hl])
  have l2 := fwdG_len us (zs := m.map conjC) (by simp [hm])
  have e3 := e2.map (f := conjC) (g := conjC) (by rw [l1, l2]) h.z fun p => h.conj p
  rw [us.b.ln]
  exact e3.map (by simp [l1, l2]) h.z fun p => h.over (by omega) (by omega) p
end
theorem ko_fin {n : Nat} (h : chkK n = true) (h1 : 1 ≤ n) (us : UsG n) : KO Fin' (oOf n) := by
  obtain ⟨r, hr, hl⟩ := us.ex
  rw [← oOf_spec hr]
  exact ko_best h h1 hr hl
theorem usG_chk {n : Nat} (h : chkK n = true) (h1 : 1 ≤ n) (h2 : n ≤ 4096) : UsG n := by
  unfold chkK at h
  cases hb : bestF PU 30 (n : Int) with
  | none => rw [hb] at h; cases h
  | some r => exact usG_of h1 ⟨30, hb⟩ (hasP_all (n := n) (by omega) (by omega) r ⟨30, hb⟩)
end Go.Tm
namespace Go.Tm
set_option maxRecDepth 100000
open Go.RowKit Go.Proofs
def bitG (a : Nat) : Nat := if (Ieee.double.order a a != some .eq) = true then 9221120237041090560 else a
abbrev L4g : List CB := [(4607182418800017408, 0), (4611686018427387904, 0), (4613937818241073152, 0), (4616189618054758400, 0)]
def ga (i j : Nat) : Cx := cx (L4g.getD (i * 2 + j) (0, 0))
theorem g4 : GrX 2 2 ga L4g := ⟨rfl, fun i j _ _ => rfl⟩
theorem chk2 : chkK ((2 : Nat) : Int) = true := by kernel_rfl
theorem us2 : UsG 2 := usG_chk chk2 (by decide) (by decide)
theorem oOf_two : oOf 2 = .mk 2 2 [] := by
  obtain ⟨r, hr, _⟩ := us2.ex
  rw [← oOf_spec hr]
  have h2 : (bestF PU 30 ((2 : Nat) : Int)).map (·.1) = some (.mk 2 2 []) := by kernel_rfl
  cases h3 : bestF PU 30 ((2 : Nat) : Int) with
  | none => rw [h3] at h2; cases h2
  | some r2 =>
    rw [h3] at h2
    rw [hr.unique ⟨30, h3⟩]
    simpa using h2
theorem grF_two (x : Nat → Cx) : grF 2 x 0 = plusC (x 0) (x 1) ∧ grF 2 x 1 = lessC (x 0) (x 1) := by
  unfold grF
  rw [us2.fwd _ rfl, oOf_two, trM_fly]
  exact ⟨rfl, rfl⟩
theorem gk_two (G : Nat → Nat → Cx) : gk grF 2 2 G 2 0 0 = plusC (plusC (G 0 0) (G 0 1)) (plusC (G 1 0) (G 1 1)) ∧ gk grF 2 2 G 2 0 1 = plusC (lessC (G 0 0) (G 0 1)) (lessC (G 1 0) (G 1 1)) ∧ gk grF 2 2 G 2 1 0 = lessC (plusC (G 0 0) (G 0 1)) (plusC (G 1 0) (G 1 1)) ∧ gk grF 2 2 G 2 1 1 = lessC (lessC (G 0 0) (G 0 1)) (lessC (G 1 0) (G 1 1)) := by
  have e : ∀ j i, gk grF 2 2 G 1 j i = grF 2 (G i) j := fun j i => rfl
  have e2 : ∀ j i, gk grF 2 2 G 2 j i = grF 2 (gk grF 2 2 G 1 i) j := fun j i => rfl
  refine ⟨?_, ?_, ?_, ?_⟩
  · rw [e2, (grF_two _).1, e, e, (grF_two _).1, (grF_two _).1]
  · rw [e2, (grF_two _).1, e, e, (grF_two _).2, (grF_two _).2]
  · rw [e2, (grF_two _).2, e, e, (grF_two _).1, (grF_two _).1]
  · rw [e2, (grF_two _).2, e, e, (grF_two _).2, (grF_two _).2]
theorem ceq_of {a b : CB} {z : Cx} (h : cx a = z) (hb : z = cx b) (hb2 : cx b = (some b.1, some b.2)) (he : ceq b b = true) : ceq a b = true := by
  have h1 : cx a = (some b.1, some b.2) := (h.trans hb).trans hb2
  have h2 : cn a.1 = some b.1 := congrArg (·.1) h1
  have h3 : cn a.2 = some b.2 := congrArg (·.2) h1
  have k : ∀ {x y : Nat}, cn x = some y → x = y := by
    intro x y h
    unfold cn at h
    split at h
    · cases h
    · injection h
  have e : a = b := Prod.ext (k h2) (k h3)
  rw [e]; exact he
theorem fx0 {a : CB} (h : cx a = gk grF 2 2 ga 2 0 0) : ceq a (4621819117588971520, 0) = true := ceq_of h ((gk_two ga).1.trans (by kernel_rfl)) (by kernel_rfl) (by kernel_rfl)
theorem fx1 {a : CB} (h : cx a = gk grF 2 2 ga 2 0 1) : ceq a (13835058055282163712, 0) = true := ceq_of h ((gk_two ga).2.1.trans (by kernel_rfl)) (by kernel_rfl) (by kernel_rfl)
theorem fx2 {a : CB} (h : cx a = gk grF 2 2 ga 2 1 0) : ceq a (13839561654909534208, 0) = true := ceq_of h ((gk_two ga).2.2.1.trans (by kernel_rfl)) (by kernel_rfl) (by kernel_rfl)
theorem fx3 {a : CB} (h : cx a = gk grF 2 2 ga 2 1 1) : ceq a (0, 0) = true := ceq_of h ((gk_two ga).2.2.2.trans (by kernel_rfl)) (by kernel_rfl) (by kernel_rfl)
theorem ft1 {a : CB} (h : cx a = ga 1 0) : ceq a (4613937818241073152, 0) = true := ceq_of h (by kernel_rfl) (by kernel_rfl) (by kernel_rfl)
theorem fs1 {a : CB} (h : a = L4g.getD 1 (0, 0)) : ceq a (4611686018427387904, 0) = true := by subst h; kernel_rfl
structure ShU (zs : List CB) (i j : Nat) (os : List CB) : Prop where
  len : os.length = 4
  get : ∀ i' j', i' < 2 → j' < 2 → (i' < i ∨ (i' = i ∧ j' < j)) → os.getD (i' * 2 + (j' + 1) % 2) (0, 0) = zs.getD (i' * 2 + j') (0, 0)
theorem ShU.zero (zs : List CB) : ShU zs 0 0 (List.replicate 4 (0, 0)) := ⟨rfl, fun i' j' _ _ h => by omega⟩
theorem ShU.step {zs os : List CB} {i j : Nat} (h : ShU zs i j os) (hi : i < 2) (hj : j < 2) : ShU zs i (j + 1) (os.set (i * 2 + (j + 1) % 2) (zs.getD (i * 2 + j) (0, 0))) := by
  have hl := h.len
  refine ⟨by rw [List.length_set]; exact hl, fun i' j' hi' hj' hh => ?_⟩
  by_cases c : i * 2 + (j + 1) % 2 = i' * 2 + (j' + 1) % 2
  · have e1 : i' = i := by omega
    have e2 : j' = j := by omega
    subst e1 e2
    simp only [List.getD, List.getElem?_set]
    simp [show i' * 2 + (j' + 1) % 2 < os.length by omega]
  · have := h.get i' j' hi' hj' (by omega)
    simp only [List.getD, List.getElem?_set] at this ⊢
    simpa [c] using this
theorem ShU.next {zs os : List CB} {i : Nat} (h : ShU zs i 2 os) : ShU zs (i + 1) 0 os := ⟨h.len, fun i' j' hi' hj' hh => h.get i' j' hi' hj' (by omega)⟩
theorem inf33w96 : Inf Tryz.prog 33 (.complex .f64 0 0) 1 16 := ⟨Tryz.t33, Tryz.type33, rfl, rfl, rfl⟩
theorem build46w96 {ps : List (Nat × Value)} {cs : Array Value} (h : Instr.fill (fun i => ([(0, 1), (1, 1), (2, 1)] : List (Nat × Nat))[i]?) #[.int .i64 0, .int .i64 0, .slice none 0 0] ps = some cs) (w : World) : (Instr.build 46 ps.toArray).run Tryz.prog w = .ok (.agg cs) w := by
  simp [Instr.build, Tryz.runUnderlying46, ζ46, ς3, ς31, Value.cells, h]
theorem bld46_0_1_2w96 {v0 v1 v2 : Value} (h : [v0, v1, v2].all Value.oneCell' = true) (w : World) : (Instr.build 46 ([(0, v0), (1, v1), (2, v2)] : List (Nat × Value)).toArray).run Tryz.prog w = .ok (.agg #[v0, v1, v2]) w := by
  simp only [List.all_cons, Bool.and_eq_true, List.all_nil, and_true] at h
  have hv0 := oneCell_cells (v := v0) (by simp_all)
  have hv1 := oneCell_cells (v := v1) (by simp_all)
  have hv2 := oneCell_cells (v := v2) (by simp_all)
  have h1 := fill_set (fun i => ([(0, 1), (1, 1), (2, 1)] : List (Nat × Nat))[i]?) [(0, v0), (1, v1), (2, v2)] [.int .i64 0, .int .i64 0, .slice none 0 0] (by simp [okF, agg_cells, hv0, hv1, hv2, Nat.beq, Nat.ble])
  simp [setF, agg_cells, hv0, hv1, hv2] at h1
  simp [Instr.build, Tryz.runUnderlying46, ζ46, ς3, ς31, agg_cells, h1]
theorem grid_CheckE (E : Addr) (w : World) (er : ErrL E w) :
  Calls Tryz.prog 56 #[.agg #[.int .i64 0, .int .i64 0, .slice none 0 0]] w (Ret (fun v w' => v = .iface 321 (.pointer (some E)) ∧ Ch No w w')) := by
 have hG := er.lt
 refine calls_of_VC (args := [.agg #[.int .i64 0, .int .i64 0, .slice none 0 0]]) Tryz.func56 rfl Tryz.ntmps56 rfl (Qe (Qb (Oq (Cj rfl) rfl ?_)))
 rintro _ w1 ⟨p1, rfl, N1⟩
 have c1 := N1.ch
 have e1 := N1.p; have z1 := N1.size
 have b1 := Bk.new N1
 refine Om (Qd rfl) rfl (Qf (Qa (Qe (Qe (Qb (Om (Qg υ46 rfl ς3 rfl rfl rfl) rfl (Om (Qh ι3 rfl (b1.cell rfl)) rfl ?_)))))))
 refine Om (Rn.lssT rfl rfl (by decide)) rfl (Om (Qc rfl) rfl (Oy rfl (Oy rfl (Oy rfl (Om (Qt rfl rfl) rfl (Om (Qc rfl) rfl (Oy rfl ?_)))))))
 refine Oy rfl (Oy rfl (Om (Qt rfl rfl) rfl (Om (Qc rfl) rfl (Oy rfl (Oy rfl (Oy rfl (Om (Qt rfl rfl) rfl ?_)))))))
 refine Om (Qc rfl) rfl (Oy rfl (Oy rfl (Oy rfl (Oy rfl (Oy rfl (Oy rfl (Oy rfl ?_)))))))
 refine Oy rfl (Oy rfl (Om (Qt rfl rfl) rfl (Qf (Qa (Cw rfl (Qe (Qb ?_)))))))
 have er_1 := er.keep c1
 refine Om (Qh Tryz.isAgg28 rfl er_1.get) rfl (Om (Qd rfl) rfl (Qf (Qa (Qp (Qu (Qy rfl rfl (Ret.mk ?_)))))))
 have CH_1 := (Ch.refl (No) w).and c1
 exact ⟨rfl, CH_1⟩
theorem grid_Turn (SX : Nat → Prop) (R C NN : Nat) (A : Option Addr) (cap : Nat) (zs : List CB) (f : Nat → Nat → Cx) (w : World) (sx : SlR SX w A NN 1 (zs.map cxV)) (hX : ∀ q, SX q → q < w.heap.size) (hR : 1 ≤ R ∧ R ≤ 30) (hC : 1 ≤ C ∧ C ≤ 30) (hN : NN = R * C) (hz : GrX R C f zs)  :
  Calls Tryz.prog 54 #[.agg #[.int .i64 R, .int .i64 C, .slice A NN cap]] w (Ret (fun v w' => ∃ q os, v = .tuple #[.agg #[.int .i64 C, .int .i64 R, .slice (some ⟨q, 0, none⟩) NN NN], .nilIface] ∧ CR 33 w' (q + 1) (some ⟨q, 0, none⟩) NN NN os ∧ GrX C R (fun j i => f i j) os ∧ w.heap.size ≤ q ∧ Ch No w w')) := by
 refine calls_of_VC (args := [.agg #[.int .i64 R, .int .i64 C, .slice A NN cap]]) Tryz.func54 rfl Tryz.ntmps54 rfl (Qe (Qb (Oq (Cj rfl) rfl ?_)))
 rintro _ w1 ⟨p1, rfl, N1⟩
 have c1 := N1.ch
 have e1 := N1.p; have z1 := N1.size
 have b1 := Bk.new N1
 refine Oq (Cc ζ46) rfl ?_
 rintro _ w2 ⟨p2, rfl, N2⟩
 have c2 := N2.ch
 have e2 := N2.p; have z2 := N2.size
 have b2 := Bk.new N2
 refine Om (Qd rfl) rfl (Qf (Qa (Qe (Qe (Qb ?_)))))
 have b1_2 := b1.keep c2
 refine Om (Qr ι46 ς46 rfl rfl (b1_2.all' rfl)) rfl (Oq (Qi κ56 rfl (grid_Check _ _ _ _ _ _ hR hC hN)) rfl ?_)
 rintro _ w3 ⟨rfl, c3⟩
 have z3 := c3.size
 refine Om (Qd rfl) rfl (Qf (Qa (Qe (Qb (Om (Qc rfl) rfl (Om (Cg υ28 rfl) rfl (Qf ?_)))))))
 refine Qa (Ca rfl (Qn (Qa (Qe (Qb ?_)))))
 have b1_3 := b1_2.keep c3
 refine Om (Qr ι46 ς46 rfl rfl (b1_3.all' rfl)) rfl ?_
 have sx_3 := sx.keep (c1.trans (c2.trans c3))
 refine Oq (Qi Tryz.call97 rfl (grid_turned _ R C NN _ _ _ f _ sx_3 (fun q hq => by have := hX q hq; omega) hR hC hN hz)) rfl ?_
 rintro _ w4 ⟨q4, osT, rfl, tu4, huT, e4, c4⟩
 have yt4 := Ow.lt tu4
 have z4 := c4.size
 have b2_4 := b2.keep (c3.trans c4)
 refine Oz (Cf ς46 rfl rfl rfl rfl b2_4 (Nat.le_of_ble_eq_true rfl)) rfl ?_
 intro _ w5 Z5
 have c5 := Z5.ch; have z5 := Z5.size
 have b2_5 := Bk.put Z5
 refine Om (Qd rfl) rfl (Qf (Qa (Qp (VQ.retct rfl rfl ι46 ς46 rfl (b2_5.all' rfl) rfl (Ret.mk ?_)))))
 have tu_5 := tu4.to c5
 have cc_0_5 : Ch No w w5 := (Ch.then (E := No) (((c1.and c2).and c3).and c4) c5 (by intro q h1 h2; rcases h2 with h2 | h2 <;> first | exact h2 | (exfalso; omega)))
 have CH_5 := (Ch.refl (No) w).and cc_0_5
 exact ⟨_, _, rfl, tu_5, huT, by omega, CH_5⟩
theorem grid_modulo (x : Int) (n : Nat) (w : World) (hn : 1 ≤ n ∧ n ≤ 4) :
  Calls Tryz.prog 98 #[.int .i64 x, .int .i64 n] w (Ret (fun v w' => v = .int .i64 (x % n) ∧ w = w')) := by
 have h1 := Int.tmod_lt_of_pos x (show (0 : Int) < n by omega)
 have h2 : -(n : Int) < x.tmod n := by have := Int.tmod_lt_of_pos (-x) (show (0 : Int) < n by omega); rw [Int.neg_tmod] at this; omega
 refine calls_of_VC (args := [.int .i64 x, .int .i64 n]) Tryz.func98 rfl Tryz.ntmps98 rfl (Qe (Qb (Om (Qd rfl) rfl (Qf (Qa (Qe (Qb ?_)))))))
 refine Om (Qc rfl) rfl (Om (Qc rfl) rfl (Om (Rn.rem rfl rfl (by omega)) rfl (Om (Qc rfl) rfl ?_)))
 refine Om (Ce rfl rfl (by rw [IntKind.wrap_i64]; omega)) rfl ?_
 refine Om (Qc rfl) rfl (Om (Rn.rem rfl rfl (by omega)) rfl (Om (Qd rfl) rfl (Qf (Qa (Qp (Qy rfl rfl (Ret.mk ?_)))))))
 exact ⟨by rw [tmod_mod (by omega)], rfl⟩
set_option maxHeartbeats 2000000 in
theorem grid_Shift2 (SX : Nat → Prop) (A : Option Addr) (cap : Nat) (zs : List CB) (w : World) (sx : SlR SX w A 4 1 (zs.map cxV)) (hX : ∀ q, SX q → q < w.heap.size) :
  Calls Tryz.prog 55 #[.agg #[.int .i64 2, .int .i64 2, .slice A 4 cap], .int .i64 0, .int .i64 (-1)] w (Ret (fun v w' => ∃ q os, v = .tuple #[.agg #[.int .i64 2, .int .i64 2, .slice (some ⟨q, 0, none⟩) 4 4], .nilIface] ∧ CR 33 w' (q + 1) (some ⟨q, 0, none⟩) 4 4 os ∧ os.getD 0 (0, 0) = zs.getD 1 (0, 0) ∧ w.heap.size ≤ q ∧ Ch No w w')) := by
 refine calls_of_VC (args := [.agg #[.int .i64 2, .int .i64 2, .slice A 4 cap], .int .i64 0, .int .i64 (-1)]) Tryz.func55 rfl Tryz.ntmps55 rfl (Qe (Qb (Oq (Cj rfl) rfl ?_)))
 rintro _ w1 ⟨p1, rfl, N1⟩
 have c1 := N1.ch
 have e1 := N1.p; have z1 := N1.size
 have b3 := Bk.new N1
 refine Oq (Cc ζ46) rfl ?_
 rintro _ w2 ⟨p2, rfl, N2⟩
 have c2 := N2.ch
 have e2 := N2.p; have z2 := N2.size
 have b6 := Bk.new N2
 refine Om (Qd rfl) rfl (Qf (Qa (Qe (Qe (Qb ?_)))))
 have b3_2 := b3.keep c2
 refine Om (Qr ι46 ς46 rfl rfl (b3_2.all' rfl)) rfl (Oq (Qi κ56 rfl (grid_Check 2 2 4 _ _ _ (by decide) (by decide) rfl)) rfl ?_)
 rintro _ w3 ⟨rfl, c3⟩
 have z3 := c3.size
 refine Om (Qd rfl) rfl (Qf (Qa (Qe (Qb (Om (Qc rfl) rfl (Om (Cg υ28 rfl) rfl (Qf ?_)))))))
 refine Qa (Ca rfl (Qn (Qa (Qe (Rz 10 (.mv 0 (.mv 1 (.mv 2 (.mv 3 (.mv 4 (.mv 5 (.mv 6 (.two 7 (.mv 8 (.wk 9 .nil)) 9 (.wk 7 (.mv 8 .nil)))))))))) (fun w1 w' => Ch (No) w1 w') mixed (by kernel_rfl) (fun _ _ => Ch.refl _ _) ?_)))))
 intro w4 D4
 have c4 := Ch.of_drew D4; have z4 := c4.size
 have sx_4 := sx.keep (c1.trans (c2.trans (c3.trans c4)))
 have b3_4 := b3_2.keep (c3.trans c4)
 have b6_4 := b6.keep (c3.trans c4)
 refine Ct (fun w' hS => Qg υ46 rfl ς3 rfl rfl rfl) rfl rfl rfl rfl (Ct (fun w' hS => Qh ι3 rfl ((b3_4.keep hS).cell rfl)) rfl rfl rfl rfl (Ct (fun w' hS => Qg υ46 rfl ς3 rfl rfl rfl) rfl rfl rfl rfl (Ct (fun w' hS => Qh ι3 rfl ((b3_4.keep hS).cell rfl)) rfl rfl rfl rfl (Ct (fun w' hS => Qg υ46 rfl ς31 rfl rfl rfl) rfl rfl rfl rfl (Ct (fun w' hS => Qh ι31 rfl ((b3_4.keep hS).cell rfl)) rfl rfl rfl rfl (Ct (fun w' hS => Ra υ31 rfl) rfl rfl rfl rfl (Wg ?_ ?_)))))))
 ·
  refine Rg (Wk.mkC υ31 inf33w96 rfl rfl (by omega) (by omega) (by omega)) rfl rfl rfl rfl ?_
  rintro _ w5 ⟨p5, rfl, o5, c5, e5, z5⟩
  have RD_5 := (Ch.refl (No) w4).and c5
  refine ⟨RD_5, ?_⟩
  refine Ct (fun w' hS => Cl rfl (bld46_0_1_2w96 rfl)) rfl rfl rfl rfl (Rg (Cc ζ46) rfl rfl rfl rfl ?_)
  rintro _ w6 ⟨p6, rfl, N6⟩
  have c6 := N6.ch
  have e6 := N6.p; have z6 := N6.size
  have b9 := Bk.new N6
  have RD_6 := RD_5.and c6
  refine ⟨RD_6, ?_⟩
  refine Rj (Oz (Cf ς46 rfl rfl rfl rfl b9 (Nat.le_of_ble_eq_true rfl)) rfl ?_)
  intro _ w7 Z7
  have c7 := Z7.ch; have z7 := Z7.size
  have b9_7 := Bk.put Z7
  refine Qf (Qx (Qa (Qe (Ci 9 [(0, true), (1, true), (2, true), (4, true), (5, true), (6, true), (3, false), (7, false), (8, true)] (fun w1 w' => Ch (No) w1 w') mixed (by kernel_rfl) (fun _ _ => Ch.refl _ _) ?_))))
  intro w8 D8
  have c8 := Ch.of_drew D8; have z8 := c8.size
  have cc_4_8 : Ch No w4 w8 := ((Ch.then (E := No) (c5.and c6) c7 (by intro q h1 h2; rcases h2 with h2 | h2 <;> first | exact h2 | (exfalso; omega))).and c8)
  have sx_8 := sx_4.keep cc_4_8
  have b3_8 := b3_4.keep cc_4_8
  have b6_8 := b6_4.keep cc_4_8
  have cc_5_8 : Ch No w5 w8 := ((Ch.then (E := No) c6 c7 (by intro q h1 h2; rcases h2 with h2 | h2 <;> first | exact h2 | (exfalso; omega))).and c8)
  have ou_8 := o5.keep cc_5_8
  have b9_8 := b9_7.keep c8
  refine Hm (fun w' hS => Qc rfl) rfl (Hm (fun w' hS => Qg υ46 rfl ς3 rfl rfl rfl) rfl (Hm (fun w' hS => Qh ι3 rfl ((b3_8.keep hS).cell rfl)) rfl (Hm (fun w' hS => Qc rfl) rfl (Hm (fun w' hS => Qg υ46 rfl ς3 rfl rfl rfl) rfl (Hm (fun w' hS => Qh ι3 rfl ((b3_8.keep hS).cell rfl)) rfl (Hq (Qi κ98 rfl (grid_modulo 0 2 _ (by decide))) rfl ?_))))))
  rintro _ _ ⟨rfl, rfl⟩
  refine ⟨(Ch.refl (No) w8), ?_⟩
  refine Hq (Qi κ98 rfl (grid_modulo (-1) 2 _ (by decide))) rfl ?_
  rintro _ _ ⟨rfl, rfl⟩
  refine ⟨(Ch.refl (No) w8), ?_⟩
  refine Hm (fun w' hS => Qd rfl) rfl (Cn (Om (Qd rfl) rfl (Qf (Qx (Qa (Qe (Qe ?_)))))))
  refine Qb (Om (Qg υ46 rfl ς3 rfl rfl rfl) rfl (Om (Qh ι3 rfl (b3_8.cell rfl)) rfl (Om (Qc rfl) rfl (Qf (Qa (Qw ?_))))))
  have cc_0_8 : Ch No w w8 := ((Ch.then (E := No) (((((c1.and c2).and c3).and c4).and c5).and c6) c7 (by intro q h1 h2; rcases h2 with h2 | h2 <;> first | exact h2 | (exfalso; omega))).and c8)
  have CH_8 := (Ch.refl (No) w).and cc_0_8
  refine Cp (σ := Nat × List CB) (fun (i, os) => [(3, .pointer (some ⟨p1, 0, none⟩)), (6, .pointer (some ⟨p2, 0, none⟩)), (9, .pointer (some ⟨p6, 0, none⟩)), (10, .int .i64 0), (11, .int .i64 1), (38, .int .i64 2), (39, .int .i64 i)]) (fun (i, os) w' => i ≤ 2 ∧ ShU zs i 0 os ∧ w8.heap.size ≤ w'.heap.size ∧ SlR SX w' A 4 1 (zs.map cxV) ∧ Bk w' p1 #[.int .i64 2, .int .i64 2, .slice A 4 cap] 46 ∧ Bk w' p2 #[.int .i64 0, .int .i64 0, .slice none 0 0] 46 ∧ Bk w' p6 #[.int .i64 2, .int .i64 2, .slice (some ⟨p5, 0, none⟩) 4 4] 46 ∧ CR 33 w' (p5 + 1) (some ⟨p5, 0, none⟩) 4 4 os ∧ Ch (No) w w') (fun (i, os) => 2 - i) (0, List.replicate 4 (0, 0)) ?_ ⟨rfl, rfl, rfl, rfl, rfl, rfl, rfl, trivial⟩ ?_
  · exact ⟨(by omega), (ShU.zero _), (Nat.le_refl _), sx_8, b3_8, b6_8, b9_8, ou_8, CH_8⟩
  rintro ⟨i, os⟩ w9 ⟨hile, hs, hsz9, sx_9, b3_9, b6_9, b9_9, ou_9, CH_9⟩
  show VC _ _ _ _ [(3, .pointer (some ⟨p1, 0, none⟩)), (6, .pointer (some ⟨p2, 0, none⟩)), (9, .pointer (some ⟨p6, 0, none⟩)), (10, .int .i64 0), (11, .int .i64 1), (38, .int .i64 2), (39, .int .i64 i)] _
  refine Qe (Qb (Om (Cs rfl rfl) rfl (Qf (Qa (Qe (Qj rfl (fun hc1 => ?_) (fun hc1 => ?_)))))))
  ·
   refine Qn (Qa (Qe (Qw (Qe (Qb (Om (Qc rfl) rfl (Om (Qd rfl) rfl ?_)))))))
   refine Qf (Qa (Qe (Qb (Om (Qg υ46 rfl ς3 rfl rfl rfl) rfl (Om (Qh ι3 rfl (b3_9.cell rfl)) rfl (Om (Qc rfl) rfl (Qf ?_)))))))
   refine Qa (Qw (Cp (σ := Nat × List CB) (fun (j, os2) => [(3, .pointer (some ⟨p1, 0, none⟩)), (6, .pointer (some ⟨p2, 0, none⟩)), (9, .pointer (some ⟨p6, 0, none⟩)), (10, .int .i64 0), (11, .int .i64 1), (12, .int .i64 i), (38, .int .i64 2), (39, .int .i64 i), (43, .int .i64 2), (44, .int .i64 j)]) (fun (j, os2) w' => j ≤ 2 ∧ ShU zs i j os2 ∧ w9.heap.size ≤ w'.heap.size ∧ SlR SX w' A 4 1 (zs.map cxV) ∧ Bk w' p1 #[.int .i64 2, .int .i64 2, .slice A 4 cap] 46 ∧ Bk w' p2 #[.int .i64 0, .int .i64 0, .slice none 0 0] 46 ∧ Bk w' p6 #[.int .i64 2, .int .i64 2, .slice (some ⟨p5, 0, none⟩) 4 4] 46 ∧ CR 33 w' (p5 + 1) (some ⟨p5, 0, none⟩) 4 4 os2 ∧ Ch (No) w w') (fun (j, os2) => 2 - j) (0, os) ?_ ⟨rfl, rfl, rfl, rfl, rfl, rfl, rfl, rfl, rfl, rfl, trivial⟩ ?_))
   · exact ⟨(by omega), hs, (Nat.le_refl _), sx_9, b3_9, b6_9, b9_9, ou_9, CH_9⟩
   rintro ⟨j, os2⟩ w10 ⟨hjle, hs2, hsz10, sx_10, b3_10, b6_10, b9_10, ou_10, CH_10⟩
   show VC _ _ _ _ [(3, .pointer (some ⟨p1, 0, none⟩)), (6, .pointer (some ⟨p2, 0, none⟩)), (9, .pointer (some ⟨p6, 0, none⟩)), (10, .int .i64 0), (11, .int .i64 1), (12, .int .i64 i), (38, .int .i64 2), (39, .int .i64 i), (43, .int .i64 2), (44, .int .i64 j)] _
   refine Qe (Qb (Om (Cs rfl rfl) rfl (Qf (Qa (Qe (Qj rfl (fun hc2 => ?_) (fun hc2 => ?_)))))))
   ·
    refine Qn (Qa (Qe (Qw (Qe (Qb (Om (Qc rfl) rfl (Om (Qd rfl) rfl ?_)))))))
    refine Qf (Qa ?_)
    have t1 : (((i : Int) + 0) % 2 * 2 + ((j : Int) + 1) % 2).toNat = i * 2 + (j + 1) % 2 := by omega
    have t2 : ((i : Int) * 2 + (j : Int)).toNat = i * 2 + j := by omega
    refine Ci 29 [(0, true), (1, true), (2, true), (3, true), (4, true), (5, true), (6, true), (7, true), (8, true), (9, true), (10, true), (11, true), (12, true), (13, true), (14, true), (15, true), (16, true), (17, true), (18, true), (19, true), (20, true), (21, true), (22, true), (23, true), (24, true), (25, true), (26, true), (27, true), (28, true)] (fun w1 w' => Ch (No) w1 w') mixed (by kernel_rfl) (fun _ _ => Ch.refl _ _) ?_
    intro w11 D11
    have c11 := Ch.of_drew D11; have z11 := c11.size
    have sx_11 := sx_10.keep c11
    have b3_11 := b3_10.keep c11
    have b6_11 := b6_10.keep c11
    have ou_11 := ou_10.keep c11
    have b9_11 := b9_10.keep c11
    refine Hm (fun w' hS => Qg υ46 rfl ς31 rfl rfl rfl) rfl (Hm (fun w' hS => Qh ι31 rfl ((b9_11.keep hS).cell rfl)) rfl (Hm (fun w' hS => Qc rfl) rfl (Hm (fun w' hS => Qc rfl) rfl ?_)))
    refine Hm (fun w' hS => Ce rfl rfl (by rw [IntKind.wrap_i64]; omega)) rfl ?_
    refine Hm (fun w' hS => Qg υ46 rfl ς3 rfl rfl rfl) rfl (Hm (fun w' hS => Qh ι3 rfl ((b3_11.keep hS).cell rfl)) rfl (Hm (fun w' hS => Rs rfl rfl (by omega) (by omega)) rfl (Hm (fun w' hS => Qg υ46 rfl ς3 rfl rfl rfl) rfl (Hm (fun w' hS => Qh ι3 rfl ((b3_11.keep hS).cell rfl)) rfl ?_))))
    refine Hm (fun w' hS => Cv rfl rfl (by rw [IntKind.wrap_i64]; omega)) rfl ?_
    refine Hm (fun w' hS => Qc rfl) rfl (Hm (fun w' hS => Qc rfl) rfl ?_)
    refine Hm (fun w' hS => Ce rfl rfl (by rw [IntKind.wrap_i64]; omega)) rfl ?_
    refine Hm (fun w' hS => Qg υ46 rfl ς3 rfl rfl rfl) rfl (Hm (fun w' hS => Qh ι3 rfl ((b3_11.keep hS).cell rfl)) rfl (Hm (fun w' hS => Rs rfl rfl (by omega) (by omega)) rfl ?_))
    refine Hm (fun w' hS => Ce rfl rfl (by rw [IntKind.wrap_i64]; omega)) rfl ?_
    refine Hm (fun w' hS => Qg υ46 rfl ς31 rfl rfl rfl) rfl (Hm (fun w' hS => Qh ι31 rfl ((b3_11.keep hS).cell rfl)) rfl (Hm (fun w' hS => Qc rfl) rfl (Hm (fun w' hS => Qg υ46 rfl ς3 rfl rfl rfl) rfl (Hm (fun w' hS => Qh ι3 rfl ((b3_11.keep hS).cell rfl)) rfl ?_))))
    refine Hm (fun w' hS => Cv rfl rfl (by rw [IntKind.wrap_i64]; omega)) rfl ?_
    refine Hm (fun w' hS => Qc rfl) rfl ?_
    refine Hm (fun w' hS => Ce rfl rfl (by rw [IntKind.wrap_i64]; omega)) rfl ?_
    refine Hm (fun w' hS => Cb υ31 ς33 rfl rfl ((sx_11.keep hS).ne (by omega)) (by omega) (by omega)) rfl (Hm (fun w' hS => Qh ι33 rfl ((sx_11.keep hS).getC (by omega) (by omega))) rfl (Hm (fun w' hS => Cb υ31 ς33 rfl rfl (ou_11.sl.ne (by omega)) (by omega) (by omega)) rfl (Cn (Oz (Rl ς33 rfl rfl (by omega) ou_11) rfl ?_))))
    rintro _ w12 ⟨o12, c12, z12⟩
    have y12 := o12.lt
    refine Qf (Qx (Qo (Qa (Qb ?_))))
    refine Om (Ce rfl rfl (by rw [IntKind.wrap_i64]; omega)) rfl ?_
    refine Om (Qc rfl) rfl (Qf ?_)
    refine Ck (j + 1, os2.set (i * 2 + (j + 1) % 2) (zs.getD (i * 2 + j) (0, 0))) (by first | omega | (dsimp only; omega)) ?_ ⟨rfl, rfl, rfl, rfl, rfl, rfl, rfl, rfl, rfl, rfl, trivial⟩
    have sx_12 := sx_11.to c12 (by first | exact fun _ _ _ _ => id | (intro q h1 h2 hx h3; have := hX q h2; omega))
    have b3_12 := b3_11.to c12
    have b6_12 := b6_11.to c12
    have b9_12 := b9_11.to c12
    have CH_11 := CH_10.and c11
    have CH_12 : Ch (No) w w12 := CH_11.then c12
    exact ⟨(by omega), (hs2.step (by omega) (by omega)), (by omega), sx_12, b3_12, b6_12, b9_12, (by have h9 := o12; rw [t1, t2] at h9; exact h9), CH_12⟩
   ·
    refine Cr (Qk (Qk (Qz (Qo (Qa (Qb ?_))))))
    refine Om (Ce rfl rfl (by rw [IntKind.wrap_i64]; omega)) rfl ?_
    refine Om (Qc rfl) rfl (Qf ?_)
    refine Ck (i + 1, os2) (by first | omega | (dsimp only; omega)) ?_ ⟨rfl, rfl, rfl, rfl, rfl, rfl, rfl, trivial⟩
    exact ⟨(by omega), (by have h9 := hs2; rw [show j = 2 by omega] at h9; exact h9.next), (by omega), sx_10, b3_10, b6_10, b9_10, ou_10, CH_10⟩
  ·
   refine Cr (Qk (Qk (Qz (Qa (Qe (Qb (Om (Qr ι46 ς46 rfl rfl (b9_9.all' rfl)) rfl ?_)))))))
   refine Oz (Cf ς46 rfl rfl rfl rfl b6_9 (Nat.le_of_ble_eq_true rfl)) rfl ?_
   intro _ w13 Z13
   have c13 := Z13.ch; have z13 := Z13.size
   have b6_13 := Bk.put Z13
   refine Om (Qd rfl) rfl (Qf (Qa (Qp (VQ.retct rfl rfl ι46 ς46 rfl (b6_13.all' rfl) rfl (Ret.mk ?_)))))
   have ei : i = 2 := by omega
   rw [ei] at hs
   have ou_13 := ou_9.to c13
   have CH_13 : Ch (No) w w13 := CH_9.then c13
   exact ⟨_, os, rfl, ou_13, hs.get 0 1 (by decide) (by decide) (.inl (by decide)), by omega, CH_13⟩
 ·
  refine Rg (Cc ζ46) rfl rfl rfl rfl ?_
  rintro _ w14 ⟨p14, rfl, N14⟩
  have c14 := N14.ch
  have e14 := N14.p; have z14 := N14.size
  have b9 := Bk.new N14
  have RD_14 := (Ch.refl (No) w4).and c14
  refine ⟨RD_14, ?_⟩
  refine Rg (Wk.mkC υ31 inf33w96 rfl rfl (by omega) (by omega) (by omega)) rfl rfl rfl rfl ?_
  rintro _ w15 ⟨p15, rfl, o15, c15, e15, z15⟩
  have RD_15 := RD_14.and c15
  refine ⟨RD_15, ?_⟩
  refine Ct (fun w' hS => Cl rfl (bld46_0_1_2w96 rfl)) rfl rfl rfl rfl (Rj ?_)
  have b9_15 := b9.keep c15
  refine Oz (Cf ς46 rfl rfl rfl rfl b9_15 (Nat.le_of_ble_eq_true rfl)) rfl ?_
  intro _ w16 Z16
  have c16 := Z16.ch; have z16 := Z16.size
  have b9_16 := Bk.put Z16
  refine Qf (Qx (Qa (Qe (Ci 9 [(0, true), (1, true), (2, true), (4, true), (5, true), (6, true), (3, false), (7, false), (8, true)] (fun w1 w' => Ch (No) w1 w') mixed (by kernel_rfl) (fun _ _ => Ch.refl _ _) ?_))))
  intro w17 D17
  have c17 := Ch.of_drew D17; have z17 := c17.size
  have cc_4_17 : Ch No w4 w17 := ((Ch.then (E := No) (c14.and c15) c16 (by intro q h1 h2; rcases h2 with h2 | h2 <;> first | exact h2 | (exfalso; omega))).and c17)
  have sx_17 := sx_4.keep cc_4_17
  have b3_17 := b3_4.keep cc_4_17
  have b6_17 := b6_4.keep cc_4_17
  have b9_17 := b9_16.keep c17
  have ou_16 := o15.to c16
  have ou_17 := ou_16.keep c17
  refine Hm (fun w' hS => Qc rfl) rfl (Hm (fun w' hS => Qg υ46 rfl ς3 rfl rfl rfl) rfl (Hm (fun w' hS => Qh ι3 rfl ((b3_17.keep hS).cell rfl)) rfl (Hm (fun w' hS => Qc rfl) rfl (Hm (fun w' hS => Qg υ46 rfl ς3 rfl rfl rfl) rfl (Hm (fun w' hS => Qh ι3 rfl ((b3_17.keep hS).cell rfl)) rfl (Hq (Qi κ98 rfl (grid_modulo 0 2 _ (by decide))) rfl ?_))))))
  rintro _ _ ⟨rfl, rfl⟩
  refine ⟨(Ch.refl (No) w17), ?_⟩
  refine Hq (Qi κ98 rfl (grid_modulo (-1) 2 _ (by decide))) rfl ?_
  rintro _ _ ⟨rfl, rfl⟩
  refine ⟨(Ch.refl (No) w17), ?_⟩
  refine Hm (fun w' hS => Qd rfl) rfl (Cn (Om (Qd rfl) rfl (Qf (Qx (Qa (Qe (Qe ?_)))))))
  refine Qb (Om (Qg υ46 rfl ς3 rfl rfl rfl) rfl (Om (Qh ι3 rfl (b3_17.cell rfl)) rfl (Om (Qc rfl) rfl (Qf (Qa (Qw ?_))))))
  have cc_0_17 : Ch No w w17 := ((Ch.then (E := No) (((((c1.and c2).and c3).and c4).and c14).and c15) c16 (by intro q h1 h2; rcases h2 with h2 | h2 <;> first | exact h2 | (exfalso; omega))).and c17)
  have CH_17 := (Ch.refl (No) w).and cc_0_17
  refine Cp (σ := Nat × List CB) (fun (i, os) => [(3, .pointer (some ⟨p1, 0, none⟩)), (6, .pointer (some ⟨p2, 0, none⟩)), (9, .pointer (some ⟨p14, 0, none⟩)), (10, .int .i64 0), (11, .int .i64 1), (38, .int .i64 2), (39, .int .i64 i)]) (fun (i, os) w' => i ≤ 2 ∧ ShU zs i 0 os ∧ w17.heap.size ≤ w'.heap.size ∧ SlR SX w' A 4 1 (zs.map cxV) ∧ Bk w' p1 #[.int .i64 2, .int .i64 2, .slice A 4 cap] 46 ∧ Bk w' p2 #[.int .i64 0, .int .i64 0, .slice none 0 0] 46 ∧ Bk w' p14 #[.int .i64 2, .int .i64 2, .slice (some ⟨p15, 0, none⟩) 4 4] 46 ∧ CR 33 w' (p15 + 1) (some ⟨p15, 0, none⟩) 4 4 os ∧ Ch (No) w w') (fun (i, os) => 2 - i) (0, List.replicate 4 (0, 0)) ?_ ⟨rfl, rfl, rfl, rfl, rfl, rfl, rfl, trivial⟩ ?_
  · exact ⟨(by omega), (ShU.zero _), (Nat.le_refl _), sx_17, b3_17, b6_17, b9_17, ou_17, CH_17⟩
  rintro ⟨i, os⟩ w18 ⟨hile, hs, hsz18, sx_18, b3_18, b6_18, b9_18, ou_18, CH_18⟩
  show VC _ _ _ _ [(3, .pointer (some ⟨p1, 0, none⟩)), (6, .pointer (some ⟨p2, 0, none⟩)), (9, .pointer (some ⟨p14, 0, none⟩)), (10, .int .i64 0), (11, .int .i64 1), (38, .int .i64 2), (39, .int .i64 i)] _
  refine Qe (Qb (Om (Cs rfl rfl) rfl (Qf (Qa (Qe (Qj rfl (fun hc3 => ?_) (fun hc3 => ?_)))))))
  ·
   refine Qn (Qa (Qe (Qw (Qe (Qb (Om (Qc rfl) rfl (Om (Qd rfl) rfl ?_)))))))
   refine Qf (Qa (Qe (Qb (Om (Qg υ46 rfl ς3 rfl rfl rfl) rfl (Om (Qh ι3 rfl (b3_18.cell rfl)) rfl (Om (Qc rfl) rfl (Qf ?_)))))))
   refine Qa (Qw (Cp (σ := Nat × List CB) (fun (j, os2) => [(3, .pointer (some ⟨p1, 0, none⟩)), (6, .pointer (some ⟨p2, 0, none⟩)), (9, .pointer (some ⟨p14, 0, none⟩)), (10, .int .i64 0), (11, .int .i64 1), (12, .int .i64 i), (38, .int .i64 2), (39, .int .i64 i), (43, .int .i64 2), (44, .int .i64 j)]) (fun (j, os2) w' => j ≤ 2 ∧ ShU zs i j os2 ∧ w18.heap.size ≤ w'.heap.size ∧ SlR SX w' A 4 1 (zs.map cxV) ∧ Bk w' p1 #[.int .i64 2, .int .i64 2, .slice A 4 cap] 46 ∧ Bk w' p2 #[.int .i64 0, .int .i64 0, .slice none 0 0] 46 ∧ Bk w' p14 #[.int .i64 2, .int .i64 2, .slice (some ⟨p15, 0, none⟩) 4 4] 46 ∧ CR 33 w' (p15 + 1) (some ⟨p15, 0, none⟩) 4 4 os2 ∧ Ch (No) w w') (fun (j, os2) => 2 - j) (0, os) ?_ ⟨rfl, rfl, rfl, rfl, rfl, rfl, rfl, rfl, rfl, rfl, trivial⟩ ?_))
   · exact ⟨(by omega), hs, (Nat.le_refl _), sx_18, b3_18, b6_18, b9_18, ou_18, CH_18⟩
   rintro ⟨j, os2⟩ w19 ⟨hjle, hs2, hsz19, sx_19, b3_19, b6_19, b9_19, ou_19, CH_19⟩
   show VC _ _ _ _ [(3, .pointer (some ⟨p1, 0, none⟩)), (6, .pointer (some ⟨p2, 0, none⟩)), (9, .pointer (some ⟨p14, 0, none⟩)), (10, .int .i64 0), (11, .int .i64 1), (12, .int .i64 i), (38, .int .i64 2), (39, .int .i64 i), (43, .int .i64 2), (44, .int .i64 j)] _
   refine Qe (Qb (Om (Cs rfl rfl) rfl (Qf (Qa (Qe (Qj rfl (fun hc4 => ?_) (fun hc4 => ?_)))))))
   ·
    refine Qn (Qa (Qe (Qw (Qe (Qb (Om (Qc rfl) rfl (Om (Qd rfl) rfl ?_)))))))
    refine Qf (Qa ?_)
    have t1 : (((i : Int) + 0) % 2 * 2 + ((j : Int) + 1) % 2).toNat = i * 2 + (j + 1) % 2 := by omega
    have t2 : ((i : Int) * 2 + (j : Int)).toNat = i * 2 + j := by omega
    refine Ci 29 [(0, true), (1, true), (2, true), (3, true), (4, true), (5, true), (6, true), (7, true), (8, true), (9, true), (10, true), (11, true), (12, true), (13, true), (14, true), (15, true), (16, true), (17, true), (18, true), (19, true), (20, true), (21, true), (22, true), (23, true), (24, true), (25, true), (26, true), (27, true), (28, true)] (fun w1 w' => Ch (No) w1 w') mixed (by kernel_rfl) (fun _ _ => Ch.refl _ _) ?_
    intro w20 D20
    have c20 := Ch.of_drew D20; have z20 := c20.size
    have sx_20 := sx_19.keep c20
    have b3_20 := b3_19.keep c20
    have b6_20 := b6_19.keep c20
    have b9_20 := b9_19.keep c20
    have ou_20 := ou_19.keep c20
    refine Hm (fun w' hS => Qg υ46 rfl ς31 rfl rfl rfl) rfl (Hm (fun w' hS => Qh ι31 rfl ((b9_20.keep hS).cell rfl)) rfl (Hm (fun w' hS => Qc rfl) rfl (Hm (fun w' hS => Qc rfl) rfl ?_)))
    refine Hm (fun w' hS => Ce rfl rfl (by rw [IntKind.wrap_i64]; omega)) rfl ?_
    refine Hm (fun w' hS => Qg υ46 rfl ς3 rfl rfl rfl) rfl (Hm (fun w' hS => Qh ι3 rfl ((b3_20.keep hS).cell rfl)) rfl (Hm (fun w' hS => Rs rfl rfl (by omega) (by omega)) rfl (Hm (fun w' hS => Qg υ46 rfl ς3 rfl rfl rfl) rfl (Hm (fun w' hS => Qh ι3 rfl ((b3_20.keep hS).cell rfl)) rfl ?_))))
    refine Hm (fun w' hS => Cv rfl rfl (by rw [IntKind.wrap_i64]; omega)) rfl ?_
    refine Hm (fun w' hS => Qc rfl) rfl (Hm (fun w' hS => Qc rfl) rfl ?_)
    refine Hm (fun w' hS => Ce rfl rfl (by rw [IntKind.wrap_i64]; omega)) rfl ?_
    refine Hm (fun w' hS => Qg υ46 rfl ς3 rfl rfl rfl) rfl (Hm (fun w' hS => Qh ι3 rfl ((b3_20.keep hS).cell rfl)) rfl (Hm (fun w' hS => Rs rfl rfl (by omega) (by omega)) rfl ?_))
    refine Hm (fun w' hS => Ce rfl rfl (by rw [IntKind.wrap_i64]; omega)) rfl ?_
    refine Hm (fun w' hS => Qg υ46 rfl ς31 rfl rfl rfl) rfl (Hm (fun w' hS => Qh ι31 rfl ((b3_20.keep hS).cell rfl)) rfl (Hm (fun w' hS => Qc rfl) rfl (Hm (fun w' hS => Qg υ46 rfl ς3 rfl rfl rfl) rfl (Hm (fun w' hS => Qh ι3 rfl ((b3_20.keep hS).cell rfl)) rfl ?_))))
    refine Hm (fun w' hS => Cv rfl rfl (by rw [IntKind.wrap_i64]; omega)) rfl ?_
    refine Hm (fun w' hS => Qc rfl) rfl ?_
    refine Hm (fun w' hS => Ce rfl rfl (by rw [IntKind.wrap_i64]; omega)) rfl ?_
    refine Hm (fun w' hS => Cb υ31 ς33 rfl rfl ((sx_20.keep hS).ne (by omega)) (by omega) (by omega)) rfl (Hm (fun w' hS => Qh ι33 rfl ((sx_20.keep hS).getC (by omega) (by omega))) rfl (Hm (fun w' hS => Cb υ31 ς33 rfl rfl (ou_20.sl.ne (by omega)) (by omega) (by omega)) rfl (Cn (Oz (Rl ς33 rfl rfl (by omega) ou_20) rfl ?_))))
    rintro _ w21 ⟨o21, c21, z21⟩
    have y21 := o21.lt
    refine Qf (Qx (Qo (Qa (Qb ?_))))
    refine Om (Ce rfl rfl (by rw [IntKind.wrap_i64]; omega)) rfl ?_
    refine Om (Qc rfl) rfl (Qf ?_)
    refine Ck (j + 1, os2.set (i * 2 + (j + 1) % 2) (zs.getD (i * 2 + j) (0, 0))) (by first | omega | (dsimp only; omega)) ?_ ⟨rfl, rfl, rfl, rfl, rfl, rfl, rfl, rfl, rfl, rfl, trivial⟩
    have sx_21 := sx_20.to c21 (by first | exact fun _ _ _ _ => id | (intro q h1 h2 hx h3; have := hX q h2; omega))
    have b3_21 := b3_20.to c21
    have b6_21 := b6_20.to c21
    have b9_21 := b9_20.to c21
    have CH_20 := CH_19.and c20
    have CH_21 : Ch (No) w w21 := CH_20.then c21
    exact ⟨(by omega), (hs2.step (by omega) (by omega)), (by omega), sx_21, b3_21, b6_21, b9_21, (by have h9 := o21; rw [t1, t2] at h9; exact h9), CH_21⟩
   ·
    refine Cr (Qk (Qk (Qz (Qo (Qa (Qb ?_))))))
    refine Om (Ce rfl rfl (by rw [IntKind.wrap_i64]; omega)) rfl ?_
    refine Om (Qc rfl) rfl (Qf ?_)
    refine Ck (i + 1, os2) (by first | omega | (dsimp only; omega)) ?_ ⟨rfl, rfl, rfl, rfl, rfl, rfl, rfl, trivial⟩
    exact ⟨(by omega), (by have h9 := hs2; rw [show j = 2 by omega] at h9; exact h9.next), (by omega), sx_19, b3_19, b6_19, b9_19, ou_19, CH_19⟩
  ·
   refine Cr (Qk (Qk (Qz (Qa (Qe (Qb (Om (Qr ι46 ς46 rfl rfl (b9_18.all' rfl)) rfl ?_)))))))
   refine Oz (Cf ς46 rfl rfl rfl rfl b6_18 (Nat.le_of_ble_eq_true rfl)) rfl ?_
   intro _ w22 Z22
   have c22 := Z22.ch; have z22 := Z22.size
   have b6_22 := Bk.put Z22
   refine Om (Qd rfl) rfl (Qf (Qa (Qp (VQ.retct rfl rfl ι46 ς46 rfl (b6_22.all' rfl) rfl (Ret.mk ?_)))))
   have ei : i = 2 := by omega
   rw [ei] at hs
   have ou_22 := ou_18.to c22
   have CH_22 : Ch (No) w w22 := CH_18.then c22
   exact ⟨_, os, rfl, ou_22, hs.get 0 1 (by decide) (by decide) (.inl (by decide)), by omega, CH_22⟩
theorem bits_BitsG (a : Nat) (w : World) :
  Calls Tryz.prog 216 #[.float .f64 a] w (Ret (fun v w' => v = .int .u64 (bitG a : Nat) ∧ w = w')) := by
 refine calls_of_VC (args := [.float .f64 a]) Tryz.func216 rfl Tryz.ntmps216 rfl (Qe (Qb (Om (Qd rfl) rfl (Qf (Qa (Qe (Qe ?_)))))))
 refine Qb (Om (Qc rfl) rfl (Om (Qc rfl) rfl (Om (Rn.fneq rfl rfl) rfl (Qf (Qa (Cu rfl (fun hc1 => ?_) (fun hc1 => ?_)))))))
 ·
  try simp only [bX] at hc1
  refine Qe (Qb (Om (Qd rfl) rfl (Qf (Qa (Qp (Qu (Qy rfl rfl ?_)))))))
  refine Ret.mk ?_
  exact ⟨by unfold bitG; rw [if_pos hc1]; rfl, rfl⟩
 ·
  try simp only [bX] at hc1
  refine Qn (Qa (Qe (Qb (Om (Qc rfl) rfl (Om (Rn.fromf Tryz.func58 (by kernel_rfl) rfl (by kernel_rfl) (by kernel_rfl) rfl) rfl (Om (Qd rfl) rfl (Qf ?_)))))))
  refine Qa (Qp (Qy rfl rfl (Ret.mk ?_)))
  exact ⟨by unfold bitG; rw [if_neg (by rw [hc1]; decide)], rfl⟩
theorem bits_SameT (a : Nat) (w : World) :
  Calls Tryz.prog 168 #[.float .f64 a, .float .f64 a] w (Ret (fun v w' => v = .bool true ∧ w = w')) := by
 refine calls_of_VC (args := [.float .f64 a, .float .f64 a]) Tryz.func168 rfl Tryz.ntmps168 rfl (Qe (Qb (Om (Qd rfl) rfl (Qf (Qa (Qe (Qb ?_)))))))
 refine Om (Qc rfl) rfl (Oq (Qi Tryz.call216 rfl (bits_BitsG _ _)) rfl ?_)
 rintro _ _ ⟨rfl, rfl⟩
 refine Om (Qc rfl) rfl (Oq (Qi Tryz.call216 rfl (bits_BitsG _ _)) rfl ?_)
 rintro _ _ ⟨rfl, rfl⟩
 refine Om (Rn.eqlT rfl rfl rfl) rfl (Om (Qd rfl) rfl (Qf (Qa (Qp (Qy rfl rfl (Ret.mk ?_))))))
 exact ⟨rfl, rfl⟩
theorem cplx_SameT (a b : Nat) (w : World) :
  Calls Tryz.prog 138 #[.complex .f64 a b, .complex .f64 a b] w (Ret (fun v w' => v = .bool true ∧ w = w')) := by
 refine calls_of_VC (args := [.complex .f64 a b, .complex .f64 a b]) Tryz.func138 rfl Tryz.ntmps138 rfl (Qe (Qb (Om (Qd rfl) rfl (Qf (Qa (Qe (Qb ?_)))))))
 refine Om (Qc rfl) rfl (Om (Rw rfl) rfl (Om (Qc rfl) rfl (Om (Rw rfl) rfl (Oq (Qi Tryz.call168 rfl (bits_SameT _ _)) rfl ?_))))
 rintro _ _ ⟨rfl, rfl⟩
 refine Om (Qc rfl) rfl (Om (Qc rfl) rfl (Om (Rx rfl) rfl (Om (Qc rfl) rfl (Om (Rx rfl) rfl (Oq (Qi Tryz.call168 rfl (bits_SameT _ _)) rfl ?_)))))
 rintro _ _ ⟨rfl, rfl⟩
 refine Om (Qt rfl rfl) rfl (Om (Qd rfl) rfl (Qf (Qa (Qp (Qy rfl rfl (Ret.mk ?_))))))
 exact ⟨rfl, rfl⟩
theorem slices_EqualT (SX : Nat → Prop) (X : Option Addr) (n xc : Nat) (zs : List CB) (w : World) (sx : SlR SX w X n 1 (zs.map cxV)) (hn : n ≤ 1000000) :
  Calls Tryz.prog 137 #[.slice X n xc, .slice X n xc, .func (.func 138) #[] #[]] w (Ret (fun v w' => v = .bool true ∧ Ch No w w')) := by
 refine calls_of_VC (args := [.slice X n xc, .slice X n xc, .func (.func 138) #[] #[]]) Tryz.func137 rfl Tryz.ntmps137 rfl (Qe (Qb (Om (Qd rfl) rfl (Qf (Qa (Qe (Qe ?_)))))))
 refine Qb (Om (Qc rfl) rfl (Om (Ra υ31 rfl) rfl (Om (Qc rfl) rfl (Om (Ra υ31 rfl) rfl (Om (Rn.neq rfl rfl) rfl (Qf (Qa ?_)))))))
 refine Qj rfl (fun hc1 => ?_) (fun hc1 => ?_)
 ·
  omega
 ·
  refine Qn (Qa (Qe (Qe (Qb (Om (Qc rfl) rfl (Om (Ra υ31 rfl) rfl (Om (Qc rfl) rfl ?_)))))))
  refine Qf (Qa (Qw (Cp (σ := Nat) (fun j => [(1, .slice X n xc), (2, .func (.func 138) #[] #[]), (15, .slice X n xc), (16, .int .i64 n), (17, .int .i64 j)]) (fun j w' => j ≤ n ∧ w.heap.size ≤ w'.heap.size ∧ SlR SX w' X n 1 (zs.map cxV) ∧ Ch (No) w w') (fun j => n - j) 0 ?_ ⟨rfl, rfl, rfl, rfl, rfl, trivial⟩ ?_)))
  · exact ⟨(by omega), (Nat.le_refl _), sx, (Ch.refl (No) w)⟩
  rintro j w1 ⟨hj, hsz1, sx_1, CH_1⟩
  show VC _ _ _ _ [(1, .slice X n xc), (2, .func (.func 138) #[] #[]), (15, .slice X n xc), (16, .int .i64 n), (17, .int .i64 j)] _
  refine Qe (Qb (Om (Cs rfl rfl) rfl (Qf (Qa (Qe (Qj rfl (fun hc2 => ?_) (fun hc2 => ?_)))))))
  ·
   refine Qn (Qa (Qe (Qw (Qe (Qb (Om (Qc rfl) rfl (Om (Cb υ31 ς33 rfl rfl (sx_1.ne (by omega)) (by omega) (by omega)) rfl ?_)))))))
   refine Om (Qh ι33 rfl (sx_1.getC (by omega) (by omega))) rfl (Om (Qd rfl) rfl (Om (Qd rfl) rfl (Qf (Qa (Qe (Qb (Om (Qc rfl) rfl ?_)))))))
   refine Om (Qc rfl) rfl (Om (Cb υ31 ς33 rfl rfl (sx_1.ne (by omega)) (by omega) (by omega)) rfl (Om (Qh ι33 rfl (sx_1.getC (by omega) (by omega))) rfl (Om (Qd rfl) rfl (Qf (Qa (Qe (Qb ?_)))))))
   refine Om (Qc rfl) rfl (Om (Qc rfl) rfl (Om (Qc rfl) rfl (Oq (Wd Tryz.call138 rfl rfl (by rfl) (cplx_SameT _ _ _)) rfl ?_)))
   rintro _ _ ⟨rfl, rfl⟩
   refine Om (Ro rfl) rfl (Qf (Qa (Ca rfl (Qn (Qo (Qa (Qb ?_)))))))
   refine Om (Ce rfl rfl (by rw [IntKind.wrap_i64]; omega)) rfl ?_
   refine Om (Qc rfl) rfl (Qf ?_)
   refine Ck (j + 1) (by first | omega | (dsimp only; omega)) ?_ ⟨rfl, rfl, rfl, rfl, rfl, trivial⟩
   exact ⟨(by omega), (by omega), sx_1, CH_1⟩
  ·
   refine Cr (Qk (Qk (Qz (Qa (Qe (Qb (Om (Qd rfl) rfl ?_)))))))
   refine Qf (Qa (Qp (Qy rfl rfl (Ret.mk ?_))))
   exact ⟨rfl, CH_1⟩
theorem cplx_SameListT (SX : Nat → Prop) (X : Option Addr) (n xc : Nat) (zs : List CB) (w : World) (sx : SlR SX w X n 1 (zs.map cxV)) (hn : n ≤ 1000000) :
  Calls Tryz.prog 99 #[.slice X n xc, .slice X n xc] w (Ret (fun v w' => v = .bool true ∧ Ch No w w')) := by
 refine calls_of_VC (args := [.slice X n xc, .slice X n xc]) Tryz.func99 rfl Tryz.ntmps99 rfl (Qe (Qb (Om (Qd rfl) rfl (Qf (Qa (Qe (Qb ?_)))))))
 refine Om (Qc rfl) rfl (Om (Qc rfl) rfl (Oq (Qi Tryz.call137 rfl (slices_EqualT _ _ _ _ _ _ sx hn)) rfl ?_))
 rintro _ w1 ⟨rfl, c1⟩
 have z1 := c1.size
 refine Om (Qd rfl) rfl (Qf (Qa (Qp (Qy rfl rfl (Ret.mk ?_)))))
 have CH_1 := (Ch.refl (No) w).and c1
 exact ⟨rfl, CH_1⟩
theorem grid_SameT (SX : Nat → Prop) (R C : Int) (X : Option Addr) (n xc : Nat) (zs : List CB) (w : World) (sx : SlR SX w X n 1 (zs.map cxV)) (hn : n ≤ 1000000) :
  Calls Tryz.prog 57 #[.agg #[.int .i64 R, .int .i64 C, .slice X n xc], .agg #[.int .i64 R, .int .i64 C, .slice X n xc]] w (Ret (fun v w' => v = .bool true ∧ Ch No w w')) := by
 refine calls_of_VC (args := [.agg #[.int .i64 R, .int .i64 C, .slice X n xc], .agg #[.int .i64 R, .int .i64 C, .slice X n xc]]) Tryz.func57 rfl Tryz.ntmps57 rfl (Qe (Qb (Oq (Cj rfl) rfl ?_)))
 rintro _ w1 ⟨p1, rfl, N1⟩
 have c1 := N1.ch
 have e1 := N1.p; have z1 := N1.size
 have b2 := Bk.new N1
 refine Oq (Cj rfl) rfl ?_
 rintro _ w2 ⟨p2, rfl, N2⟩
 have c2 := N2.ch
 have e2 := N2.p; have z2 := N2.size
 have b3 := Bk.new N2
 refine Om (Qd rfl) rfl (Qf (Qa (Qe (Qb (Om (Qg υ46 rfl ς3 rfl rfl rfl) rfl ?_)))))
 have b2_2 := b2.keep c2
 refine Om (Qh ι3 rfl (b2_2.cell rfl)) rfl (Om (Qg υ46 rfl ς3 rfl rfl rfl) rfl (Om (Qh ι3 rfl (b3.cell rfl)) rfl (Om (Rn.eqlT rfl rfl rfl) rfl (Om (Qc rfl) rfl (Om (Qg υ46 rfl ς3 rfl rfl rfl) rfl (Om (Qh ι3 rfl (b2_2.cell rfl)) rfl (Om (Qg υ46 rfl ς3 rfl rfl rfl) rfl ?_)))))))
 refine Om (Qh ι3 rfl (b3.cell rfl)) rfl (Om (Rn.eqlT rfl rfl rfl) rfl (Om (Qt rfl rfl) rfl (Om (Qc rfl) rfl (Om (Qg υ46 rfl ς31 rfl rfl rfl) rfl (Om (Qh ι31 rfl (b2_2.cell rfl)) rfl (Om (Qg υ46 rfl ς31 rfl rfl rfl) rfl (Om (Qh ι31 rfl (b3.cell rfl)) rfl ?_)))))))
 have sx_2 := sx.keep (c1.trans c2)
 refine Oq (Qi Tryz.call99 rfl (cplx_SameListT _ _ _ _ _ _ sx_2 hn)) rfl ?_
 rintro _ w3 ⟨rfl, c3⟩
 have z3 := c3.size
 refine Om (Qt rfl rfl) rfl (Om (Qd rfl) rfl (Qf (Qa (Qp (Qy rfl rfl (Ret.mk ?_))))))
 have CH_3 := (Ch.refl (No) w).and (c1.trans (c2.trans c3))
 exact ⟨rfl, CH_3⟩
set_option maxHeartbeats 4000000 in
theorem law24_fixed (E : Addr) (w : World) (er : ErrL E w) (st : StT w) (tab : TabB w.heap.size w) (hG : 24 ≤ w.heap.size) :
  Calls Tryz.prog 22 #[] w (Ret (fun v w' => v = .bool true ∧ Ch No w w')) := by
 refine calls_of_VC (args := []) Tryz.func22 rfl Tryz.ntmps22 rfl (Qe (Qb (Om (Qd rfl) rfl (Qf (Qa (Qe (Qb ?_)))))))
 refine Oq (Cy υ31 inf33w96 (by decide) rfl rfl (by rfl) (by decide) (by decide) (by rfl)) rfl ?_
 rintro _ w1 ⟨p1, rfl, N1⟩
 have c1 := N1.ch
 have e1 := N1.p; have z1 := N1.size
 have l7 := SlR.of_new (sz := 1) (l := 4) N1 rfl
 have l7o := Ow.of_new (sz := 1) (l := 4) N1 rfl (by decide)
 refine Om (Cl rfl (bld46_0_1_2w96 rfl)) rfl (Oq (Cc ζ46) rfl ?_)
 rintro _ w2 ⟨p2, rfl, N2⟩
 have c2 := N2.ch
 have e2 := N2.p; have z2 := N2.size
 have bg := Bk.new N2
 refine Oz (Cf ς46 rfl rfl rfl rfl bg (Nat.le_of_ble_eq_true rfl)) rfl ?_
 intro _ w3 Z3
 have c3 := Z3.ch; have z3 := Z3.size
 have bg_3 := Bk.put Z3
 refine Qf (Qa (Qe (Qb (Om (Qr ι46 ς46 rfl rfl (bg_3.all' rfl)) rfl ?_))))
 have cc_1_3 : Ch No w1 w3 := (Ch.then (E := No) c2 c3 (by intro q h1 h2; rcases h2 with h2 | h2 <;> first | exact h2 | (exfalso; omega)))
 have l7_3 := l7.keep cc_1_3
 have cc_0_3 : Ch No w w3 := (Ch.then (E := No) (c1.and c2) c3 (by intro q h1 h2; rcases h2 with h2 | h2 <;> first | exact h2 | (exfalso; omega)))
 have st_3 := st.keep cc_0_3
 have tab_3 := tab.keep cc_0_3
 refine Oq (Qi Tryz.call24 rfl (grid_Forward _ 2 2 4 _ _ L4g ga _ l7_3 (fun q hq => by omega) (by decide) (by decide) rfl g4 st_3 ((tab_3).up (by omega)) (by omega))) rfl ?_
 rintro _ w4 ⟨r4, A4, k4, os_fw, rfl, fw4, hg_fw, yg4, c4⟩
 have yw4 := Ow.lt fw4
 have z4 := c4.size
 refine Om (Qc rfl) rfl (Om (Qq rfl rfl) rfl (Om (Qq rfl rfl) rfl (Oq (Cc ζ46) rfl ?_)))
 rintro _ w5 ⟨p5, rfl, N5⟩
 have c5 := N5.ch
 have e5 := N5.p; have z5 := N5.size
 have bf := Bk.new N5
 refine Oz (Cf ς46 rfl rfl rfl rfl bf (Nat.le_of_ble_eq_true rfl)) rfl ?_
 intro _ w6 Z6
 have c6 := Z6.ch; have z6 := Z6.size
 have bf_6 := Bk.put Z6
 refine Om (Qd rfl) rfl (Qf (Qa (Qe (Qb ?_))))
 have cc_3_6 : Ch No w3 w6 := (Ch.then (E := No) (c4.and c5) c6 (by intro q h1 h2; rcases h2 with h2 | h2 <;> first | exact h2 | (exfalso; omega)))
 have bg_6 := bg_3.keep cc_3_6
 refine Om (Qr ι46 ς46 rfl rfl (bg_6.all' rfl)) rfl ?_
 have l7_6 := l7_3.keep cc_3_6
 refine Oq (Qi Tryz.call54 rfl (grid_Turn _ 2 2 4 _ _ L4g ga _ l7_6 (fun q hq => by omega) (by decide) (by decide) rfl g4)) rfl ?_
 rintro _ w7 ⟨q7, osT, rfl, tu7, huT, e7, c7⟩
 have yt7 := Ow.lt tu7
 have z7 := c7.size
 refine Om (Qc rfl) rfl (Om (Qq rfl rfl) rfl (Om (Qq rfl rfl) rfl (Oq (Cc ζ46) rfl ?_)))
 rintro _ w8 ⟨p8, rfl, N8⟩
 have c8 := N8.ch
 have e8 := N8.p; have z8 := N8.size
 have bt := Bk.new N8
 refine Oz (Cf ς46 rfl rfl rfl rfl bt (Nat.le_of_ble_eq_true rfl)) rfl ?_
 intro _ w9 Z9
 have c9 := Z9.ch; have z9 := Z9.size
 have bt_9 := Bk.put Z9
 refine Om (Qd rfl) rfl (Qf (Qa (Qe (Qe (Qb (Om (Qc rfl) rfl (Om (Cg υ28 rfl) rfl ?_)))))))
 refine Om (Qc rfl) rfl (Om (Qc rfl) rfl (Om (Cg υ28 rfl) rfl (Om (Qm rfl rfl) rfl (Om (Qc rfl) rfl (Om (Qg υ46 rfl ς31 rfl rfl rfl) rfl ?_)))))
 have cc_6_9 : Ch No w6 w9 := (Ch.then (E := No) (c7.and c8) c9 (by intro q h1 h2; rcases h2 with h2 | h2 <;> first | exact h2 | (exfalso; omega)))
 have bf_9 := bf_6.keep cc_6_9
 refine Om (Qh ι31 rfl (bf_9.cell rfl)) rfl (Om (Ra υ31 rfl) rfl (Om (Rn.neqF rfl rfl rfl) rfl (Om (Qm rfl rfl) rfl (Om (Qc rfl) rfl (Om (Qg υ46 rfl ς31 rfl rfl rfl) rfl (Om (Qh ι31 rfl (bt_9.cell rfl)) rfl (Om (Ra υ31 rfl) rfl ?_)))))))
 refine Om (Rn.neqF rfl rfl rfl) rfl (Om (Qm rfl rfl) rfl (Qf (Qa (Ca rfl (Qn (Qa (Qe ?_)))))))
 refine Qb ?_
 have bg_9 := bg_6.keep cc_6_9
 refine Om (Qr ι46 ς46 rfl rfl (bg_9.all' rfl)) rfl ?_
 have l7_9 := l7_6.keep cc_6_9
 refine Oq (Qi Tryz.call55 rfl (grid_Shift2 _ _ _ L4g _ l7_9 (fun q hq => by omega))) rfl ?_
 rintro _ w10 ⟨q10, osS, rfl, sh10, hsh, e10, c10⟩
 have ys10 := Ow.lt sh10
 have z10 := c10.size
 refine Om (Qc rfl) rfl (Om (Qq rfl rfl) rfl (Om (Qq rfl rfl) rfl (Oq (Cc ζ46) rfl ?_)))
 rintro _ w11 ⟨p11, rfl, N11⟩
 have c11 := N11.ch
 have e11 := N11.p; have z11 := N11.size
 have bs := Bk.new N11
 refine Oz (Cf ς46 rfl rfl rfl rfl bs (Nat.le_of_ble_eq_true rfl)) rfl ?_
 intro _ w12 Z12
 have c12 := Z12.ch; have z12 := Z12.size
 have bs_12 := Bk.put Z12
 refine Om (Qd rfl) rfl (Qf (Qa (Qe (Ci 61 [(0, true), (1, true), (2, true), (3, true), (4, true), (5, true), (6, true), (7, true), (8, true), (9, true), (10, true), (11, true), (12, true), (13, true), (14, true), (15, true), (16, true), (17, true), (18, true), (19, true), (20, true), (21, true), (22, true), (23, true), (24, true), (25, true), (26, true), (27, true), (28, true), (29, true), (30, true), (31, true), (32, true), (33, true), (34, true), (35, true), (36, true), (37, true), (38, true), (39, true), (40, true), (41, true), (42, true), (43, true), (44, true), (45, true), (46, true), (47, true), (48, true), (49, true), (50, true), (51, true), (53, true), (52, false), (54, true), (55, true), (56, true), (57, true), (58, true), (59, false), (60, true)] (fun w1 w' => Ch (No) w1 w') mixed (by kernel_rfl) (fun _ _ => Ch.refl _ _) ?_))))
 intro w13 D13
 have c13 := Ch.of_drew D13; have z13 := c13.size
 have cc_0_13 : Ch No w w13 := ((Ch.then (E := No) (((Ch.then (E := No) (((Ch.then (E := No) (((Ch.then (E := No) (c1.and c2) c3 (by intro q h1 h2; rcases h2 with h2 | h2 <;> first | exact h2 | (exfalso; omega))).and c4).and c5) c6 (by intro q h1 h2; rcases h2 with h2 | h2 <;> first | exact h2 | (exfalso; omega))).and c7).and c8) c9 (by intro q h1 h2; rcases h2 with h2 | h2 <;> first | exact h2 | (exfalso; omega))).and c10).and c11) c12 (by intro q h1 h2; rcases h2 with h2 | h2 <;> first | exact h2 | (exfalso; omega))).and c13)
 have er_13 := er.keep cc_0_13
 have cc_1_13 : Ch No w1 w13 := ((Ch.then (E := No) (((Ch.then (E := No) (((Ch.then (E := No) (((Ch.then (E := No) c2 c3 (by intro q h1 h2; rcases h2 with h2 | h2 <;> first | exact h2 | (exfalso; omega))).and c4).and c5) c6 (by intro q h1 h2; rcases h2 with h2 | h2 <;> first | exact h2 | (exfalso; omega))).and c7).and c8) c9 (by intro q h1 h2; rcases h2 with h2 | h2 <;> first | exact h2 | (exfalso; omega))).and c10).and c11) c12 (by intro q h1 h2; rcases h2 with h2 | h2 <;> first | exact h2 | (exfalso; omega))).and c13)
 have l7o_13 := l7o.keep cc_1_13
 have cc_9_13 : Ch No w9 w13 := ((Ch.then (E := No) (c10.and c11) c12 (by intro q h1 h2; rcases h2 with h2 | h2 <;> first | exact h2 | (exfalso; omega))).and c13)
 have bg_13 := bg_9.keep cc_9_13
 have cc_4_13 : Ch No w4 w13 := ((Ch.then (E := No) (((Ch.then (E := No) (((Ch.then (E := No) c5 c6 (by intro q h1 h2; rcases h2 with h2 | h2 <;> first | exact h2 | (exfalso; omega))).and c7).and c8) c9 (by intro q h1 h2; rcases h2 with h2 | h2 <;> first | exact h2 | (exfalso; omega))).and c10).and c11) c12 (by intro q h1 h2; rcases h2 with h2 | h2 <;> first | exact h2 | (exfalso; omega))).and c13)
 have fw_13 := fw4.keep cc_4_13
 have bf_13 := bf_9.keep cc_9_13
 have cc_7_13 : Ch No w7 w13 := ((Ch.then (E := No) (((Ch.then (E := No) c8 c9 (by intro q h1 h2; rcases h2 with h2 | h2 <;> first | exact h2 | (exfalso; omega))).and c10).and c11) c12 (by intro q h1 h2; rcases h2 with h2 | h2 <;> first | exact h2 | (exfalso; omega))).and c13)
 have tu_13 := tu7.keep cc_7_13
 have bt_13 := bt_9.keep cc_9_13
 have cc_10_13 : Ch No w10 w13 := ((Ch.then (E := No) c11 c12 (by intro q h1 h2; rcases h2 with h2 | h2 <;> first | exact h2 | (exfalso; omega))).and c13)
 have sh_13 := sh10.keep cc_10_13
 have bs_13 := bs_12.keep c13
 refine Hm (fun w' hS => Qc rfl) rfl (Hm (fun w' hS => Wc υ28 rfl) rfl (Hm (fun w' hS => Qc rfl) rfl (Hm (fun w' hS => Qg υ46 rfl ς31 rfl rfl rfl) rfl (Hm (fun w' hS => Qh ι31 rfl ((bf_13.keep hS).cell rfl)) rfl (Hm (fun w' hS => Cb υ31 ς33 rfl rfl (fw_13.sl.ne (by omega)) (by omega) (by omega)) rfl (Hm (fun w' hS => Qh ι33 rfl ((fw_13.keep hS).sl.getC (by omega) (by omega))) rfl (Hm (fun w' hS => Rn.ceqlT rfl rfl (fx0 (hg_fw.get 0 0 (by decide) (by decide)))) rfl ?_)))))))
 refine Hm (fun w' hS => Qt rfl rfl) rfl (Hm (fun w' hS => Qc rfl) rfl (Hm (fun w' hS => Qg υ46 rfl ς31 rfl rfl rfl) rfl (Hm (fun w' hS => Qh ι31 rfl ((bf_13.keep hS).cell rfl)) rfl (Hm (fun w' hS => Cb υ31 ς33 rfl rfl (fw_13.sl.ne (by omega)) (by omega) (by omega)) rfl (Hm (fun w' hS => Qh ι33 rfl ((fw_13.keep hS).sl.getC (by omega) (by omega))) rfl (Hm (fun w' hS => Rn.ceqlT rfl rfl (fx1 (hg_fw.get 0 1 (by decide) (by decide)))) rfl (Hm (fun w' hS => Qt rfl rfl) rfl ?_)))))))
 refine Hm (fun w' hS => Qc rfl) rfl (Hm (fun w' hS => Qg υ46 rfl ς31 rfl rfl rfl) rfl (Hm (fun w' hS => Qh ι31 rfl ((bf_13.keep hS).cell rfl)) rfl (Hm (fun w' hS => Cb υ31 ς33 rfl rfl (fw_13.sl.ne (by omega)) (by omega) (by omega)) rfl (Hm (fun w' hS => Qh ι33 rfl ((fw_13.keep hS).sl.getC (by omega) (by omega))) rfl (Hm (fun w' hS => Rn.ceqlT rfl rfl (fx2 (hg_fw.get 1 0 (by decide) (by decide)))) rfl (Hm (fun w' hS => Qt rfl rfl) rfl (Hm (fun w' hS => Qc rfl) rfl ?_)))))))
 refine Hm (fun w' hS => Qg υ46 rfl ς31 rfl rfl rfl) rfl (Hm (fun w' hS => Qh ι31 rfl ((bf_13.keep hS).cell rfl)) rfl (Hm (fun w' hS => Cb υ31 ς33 rfl rfl (fw_13.sl.ne (by omega)) (by omega) (by omega)) rfl (Hm (fun w' hS => Qh ι33 rfl ((fw_13.keep hS).sl.getC (by omega) (by omega))) rfl (Hm (fun w' hS => Rn.ceqlT rfl rfl (fx3 (hg_fw.get 1 1 (by decide) (by decide)))) rfl (Hm (fun w' hS => Qt rfl rfl) rfl (Hm (fun w' hS => Qc rfl) rfl (Hm (fun w' hS => Qg υ46 rfl ς31 rfl rfl rfl) rfl ?_)))))))
 refine Hm (fun w' hS => Qh ι31 rfl ((bt_13.keep hS).cell rfl)) rfl (Hm (fun w' hS => Cb υ31 ς33 rfl rfl (tu_13.sl.ne (by omega)) (by omega) (by omega)) rfl (Hm (fun w' hS => Qh ι33 rfl ((tu_13.keep hS).sl.getC (by omega) (by omega))) rfl (Hm (fun w' hS => Rn.ceqlT rfl rfl (ft1 (huT.get 0 1 (by decide) (by decide)))) rfl (Hm (fun w' hS => Qt rfl rfl) rfl (Hm (fun w' hS => Qc rfl) rfl (Hm (fun w' hS => Qg υ46 rfl ς31 rfl rfl rfl) rfl (Hm (fun w' hS => Qh ι31 rfl ((bs_13.keep hS).cell rfl)) rfl ?_)))))))
 refine Hm (fun w' hS => Ra υ31 rfl) rfl (Hm (fun w' hS => Rn.eqlT rfl rfl rfl) rfl (Hm (fun w' hS => Qt rfl rfl) rfl (Hm (fun w' hS => Qc rfl) rfl (Hm (fun w' hS => Qg υ46 rfl ς31 rfl rfl rfl) rfl (Hm (fun w' hS => Qh ι31 rfl ((bs_13.keep hS).cell rfl)) rfl (Hm (fun w' hS => Cb υ31 ς33 rfl rfl (sh_13.sl.ne (by omega)) (by omega) (by omega)) rfl (Hm (fun w' hS => Qh ι33 rfl ((sh_13.keep hS).sl.getC (by omega) (by omega))) rfl ?_)))))))
 refine Hm (fun w' hS => Rn.ceqlT rfl rfl (fs1 (hsh))) rfl (Hm (fun w' hS => Qt rfl rfl) rfl (Hm (fun w' hS => Qc rfl) rfl (Hm (fun w' hS => Cl rfl (build46w96 rfl)) rfl (Hm (fun w' hS => Qh Tryz.isAgg28 rfl (er_13.keep hS).get) rfl (Hq (Qi κ56 rfl (grid_CheckE E _ er_13)) rfl ?_)))))
 rintro _ w14 ⟨rfl, c14⟩
 have z14 := c14.size
 have RD_14 := (Ch.refl (No) w13).and c14
 refine ⟨RD_14, ?_⟩
 refine Hm (fun w' hS => Rn.errT rfl rfl) rfl (Hm (fun w' hS => Qt rfl rfl) rfl (Hm (fun w' hS => Qc rfl) rfl (Hm (fun w' hS => Qr ι46 ς46 rfl rfl ((bg_13.keep hS).all' rfl)) rfl (Hm (fun w' hS => Qr ι46 ς46 rfl rfl ((bg_13.keep hS).all' rfl)) rfl ?_))))
 have cc_9_14 : Ch No w9 w14 := (((Ch.then (E := No) (c10.and c11) c12 (by intro q h1 h2; rcases h2 with h2 | h2 <;> first | exact h2 | (exfalso; omega))).and c13).and c14)
 have l7_14 := l7_9.keep cc_9_14
 refine Hq (Qi Tryz.call57 rfl (grid_SameT _ _ _ _ 4 _ L4g _ l7_14 (by decide))) rfl ?_
 rintro _ w15 ⟨rfl, c15⟩
 have z15 := c15.size
 have RD_15 := RD_14.and c15
 refine ⟨RD_15, ?_⟩
 refine Hm (fun w' hS => Qt rfl rfl) rfl (Cn (Om (Qd rfl) rfl (Qf (Qx (Qa (Qp (Qy rfl rfl ?_)))))))
 refine Ret.mk ?_
 have cc_0_15 : Ch No w w15 := ((((Ch.then (E := No) (((Ch.then (E := No) (((Ch.then (E := No) (((Ch.then (E := No) (c1.and c2) c3 (by intro q h1 h2; rcases h2 with h2 | h2 <;> first | exact h2 | (exfalso; omega))).and c4).and c5) c6 (by intro q h1 h2; rcases h2 with h2 | h2 <;> first | exact h2 | (exfalso; omega))).and c7).and c8) c9 (by intro q h1 h2; rcases h2 with h2 | h2 <;> first | exact h2 | (exfalso; omega))).and c10).and c11) c12 (by intro q h1 h2; rcases h2 with h2 | h2 <;> first | exact h2 | (exfalso; omega))).and c13).and c14).and c15)
 have CH_15 := (Ch.refl (No) w).and cc_0_15
 exact ⟨rfl, CH_15⟩
end Go.Tm
