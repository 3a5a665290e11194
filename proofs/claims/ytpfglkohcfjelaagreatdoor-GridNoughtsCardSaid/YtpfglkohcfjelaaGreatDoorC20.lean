/- Lemmas of this claim, joined by program. Walks of functions: the law GridNoughts. Conditions: each lemma names its own. -/
import Derived.Test.YtpfglkohcfjelaaGreatDoorC19
set_option linter.all false
namespace Go.Tm
set_option maxRecDepth 100000
open Go.RowKit Go.Proofs
abbrev BV (b : Bool) : Value := .bool b
theorem SlR.getB {S : Nat → Prop} {w : World} {A : Option Addr} {l : Nat} {xs : List Bool} (h : SlR S w A l 1 (xs.map BV)) {i : Int} (h0 : 0 ≤ i) (h1 : i < l) : w.cell? ((sAddr A).add (i.toNat * 1)) = some (.bool (xs.getD i.toNat false)) := SlR.get (f := BV) h false h0 h1
theorem Rn.castI {P : Program} {n : Fr} {k : K} {w : World} {o : Oper} {q : IntKind} {a b : Int} (h : a = b) (x : Rn P n k w o (.int q a)) : Rn P n k w o (.int q b) := h ▸ x
def NzC (z : Cx) : Prop := Nz z.1 ∧ Nz z.2
theorem z0_nz : NzC z0 := ⟨⟨0, rfl, rfl⟩, ⟨0, rfl, rfl⟩⟩
theorem nz_ceq {a : CB} (h : NzC (cx a)) : ceq a (0, 0) = true := by
  have key : ∀ {a : Nat}, Nz (cn a) → (Ieee.double.order a 0 == some .eq) = true := by
    intro a h
    obtain ⟨b, e, hb⟩ := h
    have : a = b := by
      rw [cn_eq] at e
      split at e
      · cases e
      · injection e
    subst this
    obtain ⟨s, hr⟩ := read_zero hb
    have e0 : Ieee.double.read 0 = .number false 0 (-1074) := rfl
    unfold Ieee.Format.order
    rw [hr, e0]
    simp [Ieee.Datum.order, signed_nought]
  unfold ceq
  rw [key h.1, key h.2]; rfl
theorem cn_nz {b : Nat} (h : b % 2 ^ 63 = 0) : Nz (cn b) := ⟨b, by rw [cn_eq, if_neg (by omega)], h⟩
theorem nz_list {l : List Cx} (h : ∀ z ∈ l, NzC z) (k : Nat) : NzC (l.getD k z0) := by
  simp only [List.getD]
  cases e : l[k]? with
  | none => exact z0_nz
  | some z => exact h z (List.mem_of_getElem? e)
theorem nz_map {n : Nat} {x : Nat → Cx} (h : ∀ j, NzC (x j)) (k : Nat) : NzC (((List.range n).map x).getD k z0) := nz_list (fun z hz => by
  obtain ⟨j, _, rfl⟩ := List.mem_map.1 hz
  exact h j) k
theorem grF_nz (n : Nat) (h1 : 1 ≤ n) (h2 : n ≤ 30) (x : Nat → Cx) (h : ∀ j, NzC (x j)) (j : Nat) : NzC (grF n x j) := by
  have us := usG_chk (chk30 h1 h2) h1 (by omega)
  exact fwd_rel (l := (List.range n).map x) (m := (List.range n).map x) Nz.rel us (ko_fin (chk30 h1 h2) h1 us) (by simp) (by simp) (fun k => nz_map h k) j
theorem grI_nz (n : Nat) (h1 : 1 ≤ n) (h2 : n ≤ 30) (x : Nat → Cx) (h : ∀ j, NzC (x j)) (j : Nat) : NzC (grI n x j) := by
  have us := usG_chk (chk30 h1 h2) h1 (by omega)
  exact inv_rel (l := (List.range n).map x) (m := (List.range n).map x) Nz.rel h1 (by omega) us (ko_fin (chk30 h1 h2) h1 us) (by simp) (by simp) (fun k => nz_map h k) j
theorem gk_nz {t : Nat → (Nat → Cx) → Nat → Cx} (ht : ∀ n, 1 ≤ n → n ≤ 30 → ∀ x, (∀ j, NzC (x j)) → ∀ j, NzC (t n x j)) {R C : Nat} (hR : 1 ≤ R ∧ R ≤ 30) (hC : 1 ≤ C ∧ C ≤ 30) {G : Nat → Nat → Cx} (hG : ∀ i j, NzC (G i j)) : ∀ k i j, NzC (gk t R C G k i j)
  | 0, i, j => hG i j
  | k + 1, j, i => ht _ (dm_bd hC hR k).1 (dm_bd hC hR k).2 _ (fun l => gk_nz ht hR hC hG k i l) j
theorem GrX.nz {R C : Nat} {G : Nat → Nat → Cx} {zs : List CB} (h : GrX R C G zs) (hC : 1 ≤ C) (hG : ∀ i j, NzC (G i j)) {m : Nat} (hm : m < R * C) : ceq (zs.getD m (0, 0)) (0, 0) = true := by
  have h1 : m / C < R := Nat.div_lt_of_lt_mul (by rw [Nat.mul_comm]; exact hm)
  have h2 := h.get (m / C) (m % C) h1 (Nat.mod_lt _ (by omega))
  rw [Nat.mul_comm, Nat.div_add_mod] at h2
  exact nz_ceq (by rw [h2]; exact hG _ _)
theorem nz_snoc {os : List CB} {z : Nat} (h : ∀ m, NzC (cx (os.getD m (0, 0)))) (hz : z % 2 ^ 63 = 0) (m : Nat) : NzC (cx ((os ++ [(z, 0)]).getD m (0, 0))) := by
  rcases Nat.lt_trichotomy m os.length with c | c | c
  · have := h m
    simp only [List.getD] at this ⊢
    rwa [List.getElem?_append_left c]
  · subst c
    simp only [List.getD, List.getElem?_append_right (Nat.le_refl _), Nat.sub_self]
    exact (show NzC (cx (z, 0)) from ⟨cn_nz (b := z) hz, cn_nz (b := 0) (by decide)⟩)
  · simp only [List.getD, List.getElem?_eq_none (show (os ++ [(z, 0)]).length ≤ m by simp; omega)]
    exact z0_nz
theorem emod_bd {i n : Int} (h : 0 < n) : 0 ≤ i % n ∧ i % n < n := ⟨Int.emod_nonneg _ (by omega), Int.emod_lt_of_pos _ h⟩
theorem side_of (x : Int) : ∃ R : Nat, 1 + IntKind.u64.wrap x % 30 = (R : Int) ∧ 1 ≤ R ∧ R ≤ 30 := by
  have h := emod_bd (i := IntKind.u64.wrap x) (n := 30) (by decide)
  exact ⟨(1 + IntKind.u64.wrap x % 30).toNat, by omega, by omega, by omega⟩
theorem inf33w97 : Inf Tryz.prog 33 (.complex .f64 0 0) 1 16 := ⟨Tryz.t33, Tryz.type33, rfl, rfl, rfl⟩
theorem bld46_0_1w97 {v0 v1 : Value} (h : [v0, v1].all Value.oneCell' = true) (w : World) : (Instr.build 46 ([(0, v0), (1, v1)] : List (Nat × Value)).toArray).run Tryz.prog w = .ok (.agg #[v0, v1, .slice none 0 0]) w := by
  simp only [List.all_cons, Bool.and_eq_true, List.all_nil, and_true] at h
  have hv0 := oneCell_cells (v := v0) (by simp_all)
  have hv1 := oneCell_cells (v := v1) (by simp_all)
  have h1 := fill_set (fun i => ([(0, 1), (1, 1), (2, 1)] : List (Nat × Nat))[i]?) [(0, v0), (1, v1)] [.int .i64 0, .int .i64 0, .slice none 0 0] (by simp [okF, agg_cells, hv0, hv1, Nat.beq, Nat.ble])
  simp [setF, agg_cells, hv0, hv1] at h1
  simp [Instr.build, Tryz.runUnderlying46, ζ46, ς3, ς31, agg_cells, h1]
theorem math_Copysign (w : World) :
  Calls Tryz.prog 23 #[.float .f64 0, .float .f64 13830554455654793216] w (Ret (fun v w' => v = .float .f64 9223372036854775808 ∧ w = w')) := by
 refine calls_of_VC (args := [.float .f64 0, .float .f64 13830554455654793216]) Tryz.func23 rfl Tryz.ntmps23 rfl (Qe (Qb (Om (Qd rfl) rfl (Qf (Qa (Qe (Qb ?_)))))))
 refine Om (Qc rfl) rfl (Om (Rn.fromf Tryz.func58 (by kernel_rfl) rfl (by kernel_rfl) (by kernel_rfl) rfl) rfl (Om (Rt rfl rfl (fun _ _ => by rfl)) rfl (Om (Qc rfl) rfl (Om (Rn.fromf Tryz.func58 (by kernel_rfl) rfl (by kernel_rfl) (by kernel_rfl) rfl) rfl (Om (Rt rfl rfl (fun _ _ => by rfl)) rfl (Om (Rt rfl rfl (fun _ _ => by rfl)) rfl (Om (Rn.fbits Tryz.func43 (by kernel_rfl) rfl (by kernel_rfl) (by kernel_rfl) rfl) rfl ?_)))))))
 refine Om (Qd rfl) rfl (Qf (Qa (Qp (Qy rfl rfl (Ret.mk ?_)))))
 exact ⟨rfl, rfl⟩
set_option maxHeartbeats 2000000 in
theorem law_Noughts (E : Addr) (SX : Nat → Prop) (r c : Int) (X : Option Addr) (n xc : Nat) (bs : List Bool) (w : World) (sx : SlR SX w X n 1 (bs.map BV)) (hX : ∀ q, SX q → q < w.heap.size) (hn : n ≤ 9223372036854775807) (er : ErrL E w) (st : StT w) (tab : TabB w.heap.size w) (hG : 24 ≤ w.heap.size) :
  Calls Tryz.prog 5 #[.int .i64 r, .int .i64 c, .slice X n xc] w (Ret (fun v w' => v = .bool true ∧ Ch No w w')) := by
 obtain ⟨R, hRe, hR⟩ := side_of r
 obtain ⟨C, hCe, hC⟩ := side_of c
 obtain ⟨NN, hN⟩ : ∃ NN, NN = R * C := ⟨_, rfl⟩
 have hNb : NN ≤ 900 := by rw [hN]; exact Nat.mul_le_mul hR.2 hC.2
 have hN0 : 0 < NN := by rw [hN]; exact Nat.mul_pos hR.1 hC.1
 have hNm : (R : Int) * (C : Int) = (NN : Int) := by rw [hN, Int.natCast_mul]
 refine calls_of_VC (args := [.int .i64 r, .int .i64 c, .slice X n xc]) Tryz.func5 rfl Tryz.ntmps5 rfl (Qe (Qb (Om (Qd rfl) rfl (Qf (Qa (Qe (Qe ?_)))))))
 refine Qb (Oq (Qi Tryz.call22 rfl (law24_fixed E _ er st ((tab).up (by omega)) (by omega))) rfl ?_)
 rintro _ w1 ⟨rfl, c1⟩
 have z1 := c1.size
 refine Om (Ro rfl) rfl (Qf (Qa (Ca rfl (Qn (Qa (Qe (Qb ?_)))))))
 refine Om (Qc rfl) rfl (Om (Rn.conv υ3 υ44 rfl) rfl ?_)
 refine Om (Rs rfl rfl (by rw [IntKind.wrap_u64]; omega) (by decide)) rfl ?_
 refine Om (Rn.conv_in υ44 υ3 rfl (by rw [IntKind.wrap_i64]; omega)) rfl ?_
 refine Om (Rn.castI hRe (Ce rfl rfl (by rw [IntKind.wrap_i64]; omega))) rfl ?_
 refine Om (Qc rfl) rfl (Om (Rn.conv υ3 υ44 rfl) rfl ?_)
 refine Om (Rs rfl rfl (by rw [IntKind.wrap_u64]; omega) (by decide)) rfl ?_
 refine Om (Rn.conv_in υ44 υ3 rfl (by rw [IntKind.wrap_i64]; omega)) rfl ?_
 refine Om (Rn.castI hCe (Ce rfl rfl (by rw [IntKind.wrap_i64]; omega))) rfl ?_
 refine Om (Qd rfl) rfl (Om (Qd rfl) rfl (Qf (Qa (Qe (Qb (Om (Qc rfl) rfl (Om (Qc rfl) rfl ?_)))))))
 refine Om (Cl rfl (bld46_0_1w97 rfl)) rfl (Oq (Cc ζ46) rfl ?_)
 rintro _ w2 ⟨p2, rfl, N2⟩
 have c2 := N2.ch
 have e2 := N2.p; have z2 := N2.size
 have b7 := Bk.new N2
 refine Oz (Cf ς46 rfl rfl rfl rfl b7 (Nat.le_of_ble_eq_true rfl)) rfl ?_
 intro _ w3 Z3
 have c3 := Z3.ch; have z3 := Z3.size
 have b7_3 := Bk.put Z3
 refine Qf (Qa (Qe (Qe (Qb (Om (Qd rfl) rfl (Qf (Qa ?_)))))))
 refine Qw ?_
 have cc_0_3 : Ch No w w3 := (Ch.then (E := No) (c1.and c2) c3 (by intro q h1 h2; rcases h2 with h2 | h2 <;> first | exact h2 | (exfalso; omega)))
 have sx_3 := sx.keep cc_0_3
 have st_3 := st.keep cc_0_3
 have tab_3 := tab.keep cc_0_3
 have CH_3 := (Ch.refl (No) w).and cc_0_3
 refine Cp (σ := Nat × Nat × Option Addr × Nat × List CB) (fun (i, r1, A1, c1, os) => [(0, .int .i64 R), (1, .int .i64 C), (2, .slice X n xc), (7, .pointer (some ⟨p2, 0, none⟩)), (8, .int .i64 i)]) (fun (i, r1, A1, c1, os) w' => i ≤ NN ∧ (r1 = 0 ∨ w.heap.size < r1) ∧ ¬ r1 = p2 + 1 ∧ (∀ m, NzC (cx (os.getD m (0, 0)))) ∧ w3.heap.size ≤ w'.heap.size ∧ CR 33 w' r1 A1 i c1 os ∧ Bk w' p2 #[.int .i64 R, .int .i64 C, .slice A1 i c1] 46 ∧ SlR SX w' X n 1 (bs.map BV) ∧ StT w' ∧ TabB w.heap.size w' ∧ Ch (No) w w') (fun (i, r1, A1, c1, os) => NN - i) (0, 0, none, 0, []) ?_ ⟨rfl, rfl, rfl, rfl, rfl, trivial⟩ ?_
 · exact ⟨(by omega), (.inl rfl), (by omega), (fun m => z0_nz), (Nat.le_refl _), (Ow.nil _ _ _), b7_3, sx_3, st_3, tab_3, CH_3⟩
 rintro ⟨i, r1, A1, c1, os⟩ w4 ⟨hile, hr1, hrc, hzo, hsz4, gc_4, b7_4, sx_4, st_4, tab_4, CH_4⟩
 show VC _ _ _ _ [(0, .int .i64 R), (1, .int .i64 C), (2, .slice X n xc), (7, .pointer (some ⟨p2, 0, none⟩)), (8, .int .i64 i)] _
 have yg9 := Ow.lt gc_4
 have hmd : 0 < (n : Int) → 0 ≤ (i : Int) % (n : Int) ∧ (i : Int) % (n : Int) < n := fun h => emod_bd h
 refine Qe (Qe (Qb (Om (Qc rfl) rfl (Om (Qc rfl) rfl (Om (Qc rfl) rfl ?_)))))
 refine Om (Cv rfl rfl (by rw [IntKind.wrap_i64]; omega)) rfl ?_
 refine Om (Cs rfl rfl) rfl (Qf (Qa (Qj rfl (fun hc1 => ?_) (fun hc1 => ?_))))
 ·
  refine Qn (Qa (Qe (Qw (Qe (Qb (Om (Qd rfl) rfl (Qf ?_)))))))
  refine Qa (VC.cut (σ := Nat) (fun z => [(0, .int .i64 R), (1, .int .i64 C), (2, .slice X n xc), (7, .pointer (some ⟨p2, 0, none⟩)), (8, .int .i64 i), (9, .float .f64 z)]) (fun z w' => z % 2 ^ 63 = 0 ∧ w4.heap.size ≤ w'.heap.size ∧ CR 33 w' r1 A1 i c1 os ∧ Bk w' p2 #[.int .i64 R, .int .i64 C, .slice A1 i c1] 46 ∧ SlR SX w' X n 1 (bs.map BV) ∧ StT w' ∧ TabB w.heap.size w' ∧ Ch No w w') ?_ ?_)
  ·
   refine Qe (Qb (Om (Qc rfl) rfl (Om (Ra υ43 rfl) rfl (Om (Rb rfl rfl) rfl (Om (Qc rfl) rfl ?_)))))
   refine Rc (b := _) 8 40 48 rfl (fun hc2 Jhc2 => by
     try simp only [bX] at hc2
     refine Om (Qc rfl) rfl (Om (Qc rfl) rfl (Om (Qc rfl) rfl (Om (Ra υ43 rfl) rfl (Om (Rs rfl rfl (by omega) (by omega)) rfl (Om (Cb υ43 ς4 rfl rfl (sx_4.ne (by omega)) (by omega) (by omega)) rfl (Om (Qh ι4 rfl ((sx_4).getB (by omega) (by omega))) rfl (Om (Qt rfl rfl) rfl ?_)))))))
     exact (Qs rfl (Qs rfl (Qs rfl (Qs rfl (Qs rfl (Qs rfl (Qs rfl Jhc2)))))))) (fun hc2 Jhc2 => by
     refine Oy rfl (Oy rfl (Oy rfl (Oy rfl (Oy rfl (Oy rfl (Oy rfl (Om (Qm rfl rfl) rfl ?_)))))))
     exact (Qs rfl (Qs rfl (Qs rfl (Qs rfl (Qs rfl (Qs rfl (Qs rfl Jhc2)))))))) ?_
   refine Qf (Qa (Cu rfl (fun hc3 => ?_) (fun hc3 => ?_)))
   ·
    try simp only [bX] at hc3
    refine Qb (Oq (Qi Tryz.call23 rfl (math_Copysign _)) rfl ?_)
    rintro _ _ ⟨rfl, rfl⟩
    refine Om (Qd rfl) rfl (Qf (VQ.cut _ ?_ ⟨rfl, rfl, rfl, rfl, rfl, rfl, trivial⟩))
    exact ⟨rfl, by omega, gc_4, b7_4, sx_4, st_4, tab_4, CH_4⟩
   ·
    try simp only [bX] at hc3
    refine Qn (VQ.cut _ ?_ ⟨rfl, rfl, rfl, rfl, rfl, rfl, trivial⟩)
    exact ⟨rfl, by omega, gc_4, b7_4, sx_4, st_4, tab_4, CH_4⟩
  rintro z w5 ⟨hz9, hszx5, gc_5, b7_5, sx_5, st_5, tab_5, CH_5⟩
  show VC _ _ _ _ [(0, .int .i64 R), (1, .int .i64 C), (2, .slice X n xc), (7, .pointer (some ⟨p2, 0, none⟩)), (8, .int .i64 i), (9, .float .f64 z)] _
  refine Qb (Om (Qg υ46 rfl ς31 rfl rfl rfl) rfl (Om (Qh ι31 rfl (b7_5.cell rfl)) rfl (Om (Qc rfl) rfl (Om (Ru rfl rfl) rfl (Oq (Cy υ31 inf33w97 (by decide) rfl rfl (by rfl) (by decide) (by decide) (by rfl)) rfl ?_)))))
  rintro _ w6 ⟨p6, rfl, N6⟩
  have c6 := N6.ch
  have e6 := N6.p; have z6 := N6.size
  have l54 := SlR.of_new (sz := 1) (l := 1) N6 rfl
  have l54o := Ow.of_new (sz := 1) (l := 1) N6 rfl (by decide)
  have gc_6 := gc_5.keep c6
  refine Oq (Cq (S := _) υ31 inf33w97 rfl (by decide) rfl rfl gc_6 l54 (by rfl) (fun h => by simp at h) (by omega) (by simp only [maxLen]; omega)) rfl ?_
  rintro _ w7 ⟨r7, A7, k7, rfl, o7, c7, q7⟩
  have z7 := c7.size
  have y7 := o7.lt
  refine Om (Qg υ46 rfl ς31 rfl rfl rfl) rfl ?_
  have b7_6 := b7_5.keep c6
  have b7_7 := b7_6.to c7
  refine Oz (Rh ς31 rfl rfl rfl rfl b7_7 rfl) rfl ?_
  intro _ w8 Z8
  have c8 := Z8.ch; have z8 := Z8.size
  have b7_8 := Bk.put Z8
  refine Qf (Qo (Qa (Qb (Om (Qc rfl) rfl ?_))))
  refine Om (Ce rfl rfl (by rw [IntKind.wrap_i64]; omega)) rfl ?_
  refine Om (Qd rfl) rfl (Qf ?_)
  refine Ck (i + 1, r7, A7, k7, os ++ [(z, 0)]) (by first | omega | (dsimp only; omega)) ?_ ⟨rfl, rfl, rfl, rfl, rfl, trivial⟩
  have gc_8 := o7.to c8
  have sx_6 := sx_5.keep c6
  have sx_7 := sx_6.to c7 (by first | exact fun _ _ _ _ => id | (intro q h1 h2 hx h3; have := hX q h2; omega))
  have sx_8 := sx_7.to c8 (by first | exact fun _ _ _ _ => id | (intro q h1 h2 hx h3; have := hX q h2; omega))
  have st_6 := st_5.keep c6
  have st_7 := st_6.to c7
  have st_8 := st_7.to c8
  have tab_6 := tab_5.keep c6
  have tab_7 := tab_6.to c7
  have tab_8 := tab_7.to c8
  have CH_6 := CH_5.and c6
  have CH_7 : Ch (No) w w7 := CH_6.then c7
  have CH_8 : Ch (No) w w8 := CH_7.then c8
  exact ⟨(by omega), (by omega), (by omega), (nz_snoc hzo hz9), (by omega), (by show Ow _ _ _ _ _ _ _ (List.map cxV (os ++ _)); rw [List.map_append]; exact gc_8), b7_8, sx_8, st_8, tab_8, CH_8⟩
 ·
  refine Cr (Qk (Qk (Qz (Qa (Qe ?_)))))
  obtain rfl : NN = i := by omega
  obtain ⟨GG, hGe⟩ : ∃ GG : Nat → Nat → Cx, GG = fun i j => cx (os.getD (i * C + j) (0, 0)) := ⟨_, rfl⟩
  have hgg : GrX R C GG os := ⟨(CR.len gc_4).trans hN, fun i j _ _ => by rw [hGe]⟩
  have hGG : ∀ i j, NzC (GG i j) := fun i j => by rw [hGe]; exact hzo _
  refine Qb (Om (Qr ι46 ς46 rfl rfl (b7_4.all' rfl)) rfl ?_)
  refine Oq (Qi Tryz.call24 rfl (grid_Forward _ R C NN _ _ os GG _ (gc_4).sl (fun q hq => by have := Ow.lt gc_4; omega) hR hC hN hgg st_4 ((tab_4).up (by omega)) (by omega))) rfl ?_
  rintro _ w9 ⟨r9, A9, k9, os_fw, rfl, fw9, hg_fw, yg9, c9⟩
  have yw9 := Ow.lt fw9
  have z9 := c9.size
  refine Om (Qc rfl) rfl (Om (Qq rfl rfl) rfl (Om (Qq rfl rfl) rfl (Oq (Cc ζ46) rfl ?_)))
  rintro _ w10 ⟨p10, rfl, N10⟩
  have c10 := N10.ch
  have e10 := N10.p; have z10 := N10.size
  have b10 := Bk.new N10
  refine Oz (Cf ς46 rfl rfl rfl rfl b10 (Nat.le_of_ble_eq_true rfl)) rfl ?_
  intro _ w11 Z11
  have c11 := Z11.ch; have z11 := Z11.size
  have b10_11 := Bk.put Z11
  refine Om (Qd rfl) rfl (Qf (Qa (Qe (Qb ?_))))
  have cc_4_11 : Ch No w4 w11 := (Ch.then (E := No) (c9.and c10) c11 (by intro q h1 h2; rcases h2 with h2 | h2 <;> first | exact h2 | (exfalso; omega)))
  have b7_11 := b7_4.keep cc_4_11
  refine Om (Qr ι46 ς46 rfl rfl (b7_11.all' rfl)) rfl ?_
  have gc_11 := gc_4.keep cc_4_11
  have st_11 := st_4.keep cc_4_11
  have tab_11 := tab_4.keep cc_4_11
  refine Oq (Qi Tryz.call25 rfl (grid_Inverse _ R C NN _ _ os GG _ (gc_11).sl (fun q hq => by have := Ow.lt gc_11; omega) hR hC hN hgg st_11 ((tab_11).up (by omega)) (by omega))) rfl ?_
  rintro _ w12 ⟨r12, A12, k12, os_bk, rfl, bk12, hg_bk, yg12, c12⟩
  have yw12 := Ow.lt bk12
  have z12 := c12.size
  refine Om (Qc rfl) rfl (Om (Qq rfl rfl) rfl (Om (Qq rfl rfl) rfl (Oq (Cc ζ46) rfl ?_)))
  rintro _ w13 ⟨p13, rfl, N13⟩
  have c13 := N13.ch
  have e13 := N13.p; have z13 := N13.size
  have b12 := Bk.new N13
  refine Oz (Cf ς46 rfl rfl rfl rfl b12 (Nat.le_of_ble_eq_true rfl)) rfl ?_
  intro _ w14 Z14
  have c14 := Z14.ch; have z14 := Z14.size
  have b12_14 := Bk.put Z14
  refine Om (Qd rfl) rfl (Qf (Qa (Qe (Qe (Qb (Om (Qc rfl) rfl (Om (Cg υ28 rfl) rfl ?_)))))))
  refine Om (Qc rfl) rfl (Om (Qc rfl) rfl (Om (Cg υ28 rfl) rfl (Om (Qm rfl rfl) rfl (Om (Qc rfl) rfl (Om (Qg υ46 rfl ς31 rfl rfl rfl) rfl ?_)))))
  have cc_11_14 : Ch No w11 w14 := (Ch.then (E := No) (c12.and c13) c14 (by intro q h1 h2; rcases h2 with h2 | h2 <;> first | exact h2 | (exfalso; omega)))
  have b10_14 := b10_11.keep cc_11_14
  refine Om (Qh ι31 rfl (b10_14.cell rfl)) rfl (Om (Ra υ31 rfl) rfl (Om (Qc rfl) rfl (Om (Qc rfl) rfl ?_)))
  refine Om (Cv rfl rfl (by rw [IntKind.wrap_i64]; omega)) rfl ?_
  refine Om (Rn.neqF rfl rfl (by omega)) rfl (Om (Qm rfl rfl) rfl (Om (Qc rfl) rfl (Om (Qg υ46 rfl ς31 rfl rfl rfl) rfl (Om (Qh ι31 rfl (b12_14.cell rfl)) rfl (Om (Ra υ31 rfl) rfl (Om (Qc rfl) rfl (Om (Qc rfl) rfl ?_)))))))
  refine Om (Cv rfl rfl (by rw [IntKind.wrap_i64]; omega)) rfl ?_
  refine Om (Rn.neqF rfl rfl (by omega)) rfl (Om (Qm rfl rfl) rfl (Qf (Qa (Ca rfl (Qn (Qa (Qe ?_)))))))
  refine Qe (Qb (Om (Qg υ46 rfl ς31 rfl rfl rfl) rfl (Om (Qh ι31 rfl (b10_14.cell rfl)) rfl (Om (Ra υ31 rfl) rfl (Om (Qc rfl) rfl (Qf (Qa ?_)))))))
  refine Qw ?_
  have cc_9_14 : Ch No w9 w14 := (Ch.then (E := No) (((Ch.then (E := No) c10 c11 (by intro q h1 h2; rcases h2 with h2 | h2 <;> first | exact h2 | (exfalso; omega))).and c12).and c13) c14 (by intro q h1 h2; rcases h2 with h2 | h2 <;> first | exact h2 | (exfalso; omega)))
  have fw_14 := fw9.keep cc_9_14
  have cc_12_14 : Ch No w12 w14 := (Ch.then (E := No) c13 c14 (by intro q h1 h2; rcases h2 with h2 | h2 <;> first | exact h2 | (exfalso; omega)))
  have bk_14 := bk12.keep cc_12_14
  have cc_4_14 : Ch No w4 w14 := (Ch.then (E := No) (((Ch.then (E := No) (c9.and c10) c11 (by intro q h1 h2; rcases h2 with h2 | h2 <;> first | exact h2 | (exfalso; omega))).and c12).and c13) c14 (by intro q h1 h2; rcases h2 with h2 | h2 <;> first | exact h2 | (exfalso; omega)))
  have CH_14 := CH_4.and cc_4_14
  refine Cp (σ := Nat) (fun i => [(10, .pointer (some ⟨p10, 0, none⟩)), (12, .pointer (some ⟨p13, 0, none⟩)), (93, .int .i64 NN), (94, .int .i64 i)]) (fun i w' => i ≤ NN ∧ w14.heap.size ≤ w'.heap.size ∧ CR 33 w' r9 A9 NN k9 os_fw ∧ CR 33 w' r12 A12 NN k12 os_bk ∧ Bk w' p10 #[.int .i64 R, .int .i64 C, .slice A9 NN k9] 46 ∧ Bk w' p13 #[.int .i64 R, .int .i64 C, .slice A12 NN k12] 46 ∧ Ch (No) w w') (fun i => NN - i) 0 ?_ ⟨rfl, rfl, rfl, rfl, trivial⟩ ?_
  · exact ⟨(by omega), (Nat.le_refl _), fw_14, bk_14, b10_14, b12_14, CH_14⟩
  rintro i w15 ⟨hile, hsz15, fw_15, bk_15, b10_15, b12_15, CH_15⟩
  show VC _ _ _ _ [(10, .pointer (some ⟨p10, 0, none⟩)), (12, .pointer (some ⟨p13, 0, none⟩)), (93, .int .i64 NN), (94, .int .i64 i)] _
  refine Qe (Qb (Om (Cs rfl rfl) rfl (Qf (Qa (Qe (Qj rfl (fun hc4 => ?_) (fun hc4 => ?_)))))))
  ·
   refine Qn (Qa (Qe (Qw (Qe (Qb (Om (Qc rfl) rfl (Om (Qd rfl) rfl ?_)))))))
   refine Qf (Qa (Qe (Qb (Om (Qg υ46 rfl ς31 rfl rfl rfl) rfl (Om (Qh ι31 rfl (b10_15.cell rfl)) rfl (Om (Qc rfl) rfl (Om (Cb υ31 ς33 rfl rfl (fw_15.sl.ne (by omega)) (by omega) (by omega)) rfl ?_)))))))
   refine Om (Qh ι33 rfl (fw_15.sl.getC (by omega) (by omega))) rfl (Om (Rn.cneqF rfl rfl (hg_fw.nz hC.1 (gk_nz grF_nz hR hC hGG 2) (by omega))) rfl (Om (Qc rfl) rfl (Om (Qg υ46 rfl ς31 rfl rfl rfl) rfl (Om (Qh ι31 rfl (b12_15.cell rfl)) rfl (Om (Qc rfl) rfl (Om (Cb υ31 ς33 rfl rfl (bk_15.sl.ne (by omega)) (by omega) (by omega)) rfl (Om (Qh ι33 rfl (bk_15.sl.getC (by omega) (by omega))) rfl ?_)))))))
   refine Om (Rn.cneqF rfl rfl (hg_bk.nz hC.1 (gk_nz grI_nz hR hC hGG 2) (by omega))) rfl (Om (Qm rfl rfl) rfl (Qf (Qa (Ca rfl (Qn (Qo (Qa ?_)))))))
   refine Qb ?_
   refine Om (Ce rfl rfl (by rw [IntKind.wrap_i64]; omega)) rfl ?_
   refine Om (Qc rfl) rfl (Qf ?_)
   refine Ck (i + 1) (by first | omega | (dsimp only; omega)) ?_ ⟨rfl, rfl, rfl, rfl, trivial⟩
   exact ⟨(by omega), (by omega), fw_15, bk_15, b10_15, b12_15, CH_15⟩
  ·
   refine Cr (Qk (Qk (Qz (Qa (Qe (Qb (Om (Qd rfl) rfl ?_)))))))
   refine Qf (Qa (Qp (Qy rfl rfl (Ret.mk ?_))))
   exact ⟨rfl, CH_15⟩
end Go.Tm
