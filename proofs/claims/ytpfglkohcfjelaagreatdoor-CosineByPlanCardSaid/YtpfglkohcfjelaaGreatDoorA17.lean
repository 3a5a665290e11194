/- Lemmas of this claim, joined by program. Walks of functions: the law CosineByPlan. Conditions: each lemma names its own. -/
import Derived.Test.YtpfglkohcfjelaaGreatDoorA16
set_option linter.all false
namespace Go.Tm
open Go.RowKit Go.Proofs
theorem cosF_one (h : UsG 1) (X : Nat → Fl) : cosF 1 X 0 = X 0 := by
  have e : vL 1 X = [(X 0, fl0)] := rfl
  unfold cosF
  rw [e, fwdG_one h]; rfl
theorem cosI_one (h : UsG 1) (X : Nat → Fl) (h1 : FlOk (X 0)) : cosI 1 X 0 = X 0 := by
  have e : zL 1 X = [(X 0, fl0)] := rfl
  have h2 := invG_one h (X 0, fl0) h1
  unfold cosI
  rw [e]
  obtain ⟨y, hy, h3⟩ := map_one h2
  rw [hy]
  exact h3
theorem RowI.over {n j : Nat} {f : Nat → Cx} {zs : List CB} (h : RowI n j (fun i => i) f zs) (hj : j < n) (z : CB) : RowI n j (fun i => i) f (zs.set j z) := by
  refine ⟨by rw [List.length_set]; exact h.len, fun i hi => ?_⟩
  rw [set_getD (by rw [h.len]; exact hj), if_neg (by omega)]
  exact h.get i hi
set_option maxRecDepth 100000 in
theorem inf32w90 : Inf Tryz.prog 32 (.float .f64 0) 1 8 := ⟨Tryz.t32, Tryz.type32, rfl, rfl, rfl⟩
set_option maxRecDepth 100000 in
theorem inf33w90 : Inf Tryz.prog 33 (.complex .f64 0 0) 1 16 := ⟨Tryz.t33, Tryz.type33, rfl, rfl, rfl⟩
set_option maxRecDepth 100000 in
theorem ref_Bits (a : Nat) (w : World) :
  Calls Tryz.prog 52 #[.float .f64 a] w (Ret (fun v w' => v = .int .u64 (bitF a : Nat) ∧ w = w')) := by
 refine calls_of_VC (args := [.float .f64 a]) Tryz.func52 rfl Tryz.ntmps52 rfl (Qe (Qb (Om (Qd rfl) rfl (Qf (Qa (Qe (Qb ?_)))))))
 refine Om (Qc rfl) rfl (Om (Rn.fromf Tryz.func58 (by kernel_rfl) rfl (by kernel_rfl) (by kernel_rfl) rfl) rfl (Om (Qd rfl) rfl (Qf (Qa (Qe (Qe (Qb ?_)))))))
 refine Om (Qc rfl) rfl (Om (Rx rfl rfl (by omega) (by omega)) rfl (Om (Rb rfl rfl) rfl (Qf (Qa (Qj rfl (fun hc1 => ?_) (fun hc1 => ?_))))))
 ·
  refine Qe (Qb (Om (Qd rfl) rfl (Qf (Qa (Qr (Qs (Qx rfl rfl ?_)))))))
  refine Ret.mk ?_
  exact ⟨by unfold bitF; rw [if_pos (by omega)]; rfl, rfl⟩
 ·
  refine Qn (Qa (Qe (Qb (Om (Qc rfl) rfl (Om (Qd rfl) rfl (Qf (Qa ?_)))))))
  refine Qr (Qx rfl rfl (Ret.mk ?_))
  exact ⟨by unfold bitF; rw [if_neg (by omega)], rfl⟩
set_option maxRecDepth 100000 in
theorem ref_SameT (a b : Nat) (h : cn a = cn b) (w : World) :
  Calls Tryz.prog 19 #[.float .f64 a, .float .f64 b] w (Ret (fun v w' => v = .bool true ∧ w = w')) := by
 have he := bitF_same h
 refine calls_of_VC (args := [.float .f64 a, .float .f64 b]) Tryz.func19 rfl Tryz.ntmps19 rfl (Qe (Qb (Om (Qd rfl) rfl (Qf (Qa (Qe (Qb ?_)))))))
 refine Om (Qc rfl) rfl (Oq (Qi Tryz.call52 rfl (ref_Bits _ _)) rfl ?_)
 rintro _ _ ⟨rfl, rfl⟩
 refine Om (Qc rfl) rfl (Oq (Qi Tryz.call52 rfl (ref_Bits _ _)) rfl ?_)
 rintro _ _ ⟨rfl, rfl⟩
 refine Om (Rn.eqlT rfl rfl (by rw [he])) rfl (Om (Qd rfl) rfl (Qf (Qa (Qr (Qx rfl rfl (Ret.mk ?_))))))
 exact ⟨rfl, rfl⟩
set_option maxRecDepth 100000 in
theorem law23_floats (SX : Nat → Prop) (X : Option Addr) (n xc : Nat) (bs : List Int) (w : World) (sx : SlR SX w X n 1 (bs.map UV)) (hX : ∀ q, SX q → q < w.heap.size) (hn : n ≤ 17592186044416)  :
  Calls Tryz.prog 12 #[.slice X n xc] w (Ret (fun v w' => ∃ r A c, v = .slice A n c ∧ FR 32 w' r A n c (flO bs) ∧ w.heap.size < r ∧ Ch No w w')) := by
 have hbl : bs.length = n := by have := sx.len; simpa using this
 refine calls_of_VC (args := [.slice X n xc]) Tryz.func12 rfl Tryz.ntmps12 rfl (Qe (Qb (Om (Qd rfl) rfl (Qf (Qa (Qe (Qb ?_)))))))
 refine Oq (Wk.lit0 υ24 inf32w90) rfl ?_
 rintro _ w1 ⟨p1, rfl, N1⟩
 have c1 := N1.ch
 have e1 := N1.p; have z1 := N1.size
 have l6o := Ow.of_new (cs := []) (sz := 1) (l := 0) N1 rfl (by decide)
 refine Om (Qd rfl) rfl (Qf (Qa (Qe (Qe (Qb (Om (Qc rfl) rfl (Om (Cu υ22 rfl) rfl ?_)))))))
 refine Om (Qc rfl) rfl (Qf (Qa (Qu ?_)))
 have sx_1 := sx.keep c1
 have CH_1 := (Ch.refl (No) w).and c1
 refine Cq (σ := Nat × Nat × Option Addr × Nat) (fun (j, r2, A2, c2) => [(3, .slice A2 j c2), (7, .slice X n xc), (8, .int .i64 n), (9, .int .i64 j)]) (fun (j, r2, A2, c2) w' => j ≤ n ∧ w.heap.size < r2 ∧ w1.heap.size ≤ w'.heap.size ∧ Ow w' r2 32 1 A2 j c2 (((flO bs).take j).map flV) ∧ SlR SX w' X n 1 (bs.map UV) ∧ Ch (No) w w') (fun (j, r2, A2, c2) => n - j) (0, (p1 + 1), (some ⟨p1, 0, none⟩), 0) ?_ ⟨rfl, rfl, rfl, rfl, trivial⟩ ?_
 · exact ⟨(by omega), (by omega), (Nat.le_refl _), l6o, sx_1, CH_1⟩
 rintro ⟨j, r2, A2, c2⟩ w2 ⟨hj, hr2, hsz2, row_2, sx_2, CH_2⟩
 show VC _ _ _ _ [(3, .slice A2 j c2), (7, .slice X n xc), (8, .int .i64 n), (9, .int .i64 j)] _
 refine Qe (Qb (Om (Cs rfl rfl) rfl (Qf (Qa (Qe (Qj rfl (fun hc1 => ?_) (fun hc1 => ?_)))))))
 ·
  refine Qn (Qa (Qe (Qu (Qe (Qb (Om (Qy υ22 Tryz.sizeOf74 rfl rfl (sx_2.ne (by omega)) (by omega) (by omega)) rfl (Om (Qh Tryz.isAgg74 rfl ((sx_2).getU (by omega) (by omega))) rfl ?_)))))))
  refine Om (Qd rfl) rfl (Qf (Qa (Qb (Om (Qc rfl) rfl (Om (Qc rfl) rfl (Om (Rn.fbits Tryz.func43 (by kernel_rfl) rfl (by kernel_rfl) (by kernel_rfl) rfl) rfl (Oq (Cv υ24 inf32w90 (by decide) rfl rfl (by rfl) (by decide) (by decide) (by rfl)) rfl ?_)))))))
  rintro _ w3 ⟨p3, rfl, N3⟩
  have c3 := N3.ch
  have e3 := N3.p; have z3 := N3.size
  have l16 := SlR.of_new (sz := 1) (l := 1) N3 rfl
  have l16o := Ow.of_new (sz := 1) (l := 1) N3 rfl (by decide)
  have row_3 := row_2.keep c3
  refine Oq (Cp (S := _) υ24 inf32w90 rfl (by decide) rfl rfl row_3 l16 (by rfl) (fun h => by simp at h) (by omega) (by simp only [maxLen]; omega)) rfl ?_
  rintro _ w4 ⟨r4, A4, k4, rfl, o4, c4, q4⟩
  have z4 := c4.size
  have y4 := o4.lt
  refine Om (Qd rfl) rfl (Qf (Qp (Qa (Qb ?_))))
  refine Om (Ce rfl rfl (by rw [IntKind.wrap_i64]; omega)) rfl ?_
  refine Om (Qc rfl) rfl (Qf ?_)
  refine Cj (j + 1, r4, A4, k4) (by first | omega | (dsimp only; omega)) ?_ ⟨rfl, rfl, rfl, rfl, trivial⟩
  have sx_3 := sx_2.keep c3
  have sx_4 := sx_3.to c4 (by first | exact fun _ _ _ _ => id | (intro q h1 h2 hx h3; have := hX q h2; omega))
  have CH_3 := CH_2.and c3
  have CH_4 : Ch (No) w w4 := CH_3.then c4
  exact ⟨(by omega), (by omega), (by omega), (by rw [flO_take (by omega)]; exact o4), sx_4, CH_4⟩
 ·
  refine Ct (Qm (Qm (Ca (Qa (Qe (Qb (Om (Qc rfl) rfl ?_)))))))
  refine Om (Qd rfl) rfl (Qf (Qa (Qr (Qx rfl rfl (Ret.mk ?_)))))
  obtain rfl : j = n := by omega
  have o9 := row_2; rw [flO_all hbl] at o9
  exact ⟨_, _, _, rfl, o9, hr2, CH_2⟩
set_option maxRecDepth 100000 in
theorem law23_livesG (w : World) (st : StT w) (tab : TabB w.heap.size w) (hG : 24 ≤ w.heap.size) :
  Calls Tryz.prog 11 #[] w (Ret (fun v w' => v = .bool true ∧ Ch No w w')) := by
 refine calls_of_VC (args := []) Tryz.func11 rfl Tryz.ntmps11 rfl (Qe (Qb (Om (Qd rfl) rfl (Qf (Qa (Qe (Qb ?_)))))))
 refine Oq (Cv υ24 inf32w90 (by decide) rfl rfl (by rfl) (by decide) (by decide) (by rfl)) rfl ?_
 rintro _ w1 ⟨p1, rfl, N1⟩
 have c1 := N1.ch
 have e1 := N1.p; have z1 := N1.size
 have l8 := SlR.of_new (sz := 1) (l := 2) N1 rfl
 have l8o := Ow.of_new (sz := 1) (l := 2) N1 rfl (by decide)
 refine Oq (Qi Tryz.call20 rfl (cos_SumG _ _ 2 _ [4607182418800017408, 4611686018427387904] _ l8 (fun q hq => by omega) (by omega))) rfl ?_
 rintro _ w2 ⟨q2, zs2, rfl, su2, hs2, e2, c2⟩
 have yl2 := Ow.lt su2
 have z2 := c2.size
 refine Om (Qc rfl) rfl (Om (Qo rfl rfl) rfl (Om (Qo rfl rfl) rfl (Om (Qd rfl) rfl (Om (Qd rfl) rfl (Qf (Qa (Qe ?_)))))))
 refine Qb (Oq (Cv υ24 inf32w90 (by decide) rfl rfl (by rfl) (by decide) (by decide) (by rfl)) rfl ?_)
 rintro _ w3 ⟨p3, rfl, N3⟩
 have c3 := N3.ch
 have e3 := N3.p; have z3 := N3.size
 have l13 := SlR.of_new (sz := 1) (l := 1) N3 rfl
 have l13o := Ow.of_new (sz := 1) (l := 1) N3 rfl (by decide)
 have st_3 := st.keep (c1.trans (c2.trans c3))
 have tab_3 := tab.keep (c1.trans (c2.trans c3))
 refine Oq (Qi Tryz.call17 rfl (cos_ForwardG _ _ 1 _ [4617315517961601024] _ l13 (fun q hq => by omega) ⟨by omega, by omega⟩ st_3 ((tab_3).up (by omega)) (by omega))) rfl ?_
 rintro _ w4 ⟨q4, zs4, rfl, fo4, hf4, us4, e4, c4⟩
 have yl4 := Ow.lt fo4
 have z4 := c4.size
 refine Om (Qc rfl) rfl (Om (Qo rfl rfl) rfl (Om (Qo rfl rfl) rfl (Om (Qd rfl) rfl (Om (Qd rfl) rfl (Qf (Qa (Qe ?_)))))))
 refine Qb (Oq (Cv υ24 inf32w90 (by decide) rfl rfl (by rfl) (by decide) (by decide) (by rfl)) rfl ?_)
 rintro _ w5 ⟨p5, rfl, N5⟩
 have c5 := N5.ch
 have e5 := N5.p; have z5 := N5.size
 have l18 := SlR.of_new (sz := 1) (l := 1) N5 rfl
 have l18o := Ow.of_new (sz := 1) (l := 1) N5 rfl (by decide)
 have st_5 := st_3.keep (c4.trans c5)
 have tab_5 := tab_3.keep (c4.trans c5)
 refine Oq (Qi Tryz.call18 rfl (cos_InverseG _ _ 1 _ [4619567317775286272] _ l18 (fun q hq => by omega) ⟨by omega, by omega⟩ st_5 ((tab_5).up (by omega)) (by omega))) rfl ?_
 rintro _ w6 ⟨q6, zs6, rfl, io6, hy6, us6, e6, c6⟩
 have yl6 := Ow.lt io6
 have z6 := c6.size
 refine Om (Qc rfl) rfl (Om (Qo rfl rfl) rfl (Om (Qo rfl rfl) rfl (Om (Qd rfl) rfl (Om (Qd rfl) rfl (Qf (Qa (Qe ?_)))))))
 refine Qb (Om (Qc rfl) rfl (Om (Rv υ28 rfl) rfl (Om (Qc rfl) rfl (Om (Qc rfl) rfl (Om (Cu υ24 rfl) rfl (Om (Cf rfl rfl) rfl (Om (Qt rfl rfl) rfl ?_)))))))
 refine Om (Qc rfl) rfl ?_
 refine Cz (b := _) 5 29 34 rfl (fun hc1 Jhc1 => by
   try simp only [bX] at hc1
   refine Om (Qc rfl) rfl ?_
   have su_6 := su2.keep (c3.trans (c4.trans (c5.trans c6)))
   refine Om (Qy υ24 ς32 rfl rfl (su_6.sl.ne (by omega)) (by omega) (by omega)) rfl (Om (Qh ι32 rfl (su_6.sl.getF (by omega) (by omega))) rfl (Om (Rn.feqlT rfl rfl (feq_const ((hs2 0 (by omega)).trans (by kernel_rfl)) (by kernel_rfl) (by kernel_rfl))) rfl (Om (Qt rfl rfl) rfl ?_)))
   exact (Qq rfl (Qq rfl (Qq rfl (Qq rfl Jhc1))))) (fun hc1 Jhc1 => by
   refine Oy rfl (Oy rfl (Oy rfl (Oy rfl (Om (Qk rfl rfl) rfl ?_))))
   exact (Qq rfl (Qq rfl (Qq rfl (Qq rfl Jhc1))))) ?_
 refine Om (Qc rfl) rfl ?_
 refine Cz (b := _) 3 35 38 rfl (fun hc2 Jhc2 => by
   try simp only [bX] at hc2
   refine Om (Qc rfl) rfl (Om (Rv υ28 rfl) rfl (Om (Qt rfl rfl) rfl ?_))
   exact (Qq rfl (Qq rfl Jhc2))) (fun hc2 Jhc2 => by
   refine Oy rfl (Oy rfl (Om (Qk rfl rfl) rfl ?_))
   exact (Qq rfl (Qq rfl Jhc2))) ?_
 refine Om (Qc rfl) rfl ?_
 refine Cz (b := _) 4 39 43 rfl (fun hc3 Jhc3 => by
   try simp only [bX] at hc3
   refine Om (Qc rfl) rfl (Om (Cu υ24 rfl) rfl (Om (Cf rfl rfl) rfl (Om (Qt rfl rfl) rfl ?_)))
   exact (Qq rfl (Qq rfl (Qq rfl Jhc3)))) (fun hc3 Jhc3 => by
   refine Oy rfl (Oy rfl (Oy rfl (Om (Qk rfl rfl) rfl ?_)))
   exact (Qq rfl (Qq rfl (Qq rfl Jhc3)))) ?_
 refine Om (Qc rfl) rfl ?_
 refine Cz (b := _) 5 44 49 rfl (fun hc4 Jhc4 => by
   try simp only [bX] at hc4
   refine Om (Qc rfl) rfl ?_
   have fo_6 := fo4.keep (c5.trans c6)
   refine Om (Qy υ24 ς32 rfl rfl (fo_6.sl.ne (by omega)) (by omega) (by omega)) rfl (Om (Qh ι32 rfl (fo_6.sl.getF (by omega) (by omega))) rfl (Om (Rn.feqlT rfl rfl (feq_const ((hf4.get 0 (by omega)).trans (cosF_one us4 _)) (by kernel_rfl) (by kernel_rfl))) rfl (Om (Qt rfl rfl) rfl ?_)))
   exact (Qq rfl (Qq rfl (Qq rfl (Qq rfl Jhc4))))) (fun hc4 Jhc4 => by
   refine Oy rfl (Oy rfl (Oy rfl (Oy rfl (Om (Qk rfl rfl) rfl ?_))))
   exact (Qq rfl (Qq rfl (Qq rfl (Qq rfl Jhc4))))) ?_
 refine Om (Qc rfl) rfl ?_
 refine Cz (b := _) 3 50 53 rfl (fun hc5 Jhc5 => by
   try simp only [bX] at hc5
   refine Om (Qc rfl) rfl (Om (Rv υ28 rfl) rfl (Om (Qt rfl rfl) rfl ?_))
   exact (Qq rfl (Qq rfl Jhc5))) (fun hc5 Jhc5 => by
   refine Oy rfl (Oy rfl (Om (Qk rfl rfl) rfl ?_))
   exact (Qq rfl (Qq rfl Jhc5))) ?_
 refine Om (Qc rfl) rfl ?_
 refine Cz (b := _) 4 54 58 rfl (fun hc6 Jhc6 => by
   try simp only [bX] at hc6
   refine Om (Qc rfl) rfl (Om (Cu υ24 rfl) rfl (Om (Cf rfl rfl) rfl (Om (Qt rfl rfl) rfl ?_)))
   exact (Qq rfl (Qq rfl (Qq rfl Jhc6)))) (fun hc6 Jhc6 => by
   refine Oy rfl (Oy rfl (Oy rfl (Om (Qk rfl rfl) rfl ?_)))
   exact (Qq rfl (Qq rfl (Qq rfl Jhc6)))) ?_
 refine Om (Qc rfl) rfl ?_
 refine Cz (b := _) 5 59 64 rfl (fun hc7 Jhc7 => by
   try simp only [bX] at hc7
   refine Om (Qc rfl) rfl (Om (Qy υ24 ς32 rfl rfl (io6.sl.ne (by omega)) (by omega) (by omega)) rfl (Om (Qh ι32 rfl (io6.sl.getF (by omega) (by omega))) rfl (Om (Rn.feqlT rfl rfl (feq_const ((hy6.get 0 (by omega)).trans (cosI_one us6 _ (FlOk.cn (by decide)))) (by kernel_rfl) (by kernel_rfl))) rfl (Om (Qt rfl rfl) rfl ?_))))
   exact (Qq rfl (Qq rfl (Qq rfl (Qq rfl Jhc7))))) (fun hc7 Jhc7 => by
   refine Oy rfl (Oy rfl (Oy rfl (Oy rfl (Om (Qk rfl rfl) rfl ?_))))
   exact (Qq rfl (Qq rfl (Qq rfl (Qq rfl Jhc7))))) ?_
 refine Om (Qd rfl) rfl (Qf (Qa (Qr (Qx rfl rfl (Ret.mk ?_)))))
 have CH_6 := (Ch.refl (No) w).and (c1.trans (c2.trans (c3.trans (c4.trans (c5.trans c6)))))
 exact ⟨rfl, CH_6⟩
set_option maxHeartbeats 2000000 in
set_option maxRecDepth 100000 in
theorem law_ByPlan (SX : Nat → Prop) (X : Option Addr) (n xc : Nat) (bs : List Int) (w : World) (sx : SlR SX w X n 1 (bs.map UV)) (hX : ∀ q, SX q → q < w.heap.size) (hn : n ≤ 17592186044404) (st : StT w) (tab : TabB w.heap.size w) (hG : 24 ≤ w.heap.size) :
  Calls Tryz.prog 3 #[.slice X n xc] w (Ret (fun v w' => v = .bool true ∧ Ch No w w')) := by
 have hbl : bs.length = n := by have := sx.len; simpa using this
 refine calls_of_VC (args := [.slice X n xc]) Tryz.func3 rfl Tryz.ntmps3 rfl (Qe (Qb (Om (Qd rfl) rfl (Qf (Qa (Qe (Qe ?_)))))))
 refine Qb (Oq (Qi Tryz.call11 rfl (law23_livesG _ st ((tab).up (by omega)) (by omega))) rfl ?_)
 rintro _ w1 ⟨rfl, c1⟩
 have z1 := c1.size
 refine Om (Rk rfl) rfl (Qf (Qa (Cb rfl (Qn (Qa (Qe (Qb ?_)))))))
 refine Om (Qc rfl) rfl ?_
 have sx_1 := sx.keep c1
 refine Oq (Qi Tryz.call12 rfl (law23_floats _ _ _ _ bs _ sx_1 (fun q hq => by have := hX q hq; omega) (by omega))) rfl ?_
 rintro _ w2 ⟨r2, A2, k2, rfl, fl2, yr2, c2⟩
 have yl2 := Ow.lt fl2
 have z2 := c2.size
 refine Om (Qd rfl) rfl (Qf (Qa (Qe (Qb (Om (Qc rfl) rfl (Om (Cu υ24 rfl) rfl (Om (Qd rfl) rfl ?_)))))))
 refine Qf (Qa (Qe (Qe (Qb (Om (Qc rfl) rfl (Om (Cf rfl rfl) rfl (Om (Qc rfl) rfl ?_)))))))
 refine Rd (b := _) 3 32 35 rfl (fun hc1 Jhc1 => by
   refine Oy rfl (Oy rfl (Om (Qt rfl rfl) rfl ?_))
   exact (Qq rfl (Qq rfl Jhc1))) (fun hc1 Jhc1 => by
   try simp only [bX] at hc1
   refine Om (Qc rfl) rfl (Om (Rb rfl rfl) rfl (Om (Qk rfl rfl) rfl ?_))
   exact (Qq rfl (Qq rfl Jhc1))) ?_
 refine Qf (Qa (Cr rfl (fun hc2 => ?_) (fun hc2 => ?_)))
 ·
  try simp only [bX] at hc2
  refine Qe (Qb (Om (Qd rfl) rfl (Qf (Qa (Qr (Qs (Qx rfl rfl ?_)))))))
  refine Ret.mk ?_
  have CH_2 := (Ch.refl (No) w).and (c1.trans c2)
  exact ⟨rfl, CH_2⟩
 ·
  try simp only [bX] at hc2
  have hn9 : 1 ≤ n ∧ n ≤ 400 := by omega
  refine Qn (Qa (Qe (Qb (Om (Qc rfl) rfl ?_))))
  have st_2 := st.keep (c1.trans c2)
  have tab_2 := tab.keep (c1.trans c2)
  refine Oq (Qi Tryz.call13 rfl (plan_NewG n (by omega) (by omega) _ st_2 ((tab_2).up (by omega)) (by omega))) rfl ?_
  rintro _ w3 ⟨pp, PP, rfl, pl3, hpb, us, c3⟩
  have z3 := c3.size
  refine Om (Qc rfl) rfl (Om (Qo rfl rfl) rfl (Om (Qo rfl rfl) rfl (Om (Qd rfl) rfl (Om (Qd rfl) rfl (Qf (Qa (Qe ?_)))))))
  refine Qe (Qb (Om (Qc rfl) rfl (Om (Cd υ28 rfl) rfl (Om (Qc rfl) rfl (Om (Qc rfl) rfl (Om (Rn.ptr_eql_nil Tryz.underlying26 rfl) rfl (Om (Qk rfl rfl) rfl ?_)))))))
  refine Qf (Qa (Cb rfl (Qn (Qa (VC.cut (σ := Nat × Nat) (fun (pv, pz) => [(3, .slice A2 n k2), (4, .int .i64 n), (5, .pointer (some ⟨pp, 0, none⟩)), (7, .slice (some ⟨pv, 0, none⟩) n n), (8, .slice (some ⟨pz, 0, none⟩) n n)]) (fun (pv, pz) w' => (w3.heap.size ≤ pv ∧ w3.heap.size ≤ pz ∧ ¬ pv = pz) ∧ w3.heap.size ≤ w'.heap.size ∧ CR 33 w' (pv + 1) (some ⟨pv, 0, none⟩) n n (List.replicate n (0, 0)) ∧ CR 33 w' (pz + 1) (some ⟨pz, 0, none⟩) n n (List.replicate n (0, 0)) ∧ FR 32 w' r2 A2 n k2 (flO bs) ∧ PlnR w2.heap.size w3.heap.size w' pp PP ∧ StT w' ∧ TabB w.heap.size w' ∧ Ch No w w') ?_ ?_)))))
  ·
   refine VC.drawsT 5 (.mv 0 (.mv 2 (.two 1 (.mv 4 (.wk 3 .nil)) 3 (.wk 1 (.mv 4 .nil))))) (fun w1 w' => Ch (No) w1 w') mixed (by kernel_rfl) (fun _ _ => Ch.refl _ _) ?_
   intro w4 D4
   have c4 := Ch.of_drew D4; have z4 := c4.size
   refine Rc (fun w' hS => Qc rfl) rfl rfl rfl rfl (Rc (fun w' hS => Qc rfl) rfl rfl rfl rfl (VT.two ?_ ?_))
   ·
    refine Rr (Wk.mkC υ31 inf33w90 rfl rfl (by omega) (by omega) (by omega)) rfl rfl rfl rfl ?_
    rintro _ w5 ⟨p5, rfl, o5, c5, e5, z5⟩
    have RD_5 := (Ch.refl (No) w4).and c5
    refine ⟨RD_5, ?_⟩
    refine Rc (fun w' hS => Qd rfl) rfl rfl rfl rfl (Rr (Wk.mkC υ31 inf33w90 rfl rfl (by omega) (by omega) (by omega)) rfl rfl rfl rfl ?_)
    rintro _ w6 ⟨p6, rfl, o6, c6, e6, z6⟩
    have RD_6 := RD_5.and c6
    refine ⟨RD_6, ?_⟩
    refine Rs (Om (Qd rfl) rfl (Qf (Qz (VQ.cut (p5, p6) ?_ ⟨rfl, rfl, rfl, rfl, rfl, trivial⟩))))
    have va_6 := o5.keep c6
    have fl_6 := fl2.keep (c3.trans (c4.trans (c5.trans c6)))
    have pl_6 := pl3.keep (c4.trans (c5.trans c6))
    have st_6 := st_2.keep (c3.trans (c4.trans (c5.trans c6)))
    have tab_6 := tab_2.keep (c3.trans (c4.trans (c5.trans c6)))
    have CH_6 := (Ch.refl (No) w).and (c1.trans (c2.trans (c3.trans (c4.trans (c5.trans c6)))))
    exact ⟨⟨by omega, by omega, by omega⟩, by omega, va_6, o6, fl_6, pl_6, st_6, tab_6, CH_6⟩
   ·
    refine Rr (Wk.mkC υ31 inf33w90 rfl rfl (by omega) (by omega) (by omega)) rfl rfl rfl rfl ?_
    rintro _ w7 ⟨p7, rfl, o7, c7, e7, z7⟩
    have RD_7 := (Ch.refl (No) w4).and c7
    refine ⟨RD_7, ?_⟩
    refine Rr (Wk.mkC υ31 inf33w90 rfl rfl (by omega) (by omega) (by omega)) rfl rfl rfl rfl ?_
    rintro _ w8 ⟨p8, rfl, o8, c8, e8, z8⟩
    have RD_8 := RD_7.and c8
    refine ⟨RD_8, ?_⟩
    refine Rc (fun w' hS => Qd rfl) rfl rfl rfl rfl (Rs (Om (Qd rfl) rfl (Qf (Qz (VQ.cut (p8, p7) ?_ ⟨rfl, rfl, rfl, rfl, rfl, trivial⟩)))))
    have za_8 := o7.keep c8
    have fl_8 := fl2.keep (c3.trans (c4.trans (c7.trans c8)))
    have pl_8 := pl3.keep (c4.trans (c7.trans c8))
    have st_8 := st_2.keep (c3.trans (c4.trans (c7.trans c8)))
    have tab_8 := tab_2.keep (c3.trans (c4.trans (c7.trans c8)))
    have CH_8 := (Ch.refl (No) w).and (c1.trans (c2.trans (c3.trans (c4.trans (c7.trans c8)))))
    exact ⟨⟨by omega, by omega, by omega⟩, by omega, o8, za_8, fl_8, pl_8, st_8, tab_8, CH_8⟩
  rintro ⟨pv, pz⟩ w9 ⟨hpv, hszx9, va_9, za_9, fl_9, pl_9, st_9, tab_9, CH_9⟩
  show VC _ _ _ _ [(3, .slice A2 n k2), (4, .int .i64 n), (5, .pointer (some ⟨pp, 0, none⟩)), (7, .slice (some ⟨pv, 0, none⟩) n n), (8, .slice (some ⟨pz, 0, none⟩) n n)] _
  have yva9 := Ow.lt va_9; have yza9 := Ow.lt za_9
  refine Qe (Qe (Qb (Om (Qc rfl) rfl (Om (Cu υ24 rfl) rfl (Om (Qc rfl) rfl (Qf (Qa ?_)))))))
  refine Qu (Cq (σ := Nat × List CB × List CB) (fun (j, vs, zs) => [(3, .slice A2 n k2), (4, .int .i64 n), (5, .pointer (some ⟨pp, 0, none⟩)), (7, .slice (some ⟨pv, 0, none⟩) n n), (8, .slice (some ⟨pz, 0, none⟩) n n), (51, .slice A2 n k2), (52, .int .i64 n), (53, .int .i64 j)]) (fun (j, vs, zs) w' => j ≤ n ∧ RowI n j (plN n) (fun i => (XF (flO bs) i, fl0)) vs ∧ RowI n j (fun i => i) (zF n (XF (flO bs))) zs ∧ w9.heap.size ≤ w'.heap.size ∧ CR 33 w' (pv + 1) (some ⟨pv, 0, none⟩) n n vs ∧ CR 33 w' (pz + 1) (some ⟨pz, 0, none⟩) n n zs ∧ FR 32 w' r2 A2 n k2 (flO bs) ∧ PlnR w2.heap.size w3.heap.size w' pp PP ∧ StT w' ∧ TabB w.heap.size w' ∧ Ch (No) w w') (fun (j, vs, zs) => n - j) (0, List.replicate n (0, 0), List.replicate n (0, 0)) ?_ ⟨rfl, rfl, rfl, rfl, rfl, rfl, rfl, rfl, trivial⟩ ?_)
  · exact ⟨(by omega), (RowI.init _ _ _), (RowI.init _ _ _), (Nat.le_refl _), va_9, za_9, fl_9, pl_9, st_9, tab_9, CH_9⟩
  rintro ⟨j, vs, zs⟩ w10 ⟨hj, hi, hj9, hsz10, va_10, za_10, fl_10, pl_10, st_10, tab_10, CH_10⟩
  show VC _ _ _ _ [(3, .slice A2 n k2), (4, .int .i64 n), (5, .pointer (some ⟨pp, 0, none⟩)), (7, .slice (some ⟨pv, 0, none⟩) n n), (8, .slice (some ⟨pz, 0, none⟩) n n), (51, .slice A2 n k2), (52, .int .i64 n), (53, .int .i64 j)] _
  refine Qe (Qb (Om (Cs rfl rfl) rfl (Qf (Qa (Qe (Qj rfl (fun hc3 => ?_) (fun hc3 => ?_)))))))
  ·
   refine Qn (Qa (Qe (Qu (Qe (Qb (Om (Qc rfl) rfl (Om (Qy υ24 ς32 rfl rfl (fl_10.sl.ne (by omega)) (by omega) (by omega)) rfl ?_)))))))
   refine Om (Qh ι32 rfl ((fl_10).sl.getF (by omega) (by omega))) rfl (Om (Qd rfl) rfl (Om (Qd rfl) rfl (Qf (Qa (VC.cut (σ := List CB) (fun vs2 => [(3, .slice A2 n k2), (4, .int .i64 n), (5, .pointer (some ⟨pp, 0, none⟩)), (7, .slice (some ⟨pv, 0, none⟩) n n), (8, .slice (some ⟨pz, 0, none⟩) n n), (9, .int .i64 j), (10, .float .f64 ((flO bs).getD j 0)), (51, .slice A2 n k2), (52, .int .i64 n), (53, .int .i64 j)]) (fun vs2 w' => RowI n (j + 1) (plN n) (fun i => (XF (flO bs) i, fl0)) vs2 ∧ w10.heap.size ≤ w'.heap.size ∧ CR 33 w' (pv + 1) (some ⟨pv, 0, none⟩) n n vs2 ∧ CR 33 w' (pz + 1) (some ⟨pz, 0, none⟩) n n zs ∧ FR 32 w' r2 A2 n k2 (flO bs) ∧ PlnR w2.heap.size w3.heap.size w' pp PP ∧ StT w' ∧ TabB w.heap.size w' ∧ Ch No w w') ?_ ?_)))))
   ·
    refine Qe ?_
    have hpl := plN_lt (n := n) (i := j) (by omega)
    have hpi := plN_int (n := n) (i := j) (by omega)
    refine Qb (Om (Qc rfl) rfl (Om (Rx rfl rfl (by omega) (by omega)) rfl (Om (Cf rfl rfl) rfl (Qf (Qa (Qj rfl (fun hc4 => ?_) (fun hc4 => ?_)))))))
    ·
     refine Qb (Om (Qc rfl) rfl (Om (Qc rfl) rfl (Om (Rw rfl rfl (by omega) (by omega) (by omega)) rfl (Om (Qc rfl) rfl (Om (Rg rfl rfl) rfl (Om (Qy υ31 ς33 rfl rfl (va_10.sl.ne (by omega)) (by omega) (by omega)) rfl (Oz (Rh ς33 rfl rfl (by omega) va_10) rfl ?_)))))))
     rintro _ w11 ⟨o11, c11, z11⟩
     have y11 := o11.lt
     refine Qf (VQ.cut (vs.set ((j : Int) / 2).toNat ((flO bs).getD (j : Int).toNat 0, 0)) ?_ ⟨rfl, rfl, rfl, rfl, rfl, rfl, rfl, rfl, rfl, rfl, trivial⟩)
     have za_11 := za_10.to c11
     have fl_11 := fl_10.to c11
     have pl_11 := pl_10.to c11
     have st_11 := st_10.to c11
     have tab_11 := tab_10.to c11
     have CH_11 : Ch (No) w w11 := CH_10.then c11
     exact ⟨(by rw [show ((j : Int) / 2).toNat = plN n j by (rw [if_pos (by omega)] at hpi; omega), Int.toNat_natCast]; exact hi.step hpl (fun i hij => plN_ne hij (by omega)) rfl), by omega, o11, za_11, fl_11, pl_11, st_11, tab_11, CH_11⟩
    ·
     refine Qb (Om (Qc rfl) rfl (Om (Qc rfl) rfl ?_))
     refine Om (Re rfl rfl (by rw [IntKind.wrap_i64]; omega)) rfl ?_
     refine Om (Qc rfl) rfl (Om (Rw rfl rfl (by omega) (by omega) (by omega)) rfl ?_)
     refine Om (Re rfl rfl (by rw [IntKind.wrap_i64]; omega)) rfl ?_
     refine Om (Qc rfl) rfl (Om (Rg rfl rfl) rfl (Om (Qy υ31 ς33 rfl rfl (va_10.sl.ne (by omega)) (by omega) (by omega)) rfl (Oz (Rh ς33 rfl rfl (by omega) va_10) rfl ?_)))
     rintro _ w12 ⟨o12, c12, z12⟩
     have y12 := o12.lt
     refine Qf (VQ.cut (vs.set ((n : Int) - 1 - (j : Int) / 2).toNat ((flO bs).getD (j : Int).toNat 0, 0)) ?_ ⟨rfl, rfl, rfl, rfl, rfl, rfl, rfl, rfl, rfl, rfl, trivial⟩)
     have za_12 := za_10.to c12
     have fl_12 := fl_10.to c12
     have pl_12 := pl_10.to c12
     have st_12 := st_10.to c12
     have tab_12 := tab_10.to c12
     have CH_12 : Ch (No) w w12 := CH_10.then c12
     exact ⟨(by rw [show ((n : Int) - 1 - (j : Int) / 2).toNat = plN n j by (rw [if_neg (by omega)] at hpi; omega), Int.toNat_natCast]; exact hi.step hpl (fun i hij => plN_ne hij (by omega)) rfl), by omega, o12, za_12, fl_12, pl_12, st_12, tab_12, CH_12⟩
   rintro vs2 w13 ⟨hi2, hszx13, va_13, za_13, fl_13, pl_13, st_13, tab_13, CH_13⟩
   show VC _ _ _ _ [(3, .slice A2 n k2), (4, .int .i64 n), (5, .pointer (some ⟨pp, 0, none⟩)), (7, .slice (some ⟨pv, 0, none⟩) n n), (8, .slice (some ⟨pz, 0, none⟩) n n), (9, .int .i64 j), (10, .float .f64 ((flO bs).getD j 0)), (51, .slice A2 n k2), (52, .int .i64 n), (53, .int .i64 j)] _
   refine Qe (Qb (Om (Qc rfl) rfl (Om (Qc rfl) rfl (Om (Qc rfl) rfl (Om (Rg rfl rfl) rfl (Om (Qy υ31 ς33 rfl rfl (za_13.sl.ne (by omega)) (by omega) (by omega)) rfl (Oz (Rh ς33 rfl rfl (by omega) za_13) rfl ?_)))))))
   rintro _ w14 ⟨o14, c14, z14⟩
   have y14 := o14.lt
   refine Qf (Qa (Qe (Qb (Om (Qc rfl) rfl (Om (Rb rfl rfl) rfl (Qf (Qa ?_)))))))
   refine Qj rfl (fun hc5 => ?_) (fun hc5 => ?_)
   ·
    refine Qe (Qb (Om (Qc rfl) rfl (Om (Qc rfl) rfl (Om (Qc rfl) rfl (Om (Qc rfl) rfl ?_)))))
    refine Om (Re rfl rfl (by rw [IntKind.wrap_i64]; omega)) rfl ?_
    have fl_14 := fl_13.to c14
    refine Om (Qy υ24 ς32 rfl rfl (fl_14.sl.ne (by omega)) (by omega) (by omega)) rfl (Om (Qh ι32 rfl (fl_14.sl.getF (by omega) (by omega))) rfl (Om (Rn.fneg rfl) rfl (Om (Rg rfl rfl) rfl (Om (Qc rfl) rfl ?_))))
    refine Om (Ra rfl rfl (by rw [IntKind.wrap_i64]; omega)) rfl ?_
    refine Om (Qc rfl) rfl ?_
    refine Om (Rn.neg rfl (by rw [IntKind.wrap_i64]; omega)) rfl ?_
    refine Oq (Qi κ14 rfl (roots_Twist _ _ (4 * n) (-(j : Int)) (4 * n - j) (by omega) (by omega) ⟨by omega, by omega⟩ (neg_mod4 (by omega) (by omega)) _)) rfl ?_
    rintro _ w15 ⟨x15, y15, rfl, F15, c15⟩
    have z15 := c15.size
    refine Om (Qc rfl) rfl (Om (Qo rfl rfl) rfl (Om (Qo rfl rfl) rfl (Om (Qd rfl) rfl (Om (Qd rfl) rfl (Qf (Qa (Qe ?_)))))))
    refine Qe (Qb (Om (Qc rfl) rfl (Om (Cd υ28 rfl) rfl (Qf (Qa (Cb rfl (Qn ?_)))))))
    refine Qa (Qb (Om (Qc rfl) rfl (Om (Qc rfl) rfl (Om (Qc rfl) rfl ?_))))
    have za_15 := o14.keep c15
    refine Om (Qy υ31 ς33 rfl rfl (za_15.sl.ne (by omega)) (by omega) (by omega)) rfl (Oz (Rh ς33 rfl rfl (by omega) za_15) rfl ?_)
    rintro _ w16 ⟨o16, c16, z16⟩
    have y16 := o16.lt
    refine Qf (Qp (Qa (Qb ?_)))
    refine Om (Ce rfl rfl (by rw [IntKind.wrap_i64]; omega)) rfl ?_
    refine Om (Qc rfl) rfl (Qf ?_)
    refine Cj (j + 1, vs2, (zs.set (j : Int).toNat ((flO bs).getD j 0, 0)).set (j : Int).toNat (x15, y15)) (by first | omega | (dsimp only; omega)) ?_ ⟨rfl, rfl, rfl, rfl, rfl, rfl, rfl, rfl, trivial⟩
    have va_14 := va_13.to c14
    have va_15 := va_14.keep c15
    have va_16 := va_15.to c16
    have fl_15 := fl_14.keep c15
    have fl_16 := fl_15.to c16
    have pl_14 := pl_13.to c14
    have pl_15 := pl_14.keep c15
    have pl_16 := pl_15.to c16
    have st_14 := st_13.to c14
    have st_15 := st_14.keep c15
    have st_16 := st_15.to c16
    have tab_14 := tab_13.to c14
    have tab_15 := tab_14.keep c15
    have tab_16 := tab_15.to c16
    have CH_14 : Ch (No) w w14 := CH_13.then c14
    have CH_15 := CH_14.and c15
    have CH_16 : Ch (No) w w16 := CH_15.then c16
    exact ⟨by omega, hi2, (by rw [Int.toNat_natCast]; exact (hj9.over (by omega) _).step (by omega) (fun i h => by omega) (by rw [F15, zF, if_neg (by omega)]; show twistF (cn _, cn _) _ _ = _; rw [cn_neg, show ((n : Int) - (j : Int)).toNat = n - j by omega])), by omega, va_16, o16, fl_16, pl_16, st_16, tab_16, CH_16⟩
   ·
    refine Qn (Qp (Qa (Qb ?_)))
    refine Om (Ce rfl rfl (by rw [IntKind.wrap_i64]; omega)) rfl ?_
    refine Om (Qc rfl) rfl (Qf ?_)
    refine Cj (j + 1, vs2, zs.set (j : Int).toNat ((flO bs).getD j 0, 0)) (by first | omega | (dsimp only; omega)) ?_ ⟨rfl, rfl, rfl, rfl, rfl, rfl, rfl, rfl, trivial⟩
    have va_14 := va_13.to c14
    have fl_14 := fl_13.to c14
    have pl_14 := pl_13.to c14
    have st_14 := st_13.to c14
    have tab_14 := tab_13.to c14
    have CH_14 : Ch (No) w w14 := CH_13.then c14
    exact ⟨by omega, hi2, (by rw [Int.toNat_natCast]; exact hj9.step (by omega) (fun i h => by omega) (by obtain rfl : j = 0 := (by omega); rfl)), by omega, va_14, o14, fl_14, pl_14, st_14, tab_14, CH_14⟩
  ·
   refine Ct (Qm (Qm (Ca (Qa (Qe ?_)))))
   obtain rfl : n = j := by omega
   refine Qb (Om (Qc rfl) rfl (Om (Qc rfl) rfl (Oq (Qi Tryz.call15 rfl (p_ForwardN _ _ _ _ _ _ n _ vs _ (va_10).sl (fun q hq => by omega) pl_10 (by omega) hpb us st_10 (by omega))) rfl ?_)))
   rintro _ w17 ⟨r17, A17, k17, ws17, rfl, yo17, hz_yo, ysz17, c17⟩
   have hlo17 := Ow.lt yo17
   have z17 := c17.size
   have hzy := hz_yo; rw [hi.vl] at hzy
   refine Om (Qc rfl) rfl (Om (Qo rfl rfl) rfl (Om (Qo rfl rfl) rfl (Om (Qd rfl) rfl (Om (Qd rfl) rfl (Qf (Qa (Qe ?_)))))))
   refine Qb (Om (Qc rfl) rfl (Om (Qc rfl) rfl ?_))
   have za_17 := za_10.keep c17
   have pl_17 := pl_10.keep c17
   have st_17 := st_10.keep c17
   refine Oq (Qi Tryz.call16 rfl (p_InverseN _ _ _ _ _ _ n _ zs _ (za_17).sl (fun q hq => by omega) pl_17 (by omega) hpb us st_17 (by omega))) rfl ?_
   rintro _ w18 ⟨r18, A18, k18, ws18, rfl, uo18, hz_uo, ysz18, c18⟩
   have hlo18 := Ow.lt uo18
   have z18 := c18.size
   have hzu := hz_uo; rw [hj9.id] at hzu
   refine Om (Qc rfl) rfl (Om (Qo rfl rfl) rfl (Om (Qo rfl rfl) rfl (Om (Qd rfl) rfl (Om (Qd rfl) rfl (Qf (Qa (Qe ?_)))))))
   refine Qb (Om (Qc rfl) rfl ?_)
   have fl_18 := fl_10.keep (c17.trans c18)
   have st_18 := st_17.keep c18
   have tab_18 := tab_10.keep (c17.trans c18)
   refine Oq (Qi Tryz.call17 rfl (cos_ForwardG _ _ n _ (flO bs) _ (fl_18).sl (fun q hq => by omega) ⟨by omega, by omega⟩ st_18 ((tab_18).up (by omega)) (by omega))) rfl ?_
   rintro _ w19 ⟨q19, zs19, rfl, fo19, hf19, us19, e19, c19⟩
   have yl19 := Ow.lt fo19
   have z19 := c19.size
   refine Om (Qc rfl) rfl (Om (Qo rfl rfl) rfl (Om (Qo rfl rfl) rfl (Om (Qd rfl) rfl (Om (Qd rfl) rfl (Qf (Qa (Qe ?_)))))))
   refine Qb (Om (Qc rfl) rfl ?_)
   have fl_19 := fl_18.keep c19
   have st_19 := st_18.keep c19
   have tab_19 := tab_18.keep c19
   refine Oq (Qi Tryz.call18 rfl (cos_InverseG _ _ n _ (flO bs) _ (fl_19).sl (fun q hq => by omega) ⟨by omega, by omega⟩ st_19 ((tab_19).up (by omega)) (by omega))) rfl ?_
   rintro _ w20 ⟨q20, zs20, rfl, io20, hy20, us20, e20, c20⟩
   have yl20 := Ow.lt io20
   have z20 := c20.size
   refine Om (Qc rfl) rfl (Om (Qo rfl rfl) rfl (Om (Qo rfl rfl) rfl (Om (Qd rfl) rfl (Om (Qd rfl) rfl (Qf (Qa (Qe ?_)))))))
   refine Qe (Qb (Om (Qc rfl) rfl (Om (Cd υ28 rfl) rfl (Om (Qc rfl) rfl (Om (Qc rfl) rfl (Om (Cd υ28 rfl) rfl (Om (Qk rfl rfl) rfl ?_)))))))
   refine Om (Qc rfl) rfl (Om (Qc rfl) rfl (Om (Cd υ28 rfl) rfl (Om (Qk rfl rfl) rfl (Om (Qc rfl) rfl (Om (Qc rfl) rfl (Om (Cd υ28 rfl) rfl (Om (Qk rfl rfl) rfl ?_)))))))
   refine Om (Qc rfl) rfl (Om (Qc rfl) rfl (Om (Cu υ31 rfl) rfl (Om (Qc rfl) rfl (Om (Rn.neqF rfl rfl rfl) rfl (Om (Qk rfl rfl) rfl (Om (Qc rfl) rfl (Om (Qc rfl) rfl ?_)))))))
   refine Om (Cu υ31 rfl) rfl (Om (Qc rfl) rfl (Om (Rn.neqF rfl rfl rfl) rfl (Om (Qk rfl rfl) rfl (Om (Qc rfl) rfl (Om (Qc rfl) rfl (Om (Cu υ24 rfl) rfl (Om (Qc rfl) rfl ?_)))))))
   refine Om (Rn.neqF rfl rfl rfl) rfl (Om (Qk rfl rfl) rfl (Om (Qc rfl) rfl (Om (Qc rfl) rfl (Om (Cu υ24 rfl) rfl (Om (Qc rfl) rfl (Om (Rn.neqF rfl rfl rfl) rfl (Om (Qk rfl rfl) rfl ?_)))))))
   refine Qf (Qa (Cb rfl (Qn (Qa (Qe (Qe (Qb ?_)))))))
   refine Om (Qd rfl) rfl (Qf (Qa (Qu ?_)))
   have yo_20 := yo17.keep (c18.trans (c19.trans c20))
   have uo_20 := uo18.keep (c19.trans c20)
   have fo_20 := fo19.keep c20
   have CH_20 := CH_10.and (c17.trans (c18.trans (c19.trans c20)))
   refine Cq (σ := Nat) (fun k => [(4, .int .i64 n), (13, .slice A17 n k17), (14, .slice A18 n k18), (16, .slice (some ⟨q19, 0, none⟩) n n), (18, .slice (some ⟨q20, 0, none⟩) n n), (20, .int .i64 k)]) (fun k w' => k ≤ n ∧ w20.heap.size ≤ w'.heap.size ∧ CR 33 w' r17 A17 n k17 ws17 ∧ CR 33 w' r18 A18 n k18 ws18 ∧ FR 32 w' (q19 + 1) (some ⟨q19, 0, none⟩) n n zs19 ∧ FR 32 w' (q20 + 1) (some ⟨q20, 0, none⟩) n n zs20 ∧ Ch (No) w w') (fun k => n - k) 0 ?_ ⟨rfl, rfl, rfl, rfl, rfl, rfl, trivial⟩ ?_
   · exact ⟨(by omega), (Nat.le_refl _), yo_20, uo_20, fo_20, io20, CH_20⟩
   rintro k w21 ⟨hk, hsz21, yo_21, uo_21, fo_21, io_21, CH_21⟩
   show VC _ _ _ _ [(4, .int .i64 n), (13, .slice A17 n k17), (14, .slice A18 n k18), (16, .slice (some ⟨q19, 0, none⟩) n n), (18, .slice (some ⟨q20, 0, none⟩) n n), (20, .int .i64 k)] _
   refine Qe (Qe (Qb (Om (Qc rfl) rfl (Om (Qc rfl) rfl (Om (Cs rfl rfl) rfl (Qf (Qa ?_)))))))
   refine Qj rfl (fun hc6 => ?_) (fun hc6 => ?_)
   ·
    refine Qn (Qa (Qe (Qu (Qe (Qb (Om (Qc rfl) rfl (Om (Qc rfl) rfl ?_)))))))
    refine Om (Qy υ31 ς33 rfl rfl (yo_21.sl.ne (by omega)) (by omega) (by omega)) rfl (Om (Qh ι33 rfl (yo_21.sl.getC (by omega) (by omega))) rfl (Om (Qc rfl) rfl ?_))
    refine Om (Ra rfl rfl (by rw [IntKind.wrap_i64]; omega)) rfl ?_
    refine Om (Qc rfl) rfl (Oq (Qi κ14 rfl (roots_Twist _ _ (4 * n) (k : Int) k (by omega) (by omega) ⟨by omega, by omega⟩ (pos_mod4 (by omega)) _)) rfl ?_)
    rintro _ w22 ⟨x22, y22, rfl, F22, c22⟩
    have z22 := c22.size
    have htk : cn x22 = cosF n (XF (flO bs)) k := ((congrArg (·.1) F22).trans (by rw [Int.toNat_natCast]; exact congrArg (fun z => (twistF z (4 * n) k).1) (cx_get hzy k)))
    refine Om (Qc rfl) rfl (Om (Qo rfl rfl) rfl (Om (Qo rfl rfl) rfl (Om (Qd rfl) rfl (Om (Qd rfl) rfl (Qf (Qa (Qe ?_)))))))
    refine Qb (Om (Qc rfl) rfl (Om (Rw rfl rfl (by omega) (by omega) (by omega)) rfl (Om (Qd rfl) rfl (Qf (Qa (VC.cut (σ := Int) (fun a9 => [(4, .int .i64 n), (13, .slice A17 n k17), (14, .slice A18 n k18), (16, .slice (some ⟨q19, 0, none⟩) n n), (18, .slice (some ⟨q20, 0, none⟩) n n), (20, .int .i64 k), (21, .complex .f64 x22 y22), (22, .nilIface), (23, .int .i64 a9)]) (fun a9 w' => a9 = (plN n k : Nat) ∧ w22.heap.size ≤ w'.heap.size ∧ CR 33 w' r17 A17 n k17 ws17 ∧ CR 33 w' r18 A18 n k18 ws18 ∧ FR 32 w' (q19 + 1) (some ⟨q19, 0, none⟩) n n zs19 ∧ FR 32 w' (q20 + 1) (some ⟨q20, 0, none⟩) n n zs20 ∧ Ch No w w') ?_ ?_))))))
    ·
     refine Qe (Qb (Om (Qc rfl) rfl (Om (Rx rfl rfl (by omega) (by omega)) rfl (Om (Cf rfl rfl) rfl (Qf (Qa (Qj rfl (fun hc7 => ?_) (fun hc7 => ?_))))))))
     ·
      refine Qb (Om (Qc rfl) rfl ?_)
      refine Om (Re rfl rfl (by rw [IntKind.wrap_i64]; omega)) rfl ?_
      refine Om (Qc rfl) rfl (Om (Rw rfl rfl (by omega) (by omega) (by omega)) rfl ?_)
      refine Om (Re rfl rfl (by rw [IntKind.wrap_i64]; omega)) rfl ?_
      refine Om (Qd rfl) rfl (Qf (VQ.cut _ ?_ ⟨rfl, rfl, rfl, rfl, rfl, rfl, rfl, rfl, rfl, trivial⟩))
      have yo_22 := yo_21.keep c22
      have uo_22 := uo_21.keep c22
      have fo_22 := fo_21.keep c22
      have io_22 := io_21.keep c22
      have CH_22 := CH_21.and c22
      exact ⟨(by have := plN_int (n := n) (i := k) (by omega); rw [← this, if_neg (by omega)]), by omega, yo_22, uo_22, fo_22, io_22, CH_22⟩
     ·
      refine Qn (VQ.cut _ ?_ ⟨rfl, rfl, rfl, rfl, rfl, rfl, rfl, rfl, rfl, trivial⟩)
      have yo_22 := yo_21.keep c22
      have uo_22 := uo_21.keep c22
      have fo_22 := fo_21.keep c22
      have io_22 := io_21.keep c22
      have CH_22 := CH_21.and c22
      exact ⟨(by have := plN_int (n := n) (i := k) (by omega); rw [← this, if_pos (by omega)]), by omega, yo_22, uo_22, fo_22, io_22, CH_22⟩
    rintro a9 w23 ⟨hat, hszx23, yo_23, uo_23, fo_23, io_23, CH_23⟩
    show VC _ _ _ _ [(4, .int .i64 n), (13, .slice A17 n k17), (14, .slice A18 n k18), (16, .slice (some ⟨q19, 0, none⟩) n n), (18, .slice (some ⟨q20, 0, none⟩) n n), (20, .int .i64 k), (21, .complex .f64 x22 y22), (22, .nilIface), (23, .int .i64 a9)] _
    have hpl9 := plN_lt (n := n) (i := k) (by omega)
    refine Qe (Cg 25 [(0, true), (1, true), (2, true), (3, true), (4, true), (5, true), (6, true), (7, true), (8, true), (9, false), (10, true), (11, true), (12, true), (13, true), (14, true), (15, true), (16, true), (17, true), (18, true), (19, true), (20, true), (21, true), (22, false), (23, true), (24, true)] (fun w1 w' => Ch (No) w1 w') mixed (by kernel_rfl) (fun _ _ => Ch.refl _ _) ?_)
    intro w24 D24
    have c24 := Ch.of_drew D24; have z24 := c24.size
    have yo_24 := yo_23.keep c24
    have uo_24 := uo_23.keep c24
    have fo_24 := fo_23.keep c24
    have io_24 := io_23.keep c24
    refine Hm (fun w' hS => Qc rfl) rfl (Hm (fun w' hS => Cd υ28 rfl) rfl (Hm (fun w' hS => Qc rfl) rfl (Hm (fun w' hS => Qc rfl) rfl (Hm (fun w' hS => Rt rfl) rfl (Hm (fun w' hS => Qc rfl) rfl (Hm (fun w' hS => Qc rfl) rfl (Hm (fun w' hS => Qy υ24 ς32 rfl rfl (fo_24.sl.ne (by omega)) (by omega) (by omega)) rfl ?_)))))))
    refine Hm (fun w' hS => Qh ι32 rfl ((fo_24.keep hS).sl.getF (by omega) (by omega))) rfl ?_
    refine Hq (Qi Tryz.call19 rfl (ref_SameT _ _ (by rw [Int.toNat_natCast, hf19.get k (by omega)]; exact htk) _)) rfl ?_
    rintro _ _ ⟨rfl, rfl⟩
    refine ⟨(Ch.refl (No) w24), ?_⟩
    refine Hm (fun w' hS => Rk rfl) rfl (Hm (fun w' hS => Qk rfl rfl) rfl (Hm (fun w' hS => Qc rfl) rfl (Hm (fun w' hS => Qc rfl) rfl (Hm (fun w' hS => Qc rfl) rfl (Hm (fun w' hS => Qy υ31 ς33 rfl rfl (uo_24.sl.ne (by omega)) (by omega) (by omega)) rfl (Hm (fun w' hS => Qh ι33 rfl ((uo_24.keep hS).sl.getC (by omega) (by omega))) rfl (Hm (fun w' hS => Rt rfl) rfl ?_)))))))
    refine Hm (fun w' hS => Qc rfl) rfl (Hm (fun w' hS => Qc rfl) rfl (Hm (fun w' hS => Qy υ24 ς32 rfl rfl (io_24.sl.ne (by omega)) (by omega) (by omega)) rfl (Hm (fun w' hS => Qh ι32 rfl ((io_24.keep hS).sl.getF (by omega) (by omega))) rfl ?_)))
    refine Hq (Qi Tryz.call19 rfl (ref_SameT _ _ (by rw [hat, Int.toNat_natCast, Int.toNat_natCast, hy20.get k (by omega)]; exact congrArg (·.1) (cx_get hzu (plN n k))) _)) rfl ?_
    rintro _ _ ⟨rfl, rfl⟩
    refine ⟨(Ch.refl (No) w24), ?_⟩
    refine Hm (fun w' hS => Rk rfl) rfl (Hm (fun w' hS => Qk rfl rfl) rfl (Cn (Qf (Qz (Qa (Cb rfl (Qn ?_)))))))
    refine Qp (Qa (Qb (Om (Qc rfl) rfl ?_)))
    refine Om (Ce rfl rfl (by rw [IntKind.wrap_i64]; omega)) rfl ?_
    refine Om (Qd rfl) rfl (Qf ?_)
    refine Cj (k + 1) (by first | omega | (dsimp only; omega)) ?_ ⟨rfl, rfl, rfl, rfl, rfl, rfl, trivial⟩
    have CH_24 := CH_23.and c24
    exact ⟨(by omega), (by omega), yo_24, uo_24, fo_24, io_24, CH_24⟩
   ·
    refine Ct (Qm (Qm (Ca (Qa (Qe (Qb (Om (Qd rfl) rfl ?_)))))))
    refine Qf (Qa (Qr (Qx rfl rfl (Ret.mk ?_))))
    exact ⟨rfl, CH_21⟩
end Go.Tm
