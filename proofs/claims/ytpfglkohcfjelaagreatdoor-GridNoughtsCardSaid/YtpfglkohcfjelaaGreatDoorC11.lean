/- Lemmas of this claim, joined by program. Walks of functions: butterflies of 3 and 5, sums by any roots, chirps, the other list. Walks of functions: the machine's acts, all operations. Conditions: each lemma names its own. -/
import Derived.Test.YtpfglkohcfjelaaGreatDoorC10
import Derived.DeepKeys
set_option linter.all false
namespace Go.Tm
set_option maxRecDepth 100000
open Go.RowKit Go.Proofs
theorem inf33w82 : Inf Tryz.prog 33 (.complex .f64 0 0) 1 16 := ⟨Tryz.t33, Tryz.type33, rfl, rfl, rfl⟩
theorem bld288_0_1_2w82 {v0 v1 v2 : Value} (h : [v0, v1, v2].all Value.oneCell' = true) (w : World) : (Instr.build 288 ([(0, v0), (1, v1), (2, v2)] : List (Nat × Value)).toArray).run Tryz.prog w = .ok (.agg #[v0, v1, v2]) w := by
  simp only [List.all_cons, Bool.and_eq_true, List.all_nil, and_true] at h
  have hv0 := oneCell_cells (v := v0) (by simp_all)
  have hv1 := oneCell_cells (v := v1) (by simp_all)
  have hv2 := oneCell_cells (v := v2) (by simp_all)
  have h1 := fill_set (fun i => some (i * 1, 1)) [(0, v0), (1, v1), (2, v2)] [.complex .f64 0 0, .complex .f64 0 0, .complex .f64 0 0] (by simp [okF, agg_cells, hv0, hv1, hv2, Nat.beq, Nat.ble])
  simp [setF, agg_cells, hv0, hv1, hv2] at h1
  simp [Instr.build, Tryz.runUnderlying288, ζ288, ς33, agg_cells, h1]
theorem bld292_0_1_2_3_4w82 {v0 v1 v2 v3 v4 : Value} (h : [v0, v1, v2, v3, v4].all Value.oneCell' = true) (w : World) : (Instr.build 292 ([(0, v0), (1, v1), (2, v2), (3, v3), (4, v4)] : List (Nat × Value)).toArray).run Tryz.prog w = .ok (.agg #[v0, v1, v2, v3, v4]) w := by
  simp only [List.all_cons, Bool.and_eq_true, List.all_nil, and_true] at h
  have hv0 := oneCell_cells (v := v0) (by simp_all)
  have hv1 := oneCell_cells (v := v1) (by simp_all)
  have hv2 := oneCell_cells (v := v2) (by simp_all)
  have hv3 := oneCell_cells (v := v3) (by simp_all)
  have hv4 := oneCell_cells (v := v4) (by simp_all)
  have h1 := fill_set (fun i => some (i * 1, 1)) [(0, v0), (1, v1), (2, v2), (3, v3), (4, v4)] [.complex .f64 0 0, .complex .f64 0 0, .complex .f64 0 0, .complex .f64 0 0, .complex .f64 0 0] (by simp [okF, agg_cells, hv0, hv1, hv2, hv3, hv4, Nat.beq, Nat.ble])
  simp [setF, agg_cells, hv0, hv1, hv2, hv3, hv4] at h1
  simp [Instr.build, Tryz.runUnderlying292, ζ292, ς33, agg_cells, h1]
theorem cplx_Times (a b f : Nat) (w : World) :
  Calls Tryz.prog 79 #[.complex .f64 a b, .float .f64 f] w (Ret (fun v w' => ∃ p q, v = .complex .f64 p q ∧ cx (p, q) = timesF (cx (a, b)) (cn f) ∧ Ch No w w')) := by
 refine calls_of_VC (args := [.complex .f64 a b, .float .f64 f]) Tryz.func79 rfl Tryz.ntmps79 rfl (Qe (Qb (Om (Qd rfl) rfl (Qf (Qa (Qe (Qb ?_)))))))
 refine Om (Qc rfl) rfl (Om (Rw rfl) rfl (Om (Qc rfl) rfl (Oq (Re (.inr (.inr (.inl rfl))) rfl rfl) rfl ?_)))
 rintro _ w1 ⟨r1, rfl, f1, c1⟩
 have z1 := c1.size
 refine Om (Qc rfl) rfl (Om (Rx rfl) rfl (Om (Qc rfl) rfl (Oq (Re (.inr (.inr (.inl rfl))) rfl rfl) rfl ?_)))
 rintro _ w2 ⟨r2, rfl, f2, c2⟩
 have z2 := c2.size
 refine Om (Ru rfl rfl) rfl (Om (Qd rfl) rfl (Qf (Qa (Qp (Qy rfl rfl (Ret.mk ?_))))))
 have CH_2 := (Ch.refl (No) w).and (c1.trans c2)
 exact ⟨_, _, rfl, (by show (cn _, cn _) = _; rw [f1, f2]; rfl), CH_2⟩
theorem fly_Three (x y u : CB) (w : World) :
  Calls Tryz.prog 278 #[.agg #[.complex .f64 x.1 x.2, .complex .f64 y.1 y.2, .complex .f64 u.1 u.2]] w (Ret (fun r w' => ∃ a b c : CB, r = .agg #[cxV a, cxV b, cxV c] ∧ [cx a, cx b, cx c] = fl3 (cx x) (cx y) (cx u) ∧ Ch No w w')) := by
 refine calls_of_VC (args := [.agg #[.complex .f64 x.1 x.2, .complex .f64 y.1 y.2, .complex .f64 u.1 u.2]]) Tryz.func278 rfl Tryz.ntmps278 rfl (Qe (Qb (Oq (Cj rfl) rfl ?_)))
 rintro _ w1 ⟨p1, rfl, N1⟩
 have c1 := N1.ch
 have e1 := N1.p; have z1 := N1.size
 have b1 := Bk.new N1
 refine Oq (Cc ζ288) rfl ?_
 rintro _ w2 ⟨p2, rfl, N2⟩
 have c2 := N2.ch
 have e2 := N2.p; have z2 := N2.size
 have b2 := Bk.new N2
 refine Qf (Qa (Qe (Qb (Om (Co (o' := 1) υ288 ς33 rfl rfl (by decide) (by decide) rfl) rfl ?_))))
 have b1_2 := b1.keep c2
 refine Om (Qh ι33 rfl (b1_2.cell rfl)) rfl (Om (Co (o' := 2) υ288 ς33 rfl rfl (by decide) (by decide) rfl) rfl (Om (Qh ι33 rfl (b1_2.cell rfl)) rfl (Oq (Qi κ296 rfl (fly_plus _ _ _ _ _)) rfl ?_)))
 rintro _ w3 ⟨p3, q3, rfl, F3, c3⟩
 have z3 := c3.size
 refine Om (Qd rfl) rfl (Qf (Qa (Qe (Qb (Om (Co (o' := 1) υ288 ς33 rfl rfl (by decide) (by decide) rfl) rfl ?_)))))
 have b1_3 := b1_2.keep c3
 refine Om (Qh ι33 rfl (b1_3.cell rfl)) rfl (Om (Co (o' := 2) υ288 ς33 rfl rfl (by decide) (by decide) rfl) rfl (Om (Qh ι33 rfl (b1_3.cell rfl)) rfl (Oq (Qi κ297 rfl (fly_less _ _ _ _ _)) rfl ?_)))
 rintro _ w4 ⟨p4, q4, rfl, F4, c4⟩
 have z4 := c4.size
 refine Oq (Qi κ79 rfl (cplx_Times _ _ _ _)) rfl ?_
 rintro _ w5 ⟨p5, q5, rfl, F5, c5⟩
 have z5 := c5.size
 refine Om (Qd rfl) rfl (Qf (Qa (Qe (Ci 5 [(0, true), (1, true), (2, true), (3, false), (4, false)] (fun w1 w' => Ch (No) w1 w') mixed (by kernel_rfl) (fun _ _ => Ch.refl _ _) ?_))))
 intro w6 D6
 have c6 := Ch.of_drew D6; have z6 := c6.size
 have b1_6 := b1_3.keep (c4.trans (c5.trans c6))
 have b2_6 := b2.keep (c3.trans (c4.trans (c5.trans c6)))
 refine Hm (fun w' hS => Co (o' := 0) υ288 ς33 rfl rfl (by decide) (by decide) rfl) rfl (Hm (fun w' hS => Qh ι33 rfl ((b1_6.keep hS).cell rfl)) rfl (Hm (fun w' hS => Qc rfl) rfl (Hq (Qi κ79 rfl (cplx_Times _ _ _ _)) rfl ?_)))
 rintro _ w7 ⟨p7, q7, rfl, F7, c7⟩
 have z7 := c7.size
 have RD_7 := (Ch.refl (No) w6).and c7
 refine ⟨RD_7, ?_⟩
 refine Hq (Qi κ297 rfl (fly_less _ _ _ _ _)) rfl ?_
 rintro _ w8 ⟨p8, q8, rfl, F8, c8⟩
 have z8 := c8.size
 have RD_8 := RD_7.and c8
 refine ⟨RD_8, ?_⟩
 refine Cn (Om (Qd rfl) rfl (Qf (Qx (Qa (Qe (Qb (Om (Co (o' := 0) υ288 ς33 rfl rfl (by decide) (by decide) rfl) rfl ?_)))))))
 have b1_8 := b1_6.keep (c7.trans c8)
 refine Om (Qh ι33 rfl (b1_8.cell rfl)) rfl (Om (Qc rfl) rfl (Oq (Qi κ296 rfl (fly_plus _ _ _ _ _)) rfl ?_))
 rintro _ w9 ⟨p9, q9, rfl, F9, c9⟩
 have z9 := c9.size
 refine Om (Qc rfl) rfl (Om (Qc rfl) rfl (Oq (Qi κ80 rfl (cplx_MinusI _ _ _)) rfl ?_))
 rintro _ w10 ⟨p10, q10, rfl, F10, c10⟩
 have z10 := c10.size
 refine Oq (Qi κ296 rfl (fly_plus _ _ _ _ _)) rfl ?_
 rintro _ w11 ⟨p11, q11, rfl, F11, c11⟩
 have z11 := c11.size
 refine Om (Qc rfl) rfl (Om (Qc rfl) rfl (Oq (Qi Tryz.call122 rfl (cplx_TimesI _ _ _)) rfl ?_))
 rintro _ w12 ⟨p12, q12, rfl, F12, c12⟩
 have z12 := c12.size
 refine Oq (Qi κ296 rfl (fly_plus _ _ _ _ _)) rfl ?_
 rintro _ w13 ⟨p13, q13, rfl, F13, c13⟩
 have z13 := c13.size
 refine Om (Cl rfl (bld288_0_1_2w82 rfl)) rfl ?_
 have b2_13 := b2_6.keep (c7.trans (c8.trans (c9.trans (c10.trans (c11.trans (c12.trans c13))))))
 refine Oz (Cf ς288 rfl rfl rfl rfl b2_13 (Nat.le_of_ble_eq_true rfl)) rfl ?_
 intro _ w14 Z14
 have c14 := Z14.ch; have z14 := Z14.size
 have b2_14 := Bk.put Z14
 refine Qf (Qa (Qp (Rk rfl rfl Tryz.isAgg288 ς288 rfl (b2_14.all' rfl) (Ret.mk ?_))))
 have cc_0_14 : Ch No w w14 := (Ch.then (E := No) ((((((((((((c1.and c2).and c3).and c4).and c5).and c6).and c7).and c8).and c9).and c10).and c11).and c12).and c13) c14 (by intro q h1 h2; rcases h2 with h2 | h2 <;> first | exact h2 | (exfalso; omega)))
 have CH_14 := (Ch.refl (No) w).and cc_0_14
 exact ⟨(_, _), (_, _), (_, _), rfl, (by simp only [F3, F4, F5, F7, F8, F9, F10, F11, F12, F13]; rfl), CH_14⟩
set_option maxHeartbeats 1000000 in
theorem fly_Five (x y u v z : CB) (w : World) :
  Calls Tryz.prog 280 #[.agg #[.complex .f64 x.1 x.2, .complex .f64 y.1 y.2, .complex .f64 u.1 u.2, .complex .f64 v.1 v.2, .complex .f64 z.1 z.2]] w (Ret (fun r w' => ∃ a b c d e : CB, r = .agg #[cxV a, cxV b, cxV c, cxV d, cxV e] ∧ [cx a, cx b, cx c, cx d, cx e] = fl5 (cx x) (cx y) (cx u) (cx v) (cx z) ∧ Ch No w w')) := by
 refine calls_of_VC (args := [.agg #[.complex .f64 x.1 x.2, .complex .f64 y.1 y.2, .complex .f64 u.1 u.2, .complex .f64 v.1 v.2, .complex .f64 z.1 z.2]]) Tryz.func280 rfl Tryz.ntmps280 rfl (Qe (Qb (Oq (Cj rfl) rfl ?_)))
 rintro _ w1 ⟨p1, rfl, N1⟩
 have c1 := N1.ch
 have e1 := N1.p; have z1 := N1.size
 have b1 := Bk.new N1
 refine Oq (Cc ζ292) rfl ?_
 rintro _ w2 ⟨p2, rfl, N2⟩
 have c2 := N2.ch
 have e2 := N2.p; have z2 := N2.size
 have b2 := Bk.new N2
 refine Qf (Qa (Qe (Ci 11 [(0, true), (1, true), (2, true), (3, true), (5, true), (6, true), (7, true), (8, true), (4, false), (9, false), (10, true)] (fun w1 w' => Ch (No) w1 w') mixed (by kernel_rfl) (fun _ _ => Ch.refl _ _) ?_)))
 intro w3 D3
 have c3 := Ch.of_drew D3; have z3 := c3.size
 have b1_3 := b1.keep (c2.trans c3)
 have b2_3 := b2.keep c3
 refine Hm (fun w' hS => Co (o' := 1) υ292 ς33 rfl rfl (by decide) (by decide) rfl) rfl (Hm (fun w' hS => Qh ι33 rfl ((b1_3.keep hS).cell rfl)) rfl (Hm (fun w' hS => Co (o' := 4) υ292 ς33 rfl rfl (by decide) (by decide) rfl) rfl (Hm (fun w' hS => Qh ι33 rfl ((b1_3.keep hS).cell rfl)) rfl (Hm (fun w' hS => Co (o' := 1) υ292 ς33 rfl rfl (by decide) (by decide) rfl) rfl (Hm (fun w' hS => Qh ι33 rfl ((b1_3.keep hS).cell rfl)) rfl (Hm (fun w' hS => Co (o' := 4) υ292 ς33 rfl rfl (by decide) (by decide) rfl) rfl (Hm (fun w' hS => Qh ι33 rfl ((b1_3.keep hS).cell rfl)) rfl ?_)))))))
 refine Hq (Qi κ296 rfl (fly_plus _ _ _ _ _)) rfl ?_
 rintro _ w4 ⟨p4, q4, rfl, F4, c4⟩
 have z4 := c4.size
 have RD_4 := (Ch.refl (No) w3).and c4
 refine ⟨RD_4, ?_⟩
 refine Hq (Qi κ297 rfl (fly_less _ _ _ _ _)) rfl ?_
 rintro _ w5 ⟨p5, q5, rfl, F5, c5⟩
 have z5 := c5.size
 have RD_5 := RD_4.and c5
 refine ⟨RD_5, ?_⟩
 refine Hm (fun w' hS => Qd rfl) rfl (Cn (Om (Qd rfl) rfl (Qf (Qx (Qa (Qe (Ci 11 [(0, true), (1, true), (2, true), (3, true), (5, true), (6, true), (7, true), (8, true), (4, false), (9, false), (10, true)] (fun w1 w' => Ch (No) w1 w') mixed (by kernel_rfl) (fun _ _ => Ch.refl _ _) ?_)))))))
 intro w6 D6
 have c6 := Ch.of_drew D6; have z6 := c6.size
 have b1_6 := b1_3.keep (c4.trans (c5.trans c6))
 have b2_6 := b2_3.keep (c4.trans (c5.trans c6))
 refine Hm (fun w' hS => Co (o' := 2) υ292 ς33 rfl rfl (by decide) (by decide) rfl) rfl (Hm (fun w' hS => Qh ι33 rfl ((b1_6.keep hS).cell rfl)) rfl (Hm (fun w' hS => Co (o' := 3) υ292 ς33 rfl rfl (by decide) (by decide) rfl) rfl (Hm (fun w' hS => Qh ι33 rfl ((b1_6.keep hS).cell rfl)) rfl (Hm (fun w' hS => Co (o' := 2) υ292 ς33 rfl rfl (by decide) (by decide) rfl) rfl (Hm (fun w' hS => Qh ι33 rfl ((b1_6.keep hS).cell rfl)) rfl (Hm (fun w' hS => Co (o' := 3) υ292 ς33 rfl rfl (by decide) (by decide) rfl) rfl (Hm (fun w' hS => Qh ι33 rfl ((b1_6.keep hS).cell rfl)) rfl ?_)))))))
 refine Hq (Qi κ296 rfl (fly_plus _ _ _ _ _)) rfl ?_
 rintro _ w7 ⟨p7, q7, rfl, F7, c7⟩
 have z7 := c7.size
 have RD_7 := (Ch.refl (No) w6).and c7
 refine ⟨RD_7, ?_⟩
 refine Hq (Qi κ297 rfl (fly_less _ _ _ _ _)) rfl ?_
 rintro _ w8 ⟨p8, q8, rfl, F8, c8⟩
 have z8 := c8.size
 have RD_8 := RD_7.and c8
 refine ⟨RD_8, ?_⟩
 refine Hm (fun w' hS => Qd rfl) rfl (Cn (Om (Qd rfl) rfl (Qf (Qx (Qa (Qe (Ci 8 [(0, true), (1, true), (2, true), (4, true), (3, false), (5, false), (6, false), (7, false)] (fun w1 w' => Ch (No) w1 w') mixed (by kernel_rfl) (fun _ _ => Ch.refl _ _) ?_)))))))
 intro w9 D9
 have c9 := Ch.of_drew D9; have z9 := c9.size
 have b1_9 := b1_6.keep (c7.trans (c8.trans c9))
 have b2_9 := b2_6.keep (c7.trans (c8.trans c9))
 refine Hm (fun w' hS => Co (o' := 0) υ292 ς33 rfl rfl (by decide) (by decide) rfl) rfl (Hm (fun w' hS => Qh ι33 rfl ((b1_9.keep hS).cell rfl)) rfl (Hm (fun w' hS => Qc rfl) rfl (Hm (fun w' hS => Qc rfl) rfl (Hq (Qi κ79 rfl (cplx_Times _ _ _ _)) rfl ?_))))
 rintro _ w10 ⟨p10, q10, rfl, F10, c10⟩
 have z10 := c10.size
 have RD_10 := (Ch.refl (No) w9).and c10
 refine ⟨RD_10, ?_⟩
 refine Hq (Qi κ79 rfl (cplx_Times _ _ _ _)) rfl ?_
 rintro _ w11 ⟨p11, q11, rfl, F11, c11⟩
 have z11 := c11.size
 have RD_11 := RD_10.and c11
 refine ⟨RD_11, ?_⟩
 refine Hq (Qi κ296 rfl (fly_plus _ _ _ _ _)) rfl ?_
 rintro _ w12 ⟨p12, q12, rfl, F12, c12⟩
 have z12 := c12.size
 have RD_12 := RD_11.and c12
 refine ⟨RD_12, ?_⟩
 refine Hq (Qi κ296 rfl (fly_plus _ _ _ _ _)) rfl ?_
 rintro _ w13 ⟨p13, q13, rfl, F13, c13⟩
 have z13 := c13.size
 have RD_13 := RD_12.and c13
 refine ⟨RD_13, ?_⟩
 refine Cn (Om (Qd rfl) rfl (Qf (Qx (Qa (Qe (Ci 8 [(0, true), (1, true), (2, true), (4, true), (3, false), (5, false), (6, false), (7, false)] (fun w1 w' => Ch (No) w1 w') mixed (by kernel_rfl) (fun _ _ => Ch.refl _ _) ?_))))))
 intro w14 D14
 have c14 := Ch.of_drew D14; have z14 := c14.size
 have b1_14 := b1_9.keep (c10.trans (c11.trans (c12.trans (c13.trans c14))))
 have b2_14 := b2_9.keep (c10.trans (c11.trans (c12.trans (c13.trans c14))))
 refine Hm (fun w' hS => Co (o' := 0) υ292 ς33 rfl rfl (by decide) (by decide) rfl) rfl (Hm (fun w' hS => Qh ι33 rfl ((b1_14.keep hS).cell rfl)) rfl (Hm (fun w' hS => Qc rfl) rfl (Hm (fun w' hS => Qc rfl) rfl (Hq (Qi κ79 rfl (cplx_Times _ _ _ _)) rfl ?_))))
 rintro _ w15 ⟨p15, q15, rfl, F15, c15⟩
 have z15 := c15.size
 have RD_15 := (Ch.refl (No) w14).and c15
 refine ⟨RD_15, ?_⟩
 refine Hq (Qi κ79 rfl (cplx_Times _ _ _ _)) rfl ?_
 rintro _ w16 ⟨p16, q16, rfl, F16, c16⟩
 have z16 := c16.size
 have RD_16 := RD_15.and c16
 refine ⟨RD_16, ?_⟩
 refine Hq (Qi κ296 rfl (fly_plus _ _ _ _ _)) rfl ?_
 rintro _ w17 ⟨p17, q17, rfl, F17, c17⟩
 have z17 := c17.size
 have RD_17 := RD_16.and c17
 refine ⟨RD_17, ?_⟩
 refine Hq (Qi κ296 rfl (fly_plus _ _ _ _ _)) rfl ?_
 rintro _ w18 ⟨p18, q18, rfl, F18, c18⟩
 have z18 := c18.size
 have RD_18 := RD_17.and c18
 refine ⟨RD_18, ?_⟩
 refine Cn (Om (Qd rfl) rfl (Qf (Qx (Qa (Qe (Qb (Om (Qc rfl) rfl ?_)))))))
 refine Oq (Qi κ79 rfl (cplx_Times _ _ _ _)) rfl ?_
 rintro _ w19 ⟨p19, q19, rfl, F19, c19⟩
 have z19 := c19.size
 refine Om (Qc rfl) rfl (Oq (Qi κ79 rfl (cplx_Times _ _ _ _)) rfl ?_)
 rintro _ w20 ⟨p20, q20, rfl, F20, c20⟩
 have z20 := c20.size
 refine Oq (Qi κ296 rfl (fly_plus _ _ _ _ _)) rfl ?_
 rintro _ w21 ⟨p21, q21, rfl, F21, c21⟩
 have z21 := c21.size
 refine Om (Qd rfl) rfl (Qf (Qa (Qe (Qb (Om (Qc rfl) rfl (Oq (Qi κ79 rfl (cplx_Times _ _ _ _)) rfl ?_))))))
 rintro _ w22 ⟨p22, q22, rfl, F22, c22⟩
 have z22 := c22.size
 refine Om (Qc rfl) rfl (Oq (Qi κ79 rfl (cplx_Times _ _ _ _)) rfl ?_)
 rintro _ w23 ⟨p23, q23, rfl, F23, c23⟩
 have z23 := c23.size
 refine Oq (Qi κ297 rfl (fly_less _ _ _ _ _)) rfl ?_
 rintro _ w24 ⟨p24, q24, rfl, F24, c24⟩
 have z24 := c24.size
 refine Om (Qd rfl) rfl (Qf (Qa (Qe (Ci 23 [(0, true), (1, true), (2, true), (3, true), (6, true), (7, true), (10, true), (11, true), (14, true), (15, true), (18, true), (19, true), (4, false), (5, false), (8, false), (9, false), (12, false), (13, false), (16, false), (17, false), (20, false), (21, false), (22, true)] (fun w1 w' => Ch (No) w1 w') mixed (by kernel_rfl) (fun _ _ => Ch.refl _ _) ?_))))
 intro w25 D25
 have c25 := Ch.of_drew D25; have z25 := c25.size
 have b1_25 := b1_14.keep (c15.trans (c16.trans (c17.trans (c18.trans (c19.trans (c20.trans (c21.trans (c22.trans (c23.trans (c24.trans c25))))))))))
 have b2_25 := b2_14.keep (c15.trans (c16.trans (c17.trans (c18.trans (c19.trans (c20.trans (c21.trans (c22.trans (c23.trans (c24.trans c25))))))))))
 refine Hm (fun w' hS => Co (o' := 0) υ292 ς33 rfl rfl (by decide) (by decide) rfl) rfl (Hm (fun w' hS => Qh ι33 rfl ((b1_25.keep hS).cell rfl)) rfl (Hm (fun w' hS => Qc rfl) rfl (Hm (fun w' hS => Qc rfl) rfl (Hm (fun w' hS => Qc rfl) rfl (Hm (fun w' hS => Qc rfl) rfl (Hm (fun w' hS => Qc rfl) rfl (Hm (fun w' hS => Qc rfl) rfl ?_)))))))
 refine Hm (fun w' hS => Qc rfl) rfl (Hm (fun w' hS => Qc rfl) rfl (Hm (fun w' hS => Qc rfl) rfl (Hm (fun w' hS => Qc rfl) rfl (Hq (Qi κ296 rfl (fly_plus _ _ _ _ _)) rfl ?_))))
 rintro _ w26 ⟨p26, q26, rfl, F26, c26⟩
 have z26 := c26.size
 have RD_26 := (Ch.refl (No) w25).and c26
 refine ⟨RD_26, ?_⟩
 refine Hq (Qi κ296 rfl (fly_plus _ _ _ _ _)) rfl ?_
 rintro _ w27 ⟨p27, q27, rfl, F27, c27⟩
 have z27 := c27.size
 have RD_27 := RD_26.and c27
 refine ⟨RD_27, ?_⟩
 refine Hq (Qi κ80 rfl (cplx_MinusI _ _ _)) rfl ?_
 rintro _ w28 ⟨p28, q28, rfl, F28, c28⟩
 have z28 := c28.size
 have RD_28 := RD_27.and c28
 refine ⟨RD_28, ?_⟩
 refine Hq (Qi κ296 rfl (fly_plus _ _ _ _ _)) rfl ?_
 rintro _ w29 ⟨p29, q29, rfl, F29, c29⟩
 have z29 := c29.size
 have RD_29 := RD_28.and c29
 refine ⟨RD_29, ?_⟩
 refine Hq (Qi κ80 rfl (cplx_MinusI _ _ _)) rfl ?_
 rintro _ w30 ⟨p30, q30, rfl, F30, c30⟩
 have z30 := c30.size
 have RD_30 := RD_29.and c30
 refine ⟨RD_30, ?_⟩
 refine Hq (Qi κ296 rfl (fly_plus _ _ _ _ _)) rfl ?_
 rintro _ w31 ⟨p31, q31, rfl, F31, c31⟩
 have z31 := c31.size
 have RD_31 := RD_30.and c31
 refine ⟨RD_31, ?_⟩
 refine Hq (Qi Tryz.call122 rfl (cplx_TimesI _ _ _)) rfl ?_
 rintro _ w32 ⟨p32, q32, rfl, F32, c32⟩
 have z32 := c32.size
 have RD_32 := RD_31.and c32
 refine ⟨RD_32, ?_⟩
 refine Hq (Qi κ296 rfl (fly_plus _ _ _ _ _)) rfl ?_
 rintro _ w33 ⟨p33, q33, rfl, F33, c33⟩
 have z33 := c33.size
 have RD_33 := RD_32.and c33
 refine ⟨RD_33, ?_⟩
 refine Hq (Qi Tryz.call122 rfl (cplx_TimesI _ _ _)) rfl ?_
 rintro _ w34 ⟨p34, q34, rfl, F34, c34⟩
 have z34 := c34.size
 have RD_34 := RD_33.and c34
 refine ⟨RD_34, ?_⟩
 refine Hq (Qi κ296 rfl (fly_plus _ _ _ _ _)) rfl ?_
 rintro _ w35 ⟨p35, q35, rfl, F35, c35⟩
 have z35 := c35.size
 have RD_35 := RD_34.and c35
 refine ⟨RD_35, ?_⟩
 refine Hm (fun w' hS => Cl rfl (bld292_0_1_2_3_4w82 rfl)) rfl (Cn ?_)
 have b2_35 := b2_25.keep (c26.trans (c27.trans (c28.trans (c29.trans (c30.trans (c31.trans (c32.trans (c33.trans (c34.trans c35)))))))))
 refine Oz (Cf ς292 rfl rfl rfl rfl b2_35 (Nat.le_of_ble_eq_true rfl)) rfl ?_
 intro _ w36 Z36
 have c36 := Z36.ch; have z36 := Z36.size
 have b2_36 := Bk.put Z36
 refine Qf (Qx (Qa (Qp (Rk rfl rfl Tryz.isAgg292 ς292 rfl (b2_36.all' rfl) (Ret.mk ?_)))))
 have cc_0_36 : Ch No w w36 := (Ch.then (E := No) ((((((((((((((((((((((((((((((((((c1.and c2).and c3).and c4).and c5).and c6).and c7).and c8).and c9).and c10).and c11).and c12).and c13).and c14).and c15).and c16).and c17).and c18).and c19).and c20).and c21).and c22).and c23).and c24).and c25).and c26).and c27).and c28).and c29).and c30).and c31).and c32).and c33).and c34).and c35) c36 (by intro q h1 h2; rcases h2 with h2 | h2 <;> first | exact h2 | (exfalso; omega)))
 have CH_36 := (Ch.refl (No) w).and cc_0_36
 exact ⟨(_, _), (_, _), (_, _), (_, _), (_, _), rfl, (by simp only [F4, F5, F7, F8, F10, F11, F12, F13, F15, F16, F17, F18, F19, F20, F21, F22, F23, F24, F26, F27, F28, F29, F30, F31, F32, F33, F34, F35]; rfl), CH_36⟩
theorem fly_Fly3 (p c : Nat) (x y u : CB) (S : Nat → Prop) (w : World) (sl : SlR S w (some ⟨p, 0, none⟩) 3 1 ([x, y, u].map cxV)) :
  Calls Tryz.prog 250 #[.slice (some ⟨p, 0, none⟩) 3 c] w (Ret (fun r w' => ∃ (q : Nat) (zs : List CB), r = .tuple #[.slice (some ⟨q, 0, none⟩) 3 3, .nilIface] ∧ zs.map cx = flyG ([x, y, u].map cx) ∧ SlR (Is q) w' (some ⟨q, 0, none⟩) 3 1 (zs.map cxV) ∧ w.heap.size ≤ q ∧ Ch No w w')) := by
 refine calls_of_VC (args := [.slice (some ⟨p, 0, none⟩) 3 c]) Tryz.func250 rfl Tryz.ntmps250 rfl (Qe (Qb (Om (Qd rfl) rfl (Om (Qd rfl) rfl (Qf (Qa (Qe ?_)))))))
 refine Qe (Qb (Om (Qc rfl) rfl (Om (Ra υ31 rfl) rfl (Qf (Qa (Qw (Qe ?_)))))))
 refine Qb (Om (Cm rfl rfl) rfl (Om (Qd rfl) rfl (Qf (Qa (Qj rfl (fun hc1 => ?_) (fun hc1 => ?_))))))
 ·
  omega
 ·
  refine Qe (Qb (Om (Cm rfl rfl) rfl (Om (Qd rfl) rfl (Qf (Qa (Qj rfl (fun hc2 => ?_) (fun hc2 => ?_)))))))
  ·
   refine Qe (Qb (Om (Qc rfl) rfl (Om (Rn.toArr υ288 rfl (by omega)) rfl (Om (Qr Tryz.isAgg288 ς288 rfl rfl (sl.cells _ rfl)) rfl (Oq (Qi Tryz.call278 rfl (fly_Three _ _ _ _)) rfl ?_)))))
   rintro _ w1 ⟨u1, v1, x1, rfl, F1, c1⟩
   have z1 := c1.size
   refine Oq (Cc ζ288) rfl ?_
   rintro _ w2 ⟨p2, rfl, N2⟩
   have c2 := N2.ch
   have e2 := N2.p; have z2 := N2.size
   have b5 := Bk.new N2
   refine Oz (Cf ς288 rfl rfl rfl rfl b5 (Nat.le_of_ble_eq_true rfl)) rfl ?_
   intro _ w3 Z3
   have c3 := Z3.ch; have z3 := Z3.size
   have b5_3 := Bk.put Z3
   refine Qf (Qa (Qe (Qb (Om (Rn.sliceAll υ288 ς33 rfl (by decide)) rfl (Om (Qd rfl) rfl (Om (Qd rfl) rfl (Qf ?_)))))))
   refine Qa (Qp (Cd (Qu (Cz rfl rfl rfl (Ret.mk ?_)))))
   have cc_0_3 : Ch No w w3 := (Ch.then (E := No) (c1.and c2) c3 (by intro q h1 h2; rcases h2 with h2 | h2 <;> first | exact h2 | (exfalso; omega)))
   have CH_3 := (Ch.refl (No) w).and cc_0_3
   have zz := CH_3.size
   exact ⟨_, [u1, v1, x1], rfl, by rw [show List.map cx [u1, v1, x1] = [cx u1, cx v1, cx x1] from rfl, F1]; rfl, ⟨rfl, fun _ => ⟨_, rfl⟩, fun ad h => (by injection h with h; subst h; exact (b5_3).all' rfl), fun ad h => (by injection h with h; subst h; rfl)⟩, by omega, CH_3⟩
  ·
   omega
theorem fly_Fly5 (p c : Nat) (x y u v z : CB) (S : Nat → Prop) (w : World) (sl : SlR S w (some ⟨p, 0, none⟩) 5 1 ([x, y, u, v, z].map cxV)) :
  Calls Tryz.prog 250 #[.slice (some ⟨p, 0, none⟩) 5 c] w (Ret (fun r w' => ∃ (q : Nat) (zs : List CB), r = .tuple #[.slice (some ⟨q, 0, none⟩) 5 5, .nilIface] ∧ zs.map cx = flyG ([x, y, u, v, z].map cx) ∧ SlR (Is q) w' (some ⟨q, 0, none⟩) 5 1 (zs.map cxV) ∧ w.heap.size ≤ q ∧ Ch No w w')) := by
 refine calls_of_VC (args := [.slice (some ⟨p, 0, none⟩) 5 c]) Tryz.func250 rfl Tryz.ntmps250 rfl (Qe (Qb (Om (Qd rfl) rfl (Om (Qd rfl) rfl (Qf (Qa (Qe ?_)))))))
 refine Qe (Qb (Om (Qc rfl) rfl (Om (Ra υ31 rfl) rfl (Qf (Qa (Qw (Qe ?_)))))))
 refine Qb (Om (Cm rfl rfl) rfl (Om (Qd rfl) rfl (Qf (Qa (Qj rfl (fun hc1 => ?_) (fun hc1 => ?_))))))
 ·
  omega
 ·
  refine Qe (Qb (Om (Cm rfl rfl) rfl (Om (Qd rfl) rfl (Qf (Qa (Qj rfl (fun hc2 => ?_) (fun hc2 => ?_)))))))
  ·
   omega
  ·
   refine Qe (Qb (Om (Cm rfl rfl) rfl (Om (Qd rfl) rfl (Qf (Qa (Qj rfl (fun hc3 => ?_) (fun hc3 => ?_)))))))
   ·
    omega
   ·
    refine Qe (Qb (Om (Cm rfl rfl) rfl (Om (Qd rfl) rfl (Qf (Qa (Qj rfl (fun hc4 => ?_) (fun hc4 => ?_)))))))
    ·
     refine Qe (Qb (Om (Qc rfl) rfl (Om (Rn.toArr υ292 rfl (by omega)) rfl (Om (Qr Tryz.isAgg292 ς292 rfl rfl (sl.cells _ rfl)) rfl (Oq (Qi Tryz.call280 rfl (fly_Five _ _ _ _ _ _)) rfl ?_)))))
     rintro _ w1 ⟨u1, v1, x1, y1, z_1, rfl, F1, c1⟩
     have z1 := c1.size
     refine Oq (Cc ζ292) rfl ?_
     rintro _ w2 ⟨p2, rfl, N2⟩
     have c2 := N2.ch
     have e2 := N2.p; have z2 := N2.size
     have b7 := Bk.new N2
     refine Oz (Cf ς292 rfl rfl rfl rfl b7 (Nat.le_of_ble_eq_true rfl)) rfl ?_
     intro _ w3 Z3
     have c3 := Z3.ch; have z3 := Z3.size
     have b7_3 := Bk.put Z3
     refine Qf (Qa (Qe (Qb (Om (Rn.sliceAll υ292 ς33 rfl (by decide)) rfl (Om (Qd rfl) rfl (Om (Qd rfl) rfl (Qf ?_)))))))
     refine Qa (Qp (Cd (Qu (Cz rfl rfl rfl (Ret.mk ?_)))))
     have cc_0_3 : Ch No w w3 := (Ch.then (E := No) (c1.and c2) c3 (by intro q h1 h2; rcases h2 with h2 | h2 <;> first | exact h2 | (exfalso; omega)))
     have CH_3 := (Ch.refl (No) w).and cc_0_3
     have zz := CH_3.size
     exact ⟨_, [u1, v1, x1, y1, z_1], rfl, by rw [show List.map cx [u1, v1, x1, y1, z_1] = [cx u1, cx v1, cx x1, cx y1, cx z_1] from rfl, F1]; rfl, ⟨rfl, fun _ => ⟨_, rfl⟩, fun ad h => (by injection h with h; subst h; exact (b7_3).all' rfl), fun ad h => (by injection h with h; subst h; rfl)⟩, by omega, CH_3⟩
    ·
     omega
theorem fly_FlyG (p c : Nat) (zs : List CB) (n : Nat) (h2 : 2 ≤ n) (h5 : n ≤ 5) (S : Nat → Prop) (w : World) (sl : SlR S w (some ⟨p, 0, none⟩) n 1 (zs.map cxV)) : Calls Tryz.prog 250 #[.slice (some ⟨p, 0, none⟩) n c] w (Ret fun r w' => ∃ (q : Nat) (ys : List CB), r = .tuple #[.slice (some ⟨q, 0, none⟩) n n, .nilIface] ∧ ys.map cx = flyG (zs.map cx) ∧ SlR (Is q) w' (some ⟨q, 0, none⟩) n 1 (ys.map cxV) ∧ w.heap.size ≤ q ∧ Ch No w w') := by
  have hl : zs.length = n := by have := sl.len; simpa using this
  match n, h2, h5 with
  | 2, _, _ => match zs, hl with
    | [x, y], _ => exact fly_Fly2 p c x y S w sl
  | 3, _, _ => match zs, hl with
    | [x, y, u], _ => exact fly_Fly3 p c x y u S w sl
  | 4, _, _ => match zs, hl with
    | [x, y, u, v], _ => exact fly_Fly4 p c x y u v S w sl
  | 5, _, _ => match zs, hl with
    | [x, y, u, v, z], _ => exact fly_Fly5 p c x y u v z S w sl
theorem roots_AllG (n : Nat) (hn : 1 ≤ n) (hn2 : n ≤ 16384) (w : World) :
  Calls Tryz.prog 298 #[.int .i64 n] w (Ret (fun v w' => ∃ q rs, v = .tuple #[.slice (some ⟨q, 0, none⟩) n n, .nilIface] ∧ w.heap.size ≤ q ∧ CR 33 w' (q + 1) (some ⟨q, 0, none⟩) n n rs ∧ RootsG n rs ∧ Ch No w w')) := by
 refine calls_of_VC (args := [.int .i64 n]) Tryz.func298 rfl Tryz.ntmps298 rfl (Qe (Qb (Om (Qd rfl) rfl (Om (Qd rfl) rfl (Qf (Qa (Qe ?_)))))))
 refine Qe (Qb (Om (Qc rfl) rfl (Om (Cs rfl rfl) rfl (Om (Qc rfl) rfl ?_))))
 refine Rd (b := _) 3 8 11 rfl (fun hc1 Jhc1 => by
   refine Oy rfl (Oy rfl (Om (Qt rfl rfl) rfl ?_))
   exact (Qs rfl (Qs rfl Jhc1))) (fun hc1 Jhc1 => by
   try simp only [bX] at hc1
   refine Om (Qc rfl) rfl (Om (Rb rfl rfl) rfl (Om (Qm rfl rfl) rfl ?_))
   exact (Qs rfl (Qs rfl Jhc1))) ?_
 refine Qf (Qa (Cu rfl (fun hc2 => ?_) (fun hc2 => ?_)))
 ·
  try simp only [bX] at hc2
  omega
 ·
  try simp only [bX] at hc2
  refine Qn (Qa (Qe (Qb (Om (Qc rfl) rfl (Oq (Wk.mkC υ31 inf33w82 rfl rfl (by omega) (by omega) (by omega)) rfl ?_)))))
  rintro _ w1 ⟨p1, rfl, o1, c1, e1, z1⟩
  refine Om (Qd rfl) rfl (Qf (Qa (Qe (Qe (Qb (Om (Qc rfl) rfl (Om (Ra υ31 rfl) rfl ?_)))))))
  refine Om (Qc rfl) rfl (Qf (Qa (Qw ?_)))
  have CH_1 := (Ch.refl (No) w).and c1
  refine Cp (σ := Nat × List CB) (fun (j, rs) => [(0, .int .i64 n), (4, .slice (some ⟨p1, 0, none⟩) n n), (16, .int .i64 n), (17, .int .i64 j)]) (fun (j, rs) w' => j ≤ n ∧ (∀ i, i < j → cx (rs.getD i (0, 0)) = rootF n i) ∧ w1.heap.size ≤ w'.heap.size ∧ CR 33 w' (p1 + 1) (some ⟨p1, 0, none⟩) n n rs ∧ Ch (No) w w') (fun (j, rs) => n - j) (0, List.replicate n (0, 0)) ?_ ⟨rfl, rfl, rfl, rfl, trivial⟩ ?_
  · exact ⟨(by omega), (fun i h => absurd h (by omega)), (Nat.le_refl _), o1, CH_1⟩
  rintro ⟨j, rs⟩ w2 ⟨hj, hr, hsz2, row_2, CH_2⟩
  show VC _ _ _ _ [(0, .int .i64 n), (4, .slice (some ⟨p1, 0, none⟩) n n), (16, .int .i64 n), (17, .int .i64 j)] _
  have hrl := CR.len row_2
  have hjm : j < n → (j : Int) % (n : Int) = (j : Int) := fun h => Int.emod_eq_of_lt (by omega) (by omega)
  refine Qe (Qb (Om (Cs rfl rfl) rfl (Qf (Qa (Qe (Qj rfl (fun hc3 => ?_) (fun hc3 => ?_)))))))
  ·
   refine Qn (Qa (Qe (Qw (Qe (Qb (Om (Qc rfl) rfl (Om (Qd rfl) rfl ?_)))))))
   refine Qf (Qa (Qb (Om (Qc rfl) rfl (Om (Qc rfl) rfl (Om (Qc rfl) rfl (Om (Qc rfl) rfl (Oq (Qi Tryz.call46 rfl (roots_RootG _ _ j (by omega) (by omega) ⟨by omega, by omega⟩ (hjm (by omega)) _)) rfl ?_)))))))
   rintro _ w3 ⟨x3, y3, rfl, F3, c3⟩
   have z3 := c3.size
   refine Om (Qc rfl) rfl (Om (Qq rfl rfl) rfl (Om (Qq rfl rfl) rfl ?_))
   have row_3 := row_2.keep c3
   refine Om (Cb υ31 ς33 rfl rfl (row_3.sl.ne (by omega)) (by omega) (by omega)) rfl (Oz (Rl ς33 rfl rfl (by omega) row_3) rfl ?_)
   rintro _ w4 ⟨o4, c4, z4⟩
   have y4 := o4.lt
   refine Qf (Qo (Qa (Qb ?_)))
   refine Om (Ce rfl rfl (by rw [IntKind.wrap_i64]; omega)) rfl ?_
   refine Om (Qc rfl) rfl (Qf ?_)
   refine Ck (j + 1, rs.set j (x3, y3)) (by first | omega | (dsimp only; omega)) ?_ ⟨rfl, rfl, rfl, rfl, trivial⟩
   have CH_3 := CH_2.and c3
   have CH_4 : Ch (No) w w4 := CH_3.then c4
   exact ⟨(by omega), (roots_step hr (by omega) F3), (by omega), o4, CH_4⟩
  ·
   refine Cr (Qk (Qk (Qz (Qa (Qe (Qb (Om (Qc rfl) rfl ?_)))))))
   refine Om (Qd rfl) rfl (Om (Qd rfl) rfl (Qf (Qa (Qp (Cz rfl rfl rfl (Ret.mk ?_))))))
   have e : j = n := by omega
   subst e
   exact ⟨_, _, rfl, by omega, row_2, hr, CH_2⟩
theorem direct_tableG (n : Nat) (hn : 1 ≤ n) (hn2 : n ≤ 64) (w : World) :
  Calls Tryz.prog 281 #[.int .i64 n] w (Ret (fun v w' => ∃ q rs, v = .tuple #[.slice (some ⟨q, 0, none⟩) n n, .nilIface] ∧ w.heap.size ≤ q ∧ CR 33 w' (q + 1) (some ⟨q, 0, none⟩) n n rs ∧ RootsG n rs ∧ Ch No w w')) := by
 refine calls_of_VC (args := [.int .i64 n]) Tryz.func281 rfl Tryz.ntmps281 rfl (Qe (Qb (Om (Qd rfl) rfl (Om (Qd rfl) rfl (Qf (Qa (Qe ?_)))))))
 refine Qe (Qb (Om (Qc rfl) rfl (Om (Cs rfl rfl) rfl (Om (Qc rfl) rfl ?_))))
 refine Rd (b := _) 3 6 9 rfl (fun hc1 Jhc1 => by
   refine Oy rfl (Oy rfl (Om (Qt rfl rfl) rfl ?_))
   exact (Qs rfl (Qs rfl Jhc1))) (fun hc1 Jhc1 => by
   try simp only [bX] at hc1
   refine Om (Qc rfl) rfl (Om (Rb rfl rfl) rfl (Om (Qm rfl rfl) rfl ?_))
   exact (Qs rfl (Qs rfl Jhc1))) ?_
 refine Qf (Qa (Cu rfl (fun hc2 => ?_) (fun hc2 => ?_)))
 ·
  try simp only [bX] at hc2
  omega
 ·
  try simp only [bX] at hc2
  refine Qn (Qa (Qe (Qb (Om (Qc rfl) rfl (Oq (Qi Tryz.call298 rfl (roots_AllG _ (by omega) (by omega) _)) rfl ?_)))))
  rintro _ w1 ⟨q1, rs1, rfl, e1, ro1, hrs1, c1⟩
  have z1 := c1.size
  refine Om (Qq rfl rfl) rfl (Om (Qq rfl rfl) rfl (Om (Qd rfl) rfl (Om (Qd rfl) rfl (Qf (Qa (Qp (Cz rfl rfl rfl ?_)))))))
  refine Ret.mk ?_
  have CH_1 := (Ch.refl (No) w).and c1
  exact ⟨_, _, rfl, by omega, ro1, hrs1, CH_1⟩
theorem direct_sumG (S : Nat → Prop) (w : World) (p5 p6 p7 : Nat) (A : Option Addr) (l c : Nat) (xs : List CB) (u v : Nat) (hl : l ≤ 1000000) (hu : u ≤ 1000000) (at_ : AtR S w p5 p6 p7 A l c xs u v) (n k : Nat) (hn : 1 ≤ n) (hn2 : n ≤ 64) (hk : k < n) (hb : ∀ j, j < n → u + j * v < l) (q : Nat) (rs : List CB) (ro : CR 33 w (q + 1) (some ⟨q, 0, none⟩) n n rs) (hrs : RootsG n rs) :
  Calls Tryz.prog 282 #[.slice (some ⟨q, 0, none⟩) n n, .int .i64 k, .func (.func 283) #[] #[.pointer (some ⟨p5, 0, none⟩), .pointer (some ⟨p6, 0, none⟩), .pointer (some ⟨p7, 0, none⟩)]] w (Ret (fun r w' => ∃ a b, r = .complex .f64 a b ∧ cx (a, b) = directG n k (XX xs u v) ∧ Ch No w w')) := by
 have hke : (((k : Int) % (n : Int) + (n : Int)) % (n : Int)) = (k : Int) := by rw [Int.add_emod_right, Int.emod_emod]; exact Int.emod_eq_of_lt (by omega) (by omega)
 have h1 := Int.emod_nonneg (k : Int) (show (n : Int) ≠ 0 by omega)
 have h2 := Int.emod_lt_of_pos (k : Int) (show (0 : Int) < n by omega)
 refine calls_of_VC (args := [.slice (some ⟨q, 0, none⟩) n n, .int .i64 k, .func (.func 283) #[] #[.pointer (some ⟨p5, 0, none⟩), .pointer (some ⟨p6, 0, none⟩), .pointer (some ⟨p7, 0, none⟩)]]) Tryz.func282 rfl Tryz.ntmps282 rfl (Qe (Qb (Om (Qd rfl) rfl (Qf (Qa (Qe (Qb ?_)))))))
 refine Om (Qc rfl) rfl (Om (Ra υ31 rfl) rfl (Om (Qd rfl) rfl (Qf (Qa (Qe (Qb (Om (Qc rfl) rfl ?_)))))))
 refine Om (Qc rfl) rfl (Om (Rs rfl rfl (by omega) (by omega)) rfl (Om (Qc rfl) rfl ?_))
 refine Om (Ce rfl rfl (by rw [IntKind.wrap_i64]; omega)) rfl ?_
 refine Om (Qc rfl) rfl (Om (Rs rfl rfl (by omega) (by omega)) rfl (Om (Qd rfl) rfl (Qf (Qa (Qe (Qb (Om (Qc rfl) rfl ?_)))))))
 refine Oq (Wd Tryz.call283 rfl rfl (by rfl) (direct_At1 _ _ _ _ _ _ _ _ _ _ _ hl hu at_ 0 (by omega) (hb 0 (by omega)))) rfl ?_
 rintro _ _ ⟨rfl, rfl⟩
 refine Om (Qd rfl) rfl (Qf (Qa (Qe (Qe (Qb (Om (Qd rfl) rfl (Qf ?_)))))))
 refine Qa (Qw (Cp (σ := Nat × Nat × Nat) (fun (j, a, b) => [(0, .slice (some ⟨q, 0, none⟩) n n), (1, .int .i64 (((k : Int) % (n : Int) + (n : Int)) % (n : Int))), (2, .func (.func 283) #[] #[.pointer (some ⟨p5, 0, none⟩), .pointer (some ⟨p6, 0, none⟩), .pointer (some ⟨p7, 0, none⟩)]), (7, .int .i64 n), (8, .complex .f64 a b), (9, .int .i64 j)]) (fun (j, a, b) w' => (1 ≤ j ∧ j ≤ n) ∧ cx (a, b) = sumG n k (XX xs u v) (j - 1) ∧ w.heap.size ≤ w'.heap.size ∧ AtR S w' p5 p6 p7 A l c xs u v ∧ CR 33 w' (q + 1) (some ⟨q, 0, none⟩) n n rs ∧ Ch (No) w w') (fun (j, a, b) => n - j) (1, _, _) ?_ ⟨rfl, rfl, rfl, rfl, rfl, rfl, trivial⟩ ?_))
 · exact ⟨⟨by omega, by omega⟩, (by rfl), (Nat.le_refl _), at_, ro, (Ch.refl (No) w)⟩
 rintro ⟨j, a, b⟩ w1 ⟨hj, hs, hsz1, at__1, ro_1, CH_1⟩
 show VC _ _ _ _ [(0, .slice (some ⟨q, 0, none⟩) n n), (1, .int .i64 (((k : Int) % (n : Int) + (n : Int)) % (n : Int))), (2, .func (.func 283) #[] #[.pointer (some ⟨p5, 0, none⟩), .pointer (some ⟨p6, 0, none⟩), .pointer (some ⟨p7, 0, none⟩)]), (7, .int .i64 n), (8, .complex .f64 a b), (9, .int .i64 j)] _
 have hjk : (j : Int) * (((k : Int) % (n : Int) + (n : Int)) % (n : Int)) = ((j * k : Nat) : Int) := by rw [hke]; push_cast; rfl
 have hjk2 : j * k ≤ 64 * 64 := Nat.mul_le_mul (by omega) (by omega)
 have he : (j : Int) * (((k : Int) % (n : Int) + (n : Int)) % (n : Int)) % (n : Int) = ((j * k % n : Nat) : Int) := by rw [hjk]; norm_cast
 have hlt := Nat.mod_lt (j * k) (show 0 < n by omega)
 refine Qe (Qe (Qb (Om (Qc rfl) rfl (Om (Qc rfl) rfl (Om (Cs rfl rfl) rfl (Qf (Qa ?_)))))))
 refine Qj rfl (fun hc1 => ?_) (fun hc1 => ?_)
 ·
  refine Qn (Qa (Qe (Qw (Qe (Qb (Om (Qc rfl) rfl (Om (Qc rfl) rfl ?_)))))))
  refine Oq (Wd Tryz.call283 rfl rfl (by rfl) (direct_At1 _ _ _ _ _ _ _ _ _ _ _ hl hu at__1 j (by omega) (hb j (by omega)))) rfl ?_
  rintro _ _ ⟨rfl, rfl⟩
  refine Om (Qd rfl) rfl (Qf (Qa (Qe (Qe (Qb (Om (Qc rfl) rfl (Om (Qc rfl) rfl ?_)))))))
  refine Om (Cv rfl rfl (by rw [IntKind.wrap_i64]; omega)) rfl ?_
  refine Om (Qc rfl) rfl (Om (Rs rfl rfl (by omega) (by omega)) rfl (Om (Qd rfl) rfl (Qf (Qa (Qe (Qb (Om (Qc rfl) rfl ?_)))))))
  refine Om (Rn.neq rfl rfl) rfl (Qf (Qa (Qj rfl (fun hc2 => ?_) (fun hc2 => ?_))))
  ·
   refine Qb (Om (Qc rfl) rfl (Om (Qc rfl) rfl (Om (Qc rfl) rfl (Om (Cb υ31 ς33 rfl rfl (ro_1.sl.ne (by omega)) (by omega) (by omega)) rfl (Om (Qh ι33 rfl (ro_1.sl.getC (by omega) (by omega))) rfl (Oq (Qi κ48 rfl (cplx_Mul _ _ _ _ _)) rfl ?_))))))
   rintro _ w2 ⟨p2, q2, rfl, F2, c2⟩
   have z2 := c2.size
   refine Om (Qd rfl) rfl (Qf (Qa (Qb (Om (Qc rfl) rfl (Om (Rw rfl) rfl (Om (Qc rfl) rfl (Om (Rw rfl) rfl ?_)))))))
   refine Oq (Re (.inl rfl) rfl rfl) rfl ?_
   rintro _ w3 ⟨r3, rfl, f3, c3⟩
   have z3 := c3.size
   refine Om (Qc rfl) rfl (Om (Rx rfl) rfl (Om (Qc rfl) rfl (Om (Rx rfl) rfl (Oq (Re (.inl rfl) rfl rfl) rfl ?_))))
   rintro _ w4 ⟨r4, rfl, f4, c4⟩
   have z4 := c4.size
   refine Om (Ru rfl rfl) rfl (Om (Qd rfl) rfl (Qf (Qo (Qa (Qb (Om (Qc rfl) rfl ?_))))))
   refine Om (Ce rfl rfl (by rw [IntKind.wrap_i64]; omega)) rfl ?_
   refine Om (Qd rfl) rfl (Qf ?_)
   refine Ck (j + 1, _, _) (by first | omega | (dsimp only; omega)) ?_ ⟨rfl, rfl, rfl, rfl, rfl, rfl, trivial⟩
   have at__4 := at__1.keep (c2.trans (c3.trans c4))
   have ro_4 := ro_1.keep (c2.trans (c3.trans c4))
   have CH_4 := CH_1.and (c2.trans (c3.trans c4))
   exact ⟨⟨by omega, by omega⟩, sumG_next hj.1 hs f3 f4 (by rw [if_neg (by omega), F2, show ((j : Int) * (((k : Int) % (n : Int) + (n : Int)) % (n : Int)) % (n : Int)).toNat = j * k % n by omega, hrs _ hlt]), by omega, at__4, ro_4, CH_4⟩
  ·
   refine Qn (Qa (Qb (Om (Qc rfl) rfl (Om (Rw rfl) rfl (Om (Qc rfl) rfl (Om (Rw rfl) rfl (Oq (Re (.inl rfl) rfl rfl) rfl ?_)))))))
   rintro _ w5 ⟨r5, rfl, f5, c5⟩
   have z5 := c5.size
   refine Om (Qc rfl) rfl (Om (Rx rfl) rfl (Om (Qc rfl) rfl (Om (Rx rfl) rfl (Oq (Re (.inl rfl) rfl rfl) rfl ?_))))
   rintro _ w6 ⟨r6, rfl, f6, c6⟩
   have z6 := c6.size
   refine Om (Ru rfl rfl) rfl (Om (Qd rfl) rfl (Qf (Qo (Qa (Qb (Om (Qc rfl) rfl ?_))))))
   refine Om (Ce rfl rfl (by rw [IntKind.wrap_i64]; omega)) rfl ?_
   refine Om (Qd rfl) rfl (Qf ?_)
   refine Ck (j + 1, _, _) (by first | omega | (dsimp only; omega)) ?_ ⟨rfl, rfl, rfl, rfl, rfl, rfl, trivial⟩
   have at__6 := at__1.keep (c5.trans c6)
   have ro_6 := ro_1.keep (c5.trans c6)
   have CH_6 := CH_1.and (c5.trans c6)
   exact ⟨⟨by omega, by omega⟩, sumG_next hj.1 hs f5 f6 (by rw [if_pos (by omega)]), by omega, at__6, ro_6, CH_6⟩
 ·
  refine Cr (Qk (Qk (Qz (Qa (Qe (Qb (Om (Qc rfl) rfl ?_)))))))
  refine Om (Qd rfl) rfl (Qf (Qa (Qp (Qy rfl rfl (Ret.mk ?_)))))
  have e : j = n := by omega
  subst e
  exact ⟨_, _, rfl, hs, CH_1⟩
theorem direct_AtG (S : Nat → Prop) (w : World) (A : Option Addr) (l c : Nat) (xs : List CB) (u v : Nat) (hl : l ≤ 1000000) (hu : u ≤ 1000000) (sl : SlR S w A l 1 (xs.map cxV)) (n k : Nat) (hn : 1 ≤ n) (hn2 : n ≤ 64) (hk : k < n) (hv : 1 ≤ v) (hv2 : v ≤ 1000000) (hb : ∀ j, j < n → u + j * v < l) :
  Calls Tryz.prog 251 #[.slice A l c, .int .i64 u, .int .i64 v, .int .i64 n, .int .i64 k] w (Ret (fun r w' => ∃ a b, r = .tuple #[.complex .f64 a b, .nilIface] ∧ cx (a, b) = directG n k (XX xs u v) ∧ Ch No w w')) := by
 have hb0 := hb 0 (by omega); rw [Nat.zero_mul] at hb0
 have hq : 1 < n → (v : Int) ≤ ((l : Int) - 1 - u) / ((n : Int) - 1) := fun h => by
  have h9 := hb (n - 1) (by omega)
  have h8 : (((n - 1) * v : Nat) : Int) = (v : Int) * ((n : Int) - 1) := by rw [Nat.mul_comm]; push_cast [show 1 ≤ n by omega]; rfl
  exact Int.le_ediv_of_mul_le (by omega) (by omega)
 refine calls_of_VC (args := [.slice A l c, .int .i64 u, .int .i64 v, .int .i64 n, .int .i64 k]) Tryz.func251 rfl Tryz.ntmps251 rfl (Qe (Qb (Oq (Cj rfl) rfl ?_)))
 rintro _ w1 ⟨p1, rfl, N1⟩
 have c1 := N1.ch
 have e1 := N1.p; have z1 := N1.size
 have b5 := Bk.new N1
 refine Oq (Cj rfl) rfl ?_
 rintro _ w2 ⟨p2, rfl, N2⟩
 have c2 := N2.ch
 have e2 := N2.p; have z2 := N2.size
 have b6 := Bk.new N2
 refine Oq (Cj rfl) rfl ?_
 rintro _ w3 ⟨p3, rfl, N3⟩
 have c3 := N3.ch
 have e3 := N3.p; have z3 := N3.size
 have b7 := Bk.new N3
 refine Om (Qd rfl) rfl (Om (Qd rfl) rfl (Qf (Qa (Qe (Qb (Om (Qc rfl) rfl (Oq (Qi Tryz.call281 rfl (direct_tableG _ (by omega) (by omega) _)) rfl ?_)))))))
 rintro _ w4 ⟨q4, rs4, rfl, e4, ro4, hrs4, c4⟩
 have hrs := hrs4
 have z4 := c4.size
 refine Om (Qc rfl) rfl (Om (Qq rfl rfl) rfl (Om (Qq rfl rfl) rfl (Om (Qd rfl) rfl (Om (Qd rfl) rfl (Qf (Qa (Qe ?_)))))))
 refine Qe (Qb (Om (Qc rfl) rfl (Om (Cg υ28 rfl) rfl (Qf (Qa (Ca rfl (Qn ?_)))))))
 refine Qa (Qe (Qe (Ci 28 [(0, true), (1, true), (2, true), (3, true), (4, true), (5, true), (6, true), (7, true), (8, true), (9, true), (10, true), (11, true), (12, true), (13, true), (14, true), (15, true), (16, true), (17, true), (18, true), (19, true), (20, true), (21, true), (22, true), (23, true), (24, true), (25, true), (26, true), (27, true)] (fun w1 w' => Ch (No) w1 w') mixed (by kernel_rfl) (fun _ _ => Ch.refl _ _) ?_)))
 intro w5 D5
 have c5 := Ch.of_drew D5; have z5 := c5.size
 have sl_5 := sl.keep (c1.trans (c2.trans (c3.trans (c4.trans c5))))
 have b5_5 := b5.keep (c2.trans (c3.trans (c4.trans c5)))
 have b6_5 := b6.keep (c3.trans (c4.trans c5))
 have b7_5 := b7.keep (c4.trans c5)
 have ro_5 := ro4.keep c5
 refine Hm (fun w' hS => Qh ι3 rfl ((b6_5.keep hS).cell rfl)) rfl (Hm (fun w' hS => Cs rfl rfl) rfl (Hm (fun w' hS => Qc rfl) rfl (VH.split_if 24 rfl (fun hc1 => ?_) (fun hc1 => ?_))))
 ·
  omega
 ·
  refine Hm (fun w' hS => Qh ι3 rfl ((b6_5.keep hS).cell rfl)) rfl (Hm (fun w' hS => Qh ι31 rfl ((b5_5.keep hS).cell rfl)) rfl (Hm (fun w' hS => Ra υ31 rfl) rfl (Hm (fun w' hS => Wb rfl rfl) rfl (Hm (fun w' hS => Qm rfl rfl) rfl (Hm (fun w' hS => Qc rfl) rfl (VH.split_if 30 rfl (fun hc2 => ?_) (fun hc2 => ?_)))))))
  ·
   omega
  ·
   refine Hm (fun w' hS => Qh ι3 rfl ((b7_5.keep hS).cell rfl)) rfl (Hm (fun w' hS => Cs rfl rfl) rfl (Hm (fun w' hS => Qm rfl rfl) rfl (Hm (fun w' hS => Qc rfl) rfl (VH.split_if 34 rfl (fun hc3 => ?_) (fun hc3 => ?_)))))
   ·
    omega
   ·
    refine Hm (fun w' hS => Qc rfl) rfl (Hm (fun w' hS => Rb rfl rfl) rfl (Hm (fun w' hS => Qc rfl) rfl (VH.split_if 37 rfl (fun hc4 => ?_) (fun hc4 => ?_))))
    ·
     have hq9 := hq (by omega)
     refine Hm (fun w' hS => Qh ι3 rfl ((b7_5.keep hS).cell rfl)) rfl (Hm (fun w' hS => Qh ι31 rfl ((b5_5.keep hS).cell rfl)) rfl (Hm (fun w' hS => Ra υ31 rfl) rfl ?_))
     refine Hm (fun w' hS => Rf rfl rfl (by rw [IntKind.wrap_i64]; omega)) rfl ?_
     refine Hm (fun w' hS => Qh ι3 rfl ((b6_5.keep hS).cell rfl)) rfl ?_
     refine Hm (fun w' hS => Rf rfl rfl (by rw [IntKind.wrap_i64]; omega)) rfl ?_
     refine Hm (fun w' hS => Qc rfl) rfl ?_
     refine Hm (fun w' hS => Rf rfl rfl (by rw [IntKind.wrap_i64]; omega)) rfl ?_
     refine Hm (fun w' hS => Rn.quo0 rfl rfl (by omega) (by omega) (by omega)) rfl (Hm (fun w' hS => Rb rfl rfl) rfl (Hm (fun w' hS => Qt rfl rfl) rfl (Hm (fun w' hS => Qm rfl rfl) rfl (Cn (Qf (Qx (Qa ?_)))))))
     refine Qj rfl (fun hc5 => ?_) (fun hc5 => ?_)
     ·
      omega
     ·
      refine Qn (Qa (Qe ?_))
      have at9 := AtR.mk b5_5 b6_5 b7_5 sl_5
      refine Qb (Om (Qc rfl) rfl (Om (Qc rfl) rfl (Om (Rn.func rfl rfl) rfl (Oq (Qi Tryz.call282 rfl (direct_sumG _ _ _ _ _ _ _ _ _ _ _ hl hu at9 _ _ hn hn2 hk hb _ _ ro_5 hrs)) rfl ?_))))
      rintro _ w6 ⟨p6, q6, rfl, F6, c6⟩
      have z6 := c6.size
      refine Om (Qd rfl) rfl (Om (Qd rfl) rfl (Qf (Qa (Qp (Cz rfl rfl rfl (Ret.mk ?_))))))
      have CH_6 := (Ch.refl (No) w).and (c1.trans (c2.trans (c3.trans (c4.trans (c5.trans c6)))))
      exact ⟨_, _, rfl, F6, CH_6⟩
    ·
     refine Hy rfl (Hy rfl (Hy rfl (Hy rfl (Hy rfl (Hy rfl (Hy rfl (Hy rfl ?_)))))))
     refine Hy rfl (Hy rfl (Hm (fun w' hS => Qm rfl rfl) rfl (Hm (fun w' hS => Qm rfl rfl) rfl (Cn (Qf (Qx (Qa ?_)))))))
     refine Ca rfl (Qn (Qa (Qe ?_)))
     have at9 := AtR.mk b5_5 b6_5 b7_5 sl_5
     refine Qb (Om (Qc rfl) rfl (Om (Qc rfl) rfl (Om (Rn.func rfl rfl) rfl (Oq (Qi Tryz.call282 rfl (direct_sumG _ _ _ _ _ _ _ _ _ _ _ hl hu at9 _ _ hn hn2 hk hb _ _ ro_5 hrs)) rfl ?_))))
     rintro _ w7 ⟨p7, q7, rfl, F7, c7⟩
     have z7 := c7.size
     refine Om (Qd rfl) rfl (Om (Qd rfl) rfl (Qf (Qa (Qp (Cz rfl rfl rfl (Ret.mk ?_))))))
     have CH_7 := (Ch.refl (No) w).and (c1.trans (c2.trans (c3.trans (c4.trans (c5.trans c7)))))
     exact ⟨_, _, rfl, F7, CH_7⟩
theorem chirp_mod (a n : Nat) (hn : 0 < n) (ha : a ≤ 1000000000000) (hn2 : n ≤ 1000000000000) (w : World) :
  Calls Tryz.prog 284 #[.int .i64 a, .int .i64 n] w (Ret (fun v w' => v = .int .i64 ((a % n : Nat) : Int) ∧ w = w')) := by
 have h1 := Int.emod_nonneg (a : Int) (show (n : Int) ≠ 0 by omega)
 have h2 := Int.emod_lt_of_pos (a : Int) (show (0 : Int) < n by omega)
 refine calls_of_VC (args := [.int .i64 a, .int .i64 n]) Tryz.func284 rfl Tryz.ntmps284 rfl (Qe (Qb (Om (Qd rfl) rfl (Qf (Qa (Qe (Qb ?_)))))))
 refine Om (Qc rfl) rfl (Om (Qc rfl) rfl (Om (Rs rfl rfl (by omega) (by omega)) rfl (Om (Qc rfl) rfl ?_)))
 refine Om (Ce rfl rfl (by rw [IntKind.wrap_i64]; omega)) rfl ?_
 refine Om (Qc rfl) rfl (Om (Rs rfl rfl (by omega) (by omega)) rfl (Om (Qd rfl) rfl (Qf (Qa (Qp (Qy rfl rfl (Ret.mk ?_)))))))
 exact ⟨by rw [Int.add_emod_right, Int.emod_emod]; rfl, rfl⟩
theorem chirp_At (n j : Nat) (hn : 1 ≤ n) (hn2 : n ≤ 16384) (hj : j ≤ 1000000) (w : World) :
  Calls Tryz.prog 252 #[.int .i64 n, .int .i64 j] w (Ret (fun v w' => ∃ x y, v = .tuple #[.complex .f64 x y, .nilIface] ∧ cx (x, y) = chirpF n j ∧ Ch No w w')) := by
 have hlt := Nat.mod_lt j (show 0 < 2 * n by omega)
 have hsq : j % (2 * n) * (j % (2 * n)) ≤ 32768 * 32768 := Nat.mul_le_mul (by omega) (by omega)
 have hsq2 : (((j % (2 * n) : Nat) : Int)) * (((j % (2 * n) : Nat) : Int)) = ((j % (2 * n) * (j % (2 * n)) : Nat) : Int) := by push_cast; rfl
 have hq9 : (((j % (2 * n) : Nat) : Int)) * (((j % (2 * n) : Nat) : Int)) % ((2 * n : Nat) : Int) = ((j % (2 * n) * (j % (2 * n)) % (2 * n) : Nat) : Int) := by rw [hsq2]; norm_cast
 refine calls_of_VC (args := [.int .i64 n, .int .i64 j]) Tryz.func252 rfl Tryz.ntmps252 rfl (Qe (Qb (Om (Qd rfl) rfl (Om (Qd rfl) rfl (Qf (Qa (Qe ?_)))))))
 refine Qe (Qb (Om (Qc rfl) rfl (Om (Cs rfl rfl) rfl (Om (Qc rfl) rfl ?_))))
 refine Rd (b := _) 3 9 12 rfl (fun hc1 Jhc1 => by
   refine Oy rfl (Oy rfl (Om (Qt rfl rfl) rfl ?_))
   exact (Qs rfl (Qs rfl Jhc1))) (fun hc1 Jhc1 => by
   try simp only [bX] at hc1
   refine Om (Qc rfl) rfl (Om (Rb rfl rfl) rfl (Om (Qm rfl rfl) rfl ?_))
   exact (Qs rfl (Qs rfl Jhc1))) ?_
 refine Qf (Qa (Cu rfl (fun hc2 => ?_) (fun hc2 => ?_)))
 ·
  try simp only [bX] at hc2
  omega
 ·
  try simp only [bX] at hc2
  refine Qn (Qa (Qe (Qb (Om (Qc rfl) rfl (Om (Qc rfl) rfl ?_)))))
  refine Om (Cv rfl rfl (by rw [IntKind.wrap_i64]; omega)) rfl ?_
  refine Oq (Qi Tryz.call284 rfl (chirp_mod j (2 * n) (by omega) (by omega) (by omega) _)) rfl ?_
  rintro _ _ ⟨rfl, rfl⟩
  refine Om (Qd rfl) rfl (Qf (Qa (Qe (Qb (Om (Qc rfl) rfl ?_)))))
  refine Om (Cv rfl rfl (by rw [IntKind.wrap_i64]; omega)) rfl ?_
  refine Om (Qc rfl) rfl (Om (Qc rfl) rfl ?_)
  refine Om (Cv rfl rfl (by rw [IntKind.wrap_i64]; omega)) rfl ?_
  refine Oq (Qi Tryz.call46 rfl (roots_RootG (2 * n) _ (j % (2 * n) * (j % (2 * n)) % (2 * n)) (by omega) (by omega) ⟨by omega, by omega⟩ hq9 _)) rfl ?_
  rintro _ w1 ⟨x1, y1, rfl, F1, c1⟩
  have z1 := c1.size
  refine Om (Qq rfl rfl) rfl (Om (Qq rfl rfl) rfl (Om (Qd rfl) rfl (Om (Qd rfl) rfl (Qf (Qa (Qp (Cz rfl rfl rfl ?_)))))))
  refine Ret.mk ?_
  have CH_1 := (Ch.refl (No) w).and c1
  exact ⟨_, _, rfl, F1, CH_1⟩
theorem chirp_Other (n m : Nat) (hn : 1 ≤ n) (hm : 2 * n ≤ m + 1) (hm2 : m ≤ 16384) (w : World) :
  Calls Tryz.prog 285 #[.int .i64 n, .int .i64 m] w (Ret (fun v w' => ∃ q zs, v = .tuple #[.slice (some ⟨q, 0, none⟩) m m, .nilIface] ∧ CR 33 w' (q + 1) (some ⟨q, 0, none⟩) m m zs ∧ zs.map cx = otherL n m ∧ w.heap.size ≤ q ∧ Ch No w w')) := by
 refine calls_of_VC (args := [.int .i64 n, .int .i64 m]) Tryz.func285 rfl Tryz.ntmps285 rfl (Qe (Qb (Om (Qd rfl) rfl (Om (Qd rfl) rfl (Qf (Qa (Qe ?_)))))))
 refine Qe (Qb (Om (Qc rfl) rfl (Om (Cs rfl rfl) rfl (Om (Qc rfl) rfl ?_))))
 refine Rd (b := _) 3 12 15 rfl (fun hc1 Jhc1 => by
   refine Oy rfl (Oy rfl (Om (Qt rfl rfl) rfl ?_))
   exact (Qs rfl (Qs rfl Jhc1))) (fun hc1 Jhc1 => by
   try simp only [bX] at hc1
   refine Om (Qc rfl) rfl (Om (Rb rfl rfl) rfl (Om (Qm rfl rfl) rfl ?_))
   exact (Qs rfl (Qs rfl Jhc1))) ?_
 refine Om (Qc rfl) rfl ?_
 refine Rd (b := _) 4 16 20 rfl (fun hc2 Jhc2 => by
   refine Oy rfl (Oy rfl (Oy rfl (Om (Qt rfl rfl) rfl ?_)))
   exact (Qs rfl (Qs rfl (Qs rfl Jhc2)))) (fun hc2 Jhc2 => by
   try simp only [bX] at hc2
   refine Om (Qc rfl) rfl (Om (Qc rfl) rfl (Om (Rb rfl rfl) rfl (Om (Qm rfl rfl) rfl ?_)))
   exact (Qs rfl (Qs rfl (Qs rfl Jhc2)))) ?_
 refine Om (Qc rfl) rfl ?_
 refine Rd (b := _) 6 21 27 rfl (fun hc3 Jhc3 => by
   refine Oy rfl (Oy rfl (Oy rfl (Oy rfl (Oy rfl (Om (Qt rfl rfl) rfl ?_)))))
   exact (Qs rfl (Qs rfl (Qs rfl (Qs rfl (Qs rfl Jhc3)))))) (fun hc3 Jhc3 => by
   try simp only [bX] at hc3
   refine Om (Qc rfl) rfl (Om (Qc rfl) rfl ?_)
   refine Om (Cv rfl rfl (by rw [IntKind.wrap_i64]; omega)) rfl ?_
   refine Om (Rf rfl rfl (by rw [IntKind.wrap_i64]; omega)) rfl ?_
   refine Om (Cs rfl rfl) rfl (Om (Qm rfl rfl) rfl ?_)
   exact (Qs rfl (Qs rfl (Qs rfl (Qs rfl (Qs rfl Jhc3)))))) ?_
 refine Qf (Qa (Cu rfl (fun hc4 => ?_) (fun hc4 => ?_)))
 ·
  try simp only [bX] at hc4
  omega
 ·
  try simp only [bX] at hc4
  refine Qn (Qa (Qe (Qb (Om (Qc rfl) rfl (Oq (Wk.mkC υ31 inf33w82 rfl rfl (by omega) (by omega) (by omega)) rfl ?_)))))
  rintro _ w1 ⟨p1, rfl, o1, c1, e1, z1⟩
  refine Om (Qd rfl) rfl (Qf (Qa (Qe (Qe (Qb (Om (Qc rfl) rfl (Om (Qc rfl) rfl ?_)))))))
  refine Qf (Qa (Qw ?_))
  have CH_1 := (Ch.refl (No) w).and c1
  refine Cp (σ := Nat × List CB) (fun (j, zs) => [(0, .int .i64 n), (1, .int .i64 m), (6, .slice (some ⟨p1, 0, none⟩) m m), (31, .int .i64 n), (32, .int .i64 j)]) (fun (j, zs) w' => j ≤ n ∧ OthA n m j zs ∧ w1.heap.size ≤ w'.heap.size ∧ CR 33 w' (p1 + 1) (some ⟨p1, 0, none⟩) m m zs ∧ Ch (No) w w') (fun (j, zs) => n - j) (0, List.replicate m (0, 0)) ?_ ⟨rfl, rfl, rfl, rfl, rfl, trivial⟩ ?_
  · exact ⟨(by omega), (OthA.zero _ _), (Nat.le_refl _), o1, CH_1⟩
  rintro ⟨j, zs⟩ w2 ⟨hj, ho, hsz2, row_2, CH_2⟩
  show VC _ _ _ _ [(0, .int .i64 n), (1, .int .i64 m), (6, .slice (some ⟨p1, 0, none⟩) m m), (31, .int .i64 n), (32, .int .i64 j)] _
  refine Qe (Qb (Om (Cs rfl rfl) rfl (Qf (Qa (Qe (Qj rfl (fun hc5 => ?_) (fun hc5 => ?_)))))))
  ·
   refine Qn (Qa (Qe (Qw (Qe (Qb (Om (Qc rfl) rfl (Om (Qd rfl) rfl ?_)))))))
   refine Qf (Qa (Qe (Qb (Om (Qc rfl) rfl (Om (Qc rfl) rfl (Oq (Qi Tryz.call252 rfl (chirp_At _ _ (by omega) (by omega) (by omega) _)) rfl ?_))))))
   rintro _ w3 ⟨x3, y3, rfl, F3, c3⟩
   have z3 := c3.size
   refine Om (Qc rfl) rfl (Om (Qq rfl rfl) rfl (Om (Qq rfl rfl) rfl (Om (Qd rfl) rfl (Om (Qd rfl) rfl (Qf (Qa (Qe ?_)))))))
   refine Qb (Om (Qc rfl) rfl (Oq (Qi Tryz.call78 rfl (cplx_Conj _ _ _)) rfl ?_))
   rintro _ w4 ⟨p4, q4, rfl, F4, c4⟩
   have z4 := c4.size
   refine Om (Qd rfl) rfl (Qf (Qa (Qe (Qb (Om (Qc rfl) rfl (Om (Qc rfl) rfl (Om (Qc rfl) rfl ?_)))))))
   have row_4 := row_2.keep (c3.trans c4)
   refine Om (Cb υ31 ς33 rfl rfl (row_4.sl.ne (by omega)) (by omega) (by omega)) rfl (Oz (Rl ς33 rfl rfl (by omega) row_4) rfl ?_)
   rintro _ w5 ⟨o5, c5, z5⟩
   have y5 := o5.lt
   refine Qf (Qa (Qe (Qb (Om (Qc rfl) rfl (Om (Rb rfl rfl) rfl (Qf (Qa ?_)))))))
   refine Qj rfl (fun hc6 => ?_) (fun hc6 => ?_)
   ·
    refine Qb (Om (Qc rfl) rfl (Om (Qc rfl) rfl (Om (Qc rfl) rfl ?_)))
    refine Om (Rf rfl rfl (by rw [IntKind.wrap_i64]; omega)) rfl ?_
    refine Om (Qc rfl) rfl (Om (Cb υ31 ς33 rfl rfl (o5.sl.ne (by omega)) (by omega) (by omega)) rfl (Oz (Rl ς33 rfl rfl (by omega) o5) rfl ?_))
    rintro _ w6 ⟨o6, c6, z6⟩
    have y6 := o6.lt
    refine Qf (Qo (Qa (Qb ?_)))
    refine Om (Ce rfl rfl (by rw [IntKind.wrap_i64]; omega)) rfl ?_
    refine Om (Qc rfl) rfl (Qf ?_)
    refine Ck (j + 1, (zs.set j (p4, q4)).set (m - j) (p4, q4)) (by first | omega | (dsimp only; omega)) ?_ ⟨rfl, rfl, rfl, rfl, rfl, trivial⟩
    have row9 := o6; rw [Int.toNat_natCast, show ((m : Int) - (j : Int)).toNat = m - j by omega] at row9
    have CH_4 := CH_2.and (c3.trans c4)
    have CH_5 : Ch (No) w w5 := CH_4.then c5
    have CH_6 : Ch (No) w w6 := CH_5.then c6
    exact ⟨by omega, ho.step (by omega) (by omega) (by rw [F4, F3]), by omega, row9, CH_6⟩
   ·
    refine Qn (Qo (Qa (Qb ?_)))
    refine Om (Ce rfl rfl (by rw [IntKind.wrap_i64]; omega)) rfl ?_
    refine Om (Qc rfl) rfl (Qf ?_)
    refine Ck (j + 1, zs.set j (p4, q4)) (by first | omega | (dsimp only; omega)) ?_ ⟨rfl, rfl, rfl, rfl, rfl, trivial⟩
    have CH_4 := CH_2.and (c3.trans c4)
    have CH_5 : Ch (No) w w5 := CH_4.then c5
    exact ⟨by omega, ho.first (by omega) (by omega) (by rw [F4, F3]), by omega, o5, CH_5⟩
  ·
   refine Cr (Qk (Qk (Qz (Qa (Qe (Qb (Om (Qc rfl) rfl ?_)))))))
   refine Om (Qd rfl) rfl (Om (Qd rfl) rfl (Qf (Qa (Qp (Cz rfl rfl rfl (Ret.mk ?_))))))
   obtain rfl : j = n := by omega
   exact ⟨_, _, rfl, row_2, ho.all, by omega, CH_2⟩
end Go.Tm
namespace Go.Tm
set_option maxRecDepth 100000
open Go.RowKit Go.Proofs
abbrev MS (m r : Nat) : Nat → Prop := fun q => q = m ∨ r = q + 1
structure Fil where
  A : Option Addr
  l : Nat
  c : Nat
  s : Stp
  r : Nat
  zs : List CB
abbrev macG (b : Bld) (N : Nat) (SA : Option Addr) (sc : Nat) (bs : ByteArray) (CA : Option Addr) (ac dn st at_ : Int) (F : Fil) : Array Value := #[.int .i64 b.ln, .int .i64 b.cl, .int .i64 b.i0, .int .i64 b.ou, .slice SA b.steps.length sc, .string bs, .slice CA N N, .int .i64 ac, .int .i64 dn, .int .i64 st, .int .i64 at_, .slice F.A F.l F.c, .int .i64 F.s.op, .int .i64 F.s.dst, .int .i64 F.s.src, .int .i64 F.s.jump, .int .i64 F.s.count, .int .i64 F.s.n, .int .i64 F.s.k]
structure FilR (w : World) (m r : Nat) (F : Fil) : Prop where
  ow : CR 33 w F.r F.A F.l F.c F.zs
  n1 : ¬ F.r = r
  n2 : ¬ F.r = m + 1
  sm : SmS F.s
  val : F.s.op = 8 → F.l = F.s.count.toNat ∧ F.zs.map cx = otherL F.s.n.toNat F.s.count.toNat
theorem FilR.to {D : Nat → Prop} {w w' : World} {m r : Nat} {F : Fil} (h : FilR w m r F) (c : Ch D w w') (hd : ∀ q, q < w.heap.size → F.r = q + 1 → q = q → ¬ D q := by first | exact fun _ _ _ _ => id | (intro q h1 h2 hx h3; omega)) : FilR w' m r F :=
  ⟨Ow.to h.ow c (fun q h1 h2 _ => hd q h1 h2 rfl), h.n1, h.n2, h.sm, h.val⟩
theorem FilR.keep {w w' : World} {m r : Nat} {F : Fil} (h : FilR w m r F) (c : Ch No w w') : FilR w' m r F := h.to c fun _ _ _ _ => id
structure MacG (w : World) (m r : Nat) (b : Bld) (N : Nat) (SA : Option Addr) (sc : Nat) (bs : ByteArray) (CA : Option Addr) (ac dn st at_ : Int) (F : Fil) (xs : List CB) : Prop where
  bk : Bk w m (macG b N SA sc bs CA ac dn st at_ F) 209
  row : CR 33 w r CA N N xs
  ne : ¬ r = m + 1
  fil : FilR w m r F
theorem MacG.to {D : Nat → Prop} {w w' : World} {m r : Nat} {b : Bld} {N : Nat} {SA : Option Addr} {sc : Nat} {bs : ByteArray} {CA : Option Addr} {ac dn st at_ : Int} {F : Fil} {xs : List CB} (h : MacG w m r b N SA sc bs CA ac dn st at_ F xs) (c : Ch D w w') (hd : ∀ q, q < w.heap.size → (q = m ∨ r = q + 1 ∨ F.r = q + 1) → q = q → ¬ D q := by first | exact fun _ _ _ _ => id | (intro q h1 h2 hx h3; omega)) : MacG w' m r b N SA sc bs CA ac dn st at_ F xs :=
  ⟨h.bk.to c (hd m h.bk.lt (.inl rfl) rfl), Ow.to h.row c (fun q h1 h2 _ => hd q h1 (.inr (.inl h2)) rfl), h.ne, h.fil.to c (fun q h1 h2 _ => hd q h1 (.inr (.inr h2)) rfl)⟩
theorem MacG.keep {w w' : World} {m r : Nat} {b : Bld} {N : Nat} {SA : Option Addr} {sc : Nat} {bs : ByteArray} {CA : Option Addr} {ac dn st at_ : Int} {F : Fil} {xs : List CB} (h : MacG w m r b N SA sc bs CA ac dn st at_ F xs) (c : Ch No w w') : MacG w' m r b N SA sc bs CA ac dn st at_ F xs := h.to c fun _ _ _ _ => id
theorem i64_wf {n : Int} (h : 0 ≤ n ∧ n ≤ 1000000) : (Lit.int .i64 n).wf = true := by
  have h1 : IntKind.i64.min = -9223372036854775808 := rfl
  have h2 : IntKind.i64.max = 9223372036854775807 := rfl
  simp [Lit.wf, IntKind.wrap]
  omega
theorem step_lits {s : Stp} (h : SmS s) : Tryz.prog.keyLits 2 135 (stpV s).cells.toList = some [.int .i64 s.op, .int .i64 s.dst, .int .i64 s.src, .int .i64 s.jump, .int .i64 s.count, .int .i64 s.n, .int .i64 s.k] := by
  obtain ⟨h1, h2, h3, h4, h5, h6, h7⟩ := h
  have c1 : Tryz.prog.cellsOf 135 = 7 := by kernel_rfl
  have c2 : Tryz.prog.cellsOf 3 = 1 := by kernel_rfl
  have e : ∀ n : Int, 0 ≤ n ∧ n ≤ 1000000 → Tryz.prog.keyLits 1 3 [.int .i64 n] = some [.int .i64 n] := fun n hn => by
    simp [Program.keyLits, υ3, i64_wf hn]
  unfold Program.keyLits
  rw [υ135]
  simp only [Value.cells, c1]
  rw [if_pos ⟨rfl, by kernel_rfl⟩]
  simp only [List.mapM_cons, List.mapM_nil, c2, List.drop_succ_cons, List.drop_zero, List.take_succ_cons, List.take_zero, e _ h1, e _ h2, e _ h3, e _ h4, e _ h5, e _ h6, e _ h7]
  rfl
theorem step_formed (s : Stp) : (stpV s).formed Tryz.prog 135 = true := by
  have c1 : Tryz.prog.cellsOf 135 = 7 := by kernel_rfl
  simp [Value.formed, υ135, c1]
theorem step_eq (w : World) {s t : Stp} (hs : SmS s) (ht : SmS t) : ∃ r : Bool, (Op.equal 135 (stpV s) (stpV t)).run Tryz.prog w = .ok r w ∧ (r = true ↔ s = t) := by
  obtain ⟨r, hr, hi⟩ := run_equalIn_deep (P := Tryz.prog) (10000 - 2) 2 135 (by kernel_rfl) w 2 2 (stpV s) (stpV t) _ _ (step_formed s) (step_formed t) (step_lits hs) (step_lits ht)
  refine ⟨r, hr, hi.trans ⟨fun h => ?_, fun h => by rw [h]⟩⟩
  obtain ⟨a, b, c, d, e, f, g⟩ := s
  obtain ⟨a', b', c', d', e', f', g'⟩ := t
  simp only [List.cons.injEq, Lit.int.injEq, true_and, and_true] at h
  obtain ⟨h1, h2, h3, h4, h5, h6, h7⟩ := h
  subst h1 h2 h3 h4 h5 h6 h7
  rfl
section
variable {n : Fr} {k : K} {w : World} {d : Option Nat} {ty : TypeId} {pos : String} {aft : Array Edge} {gd : Option (Nat × Bool)} {t' : TypeId} {x y : Operand} {s t : Stp}
theorem Rn.stepNe (hx : ev k x = some (stpV s)) (hy : ev k y = some (stpV t)) (hs : SmS s) (ht : SmS t) {v : Bool} (hv : v = true ↔ ¬ s = t) : Rn Tryz.prog n k w { dst := d, op := .binOp .neq 135 x y t', type := ty, pos := pos, after := aft, guard := gd } (.bool v) := by
  refine Rt hx hy (fun x y => ?_)
  obtain ⟨r, hr, hi⟩ := step_eq w hs ht
  have hg : (Tryz.prog.eqGuardType Tryz.prog.depth 135) = false := by kernel_rfl
  have e : v = !r := by
    cases r <;> cases v <;> simp_all
  simp [eqGuard, binOp, hg, hr, e]
theorem Rn.stepNeF (hx : ev k x = some (stpV s)) (hy : ev k y = some (stpV t)) (hs : SmS s) (ht : SmS t) (e : s = t) : Rn Tryz.prog n k w { dst := d, op := .binOp .neq 135 x y t', type := ty, pos := pos, after := aft, guard := gd } (.bool false) := Rn.stepNe hx hy hs ht (by simp [e])
theorem Rn.stepNeT (hx : ev k x = some (stpV s)) (hy : ev k y = some (stpV t)) (hs : SmS s) (ht : SmS t) (e : ¬ s = t) : Rn Tryz.prog n k w { dst := d, op := .binOp .neq 135 x y t', type := ty, pos := pos, after := aft, guard := gd } (.bool true) := Rn.stepNe hx hy hs ht (by simp [e])
end
theorem inf33w83 : Inf Tryz.prog 33 (.complex .f64 0 0) 1 16 := ⟨Tryz.t33, Tryz.type33, rfl, rfl, rfl⟩
theorem actG_gather (m r : Nat) (b : Bld) (N : Nat) (SA : Option Addr) (sc : Nat) (bs : ByteArray) (CA : Option Addr) (ac dn st at_ : Int) (F : Fil) (xs : List CB) (w : World) (mr : MacG w m r b N SA sc bs CA ac dn st at_ F xs) (hN : N ≤ 1000000) (op co nn kk : Int) (d sr ju i : Nat) (hd : d + i < N) (hs : sr + i * ju < N) :
  Calls Tryz.prog 205 #[.pointer (some ⟨m, 0, none⟩), .agg #[.int .i64 op, .int .i64 d, .int .i64 sr, .int .i64 ju, .int .i64 co, .int .i64 nn, .int .i64 kk], .int .i64 i] w (Ret (fun v w' => v = .tuple #[] ∧ ∃ F ys, MacG w' m r b N SA sc bs CA ac dn st at_ F ys ∧ ys.map cx = (xs.map cx).set (d + i) ((xs.map cx).getD (sr + i * ju) z0) ∧ Ch (MS m r) w w')) := by
 obtain ⟨bk, row, ne, fil⟩ := id mr
 have yr := Ow.lt row; have ym := bk.lt; have fn1 := fil.n1; have fn2 := fil.n2; have fy := Ow.lt fil.ow
 have e0 : ((i * ju : Nat) : Int) = (i : Int) * (ju : Int) := by push_cast; rfl
 refine calls_of_VC (args := [.pointer (some ⟨m, 0, none⟩), .agg #[.int .i64 op, .int .i64 d, .int .i64 sr, .int .i64 ju, .int .i64 co, .int .i64 nn, .int .i64 kk], .int .i64 i]) Tryz.func205 rfl Tryz.ntmps205 rfl (Qe (Qb (Oq (Cj rfl) rfl ?_)))
 rintro _ w1 ⟨p1, rfl, N1⟩
 have c1 := N1.ch
 have e1 := N1.p; have z1 := N1.size
 have b4 := Bk.new N1
 refine Qf (Qa (Ci 22 [(0, true), (1, true), (2, true), (3, true), (4, true), (5, true), (6, true), (7, true), (8, true), (9, true), (10, true), (11, true), (12, true), (13, true), (14, true), (15, true), (16, true), (17, true), (18, true), (19, true), (20, true), (21, true)] (fun w1 w' => Ch (No) w1 w') mixed (by kernel_rfl) (fun _ _ => Ch.refl _ _) ?_))
 intro w2 D2
 have c2 := Ch.of_drew D2; have z2 := c2.size
 have bk_2 := bk.keep (c1.trans c2)
 have row_2 := row.keep (c1.trans c2)
 have b4_2 := b4.keep c2
 refine Hm (fun w' hS => Qc rfl) rfl (Hm (fun w' hS => Ql rfl) rfl (Hm (fun w' hS => Qg υ209 rfl ς31 rfl rfl rfl) rfl (Hm (fun w' hS => Qh ι31 rfl ((bk_2.keep hS).cell rfl)) rfl (Hm (fun w' hS => Qg υ135 rfl ς3 rfl rfl rfl) rfl (Hm (fun w' hS => Qh ι3 rfl ((b4_2.keep hS).cell rfl)) rfl (Hm (fun w' hS => Qc rfl) rfl ?_))))))
 refine Hm (fun w' hS => Ce rfl rfl (by rw [IntKind.wrap_i64]; omega)) rfl ?_
 refine Hm (fun w' hS => Qc rfl) rfl (Hm (fun w' hS => Ql rfl) rfl (Hm (fun w' hS => Qg υ209 rfl ς31 rfl rfl rfl) rfl (Hm (fun w' hS => Qh ι31 rfl ((bk_2.keep hS).cell rfl)) rfl (Hm (fun w' hS => Qg υ135 rfl ς3 rfl rfl rfl) rfl (Hm (fun w' hS => Qh ι3 rfl ((b4_2.keep hS).cell rfl)) rfl (Hm (fun w' hS => Qc rfl) rfl (Hm (fun w' hS => Qg υ135 rfl ς3 rfl rfl rfl) rfl ?_)))))))
 refine Hm (fun w' hS => Qh ι3 rfl ((b4_2.keep hS).cell rfl)) rfl ?_
 refine Hm (fun w' hS => Cv rfl rfl (by rw [IntKind.wrap_i64]; omega)) rfl ?_
 refine Hm (fun w' hS => Ce rfl rfl (by rw [IntKind.wrap_i64]; omega)) rfl ?_
 refine Hm (fun w' hS => Cb υ31 ς33 rfl rfl (row_2.sl.ne (by omega)) (by omega) (by omega)) rfl (Hm (fun w' hS => Qh ι33 rfl ((row_2.keep hS).sl.getC (by omega) (by omega))) rfl (Hm (fun w' hS => Cb υ31 ς33 rfl rfl (row_2.sl.ne (by omega)) (by omega) (by omega)) rfl (Cn (Oz (Rl ς33 rfl rfl (by omega) row_2) rfl ?_))))
 rintro _ w3 ⟨o3, c3, z3⟩
 have y3 := o3.lt
 refine Qf (Qx (Ri rfl (Ret.mk ?_)))
 have row9 := o3; rw [show ((d : Int) + (i : Int)).toNat = d + i by omega, show ((sr : Int) + (i : Int) * (ju : Int)).toNat = sr + i * ju by omega] at row9
 have bk_3 := bk_2.to c3
 have fil_2 := fil.keep (c1.trans c2)
 have fil_3 := fil_2.to c3
 have CH_2 := (Ch.refl (MS m r) w).and (c1.trans c2)
 have CH_3 : Ch (MS m r) w w3 := CH_2.then c3
 exact ⟨rfl, _, _, ⟨bk_3, row9, ne, fil_3⟩, (by rw [map_getD, ← List.map_set]), CH_3⟩
theorem actG_scatter (m r : Nat) (b : Bld) (N : Nat) (SA : Option Addr) (sc : Nat) (bs : ByteArray) (CA : Option Addr) (ac dn st at_ : Int) (F : Fil) (xs : List CB) (w : World) (mr : MacG w m r b N SA sc bs CA ac dn st at_ F xs) (hN : N ≤ 1000000) (op co nn kk : Int) (d sr ju i : Nat) (hd : d + i * ju < N) (hs : sr + i < N) :
  Calls Tryz.prog 206 #[.pointer (some ⟨m, 0, none⟩), .agg #[.int .i64 op, .int .i64 d, .int .i64 sr, .int .i64 ju, .int .i64 co, .int .i64 nn, .int .i64 kk], .int .i64 i] w (Ret (fun v w' => v = .tuple #[] ∧ ∃ F ys, MacG w' m r b N SA sc bs CA ac dn st at_ F ys ∧ ys.map cx = (xs.map cx).set (d + i * ju) ((xs.map cx).getD (sr + i) z0) ∧ Ch (MS m r) w w')) := by
 obtain ⟨bk, row, ne, fil⟩ := id mr
 have yr := Ow.lt row; have ym := bk.lt; have fn1 := fil.n1; have fn2 := fil.n2; have fy := Ow.lt fil.ow
 have e0 : ((i * ju : Nat) : Int) = (i : Int) * (ju : Int) := by push_cast; rfl
 refine calls_of_VC (args := [.pointer (some ⟨m, 0, none⟩), .agg #[.int .i64 op, .int .i64 d, .int .i64 sr, .int .i64 ju, .int .i64 co, .int .i64 nn, .int .i64 kk], .int .i64 i]) Tryz.func206 rfl Tryz.ntmps206 rfl (Qe (Qb (Oq (Cj rfl) rfl ?_)))
 rintro _ w1 ⟨p1, rfl, N1⟩
 have c1 := N1.ch
 have e1 := N1.p; have z1 := N1.size
 have b4 := Bk.new N1
 refine Qf (Qa (Ci 22 [(0, true), (1, true), (2, true), (3, true), (4, true), (5, true), (6, true), (7, true), (8, true), (9, true), (10, true), (11, true), (12, true), (13, true), (14, true), (15, true), (16, true), (17, true), (18, true), (19, true), (20, true), (21, true)] (fun w1 w' => Ch (No) w1 w') mixed (by kernel_rfl) (fun _ _ => Ch.refl _ _) ?_))
 intro w2 D2
 have c2 := Ch.of_drew D2; have z2 := c2.size
 have bk_2 := bk.keep (c1.trans c2)
 have row_2 := row.keep (c1.trans c2)
 have b4_2 := b4.keep c2
 refine Hm (fun w' hS => Qc rfl) rfl (Hm (fun w' hS => Ql rfl) rfl (Hm (fun w' hS => Qg υ209 rfl ς31 rfl rfl rfl) rfl (Hm (fun w' hS => Qh ι31 rfl ((bk_2.keep hS).cell rfl)) rfl (Hm (fun w' hS => Qg υ135 rfl ς3 rfl rfl rfl) rfl (Hm (fun w' hS => Qh ι3 rfl ((b4_2.keep hS).cell rfl)) rfl (Hm (fun w' hS => Qc rfl) rfl (Hm (fun w' hS => Qg υ135 rfl ς3 rfl rfl rfl) rfl ?_)))))))
 refine Hm (fun w' hS => Qh ι3 rfl ((b4_2.keep hS).cell rfl)) rfl ?_
 refine Hm (fun w' hS => Cv rfl rfl (by rw [IntKind.wrap_i64]; omega)) rfl ?_
 refine Hm (fun w' hS => Ce rfl rfl (by rw [IntKind.wrap_i64]; omega)) rfl ?_
 refine Hm (fun w' hS => Qc rfl) rfl (Hm (fun w' hS => Ql rfl) rfl (Hm (fun w' hS => Qg υ209 rfl ς31 rfl rfl rfl) rfl (Hm (fun w' hS => Qh ι31 rfl ((bk_2.keep hS).cell rfl)) rfl (Hm (fun w' hS => Qg υ135 rfl ς3 rfl rfl rfl) rfl (Hm (fun w' hS => Qh ι3 rfl ((b4_2.keep hS).cell rfl)) rfl (Hm (fun w' hS => Qc rfl) rfl ?_))))))
 refine Hm (fun w' hS => Ce rfl rfl (by rw [IntKind.wrap_i64]; omega)) rfl ?_
 refine Hm (fun w' hS => Cb υ31 ς33 rfl rfl (row_2.sl.ne (by omega)) (by omega) (by omega)) rfl (Hm (fun w' hS => Qh ι33 rfl ((row_2.keep hS).sl.getC (by omega) (by omega))) rfl (Hm (fun w' hS => Cb υ31 ς33 rfl rfl (row_2.sl.ne (by omega)) (by omega) (by omega)) rfl (Cn (Oz (Rl ς33 rfl rfl (by omega) row_2) rfl ?_))))
 rintro _ w3 ⟨o3, c3, z3⟩
 have y3 := o3.lt
 refine Qf (Qx (Ri rfl (Ret.mk ?_)))
 have row9 := o3; rw [show ((sr : Int) + (i : Int)).toNat = sr + i by omega, show ((d : Int) + (i : Int) * (ju : Int)).toNat = d + i * ju by omega] at row9
 have bk_3 := bk_2.to c3
 have fil_2 := fil.keep (c1.trans c2)
 have fil_3 := fil_2.to c3
 have CH_2 := (Ch.refl (MS m r) w).and (c1.trans c2)
 have CH_3 : Ch (MS m r) w w3 := CH_2.then c3
 exact ⟨rfl, _, _, ⟨bk_3, row9, ne, fil_3⟩, (by rw [map_getD, ← List.map_set]), CH_3⟩
theorem actG_zero (m r : Nat) (b : Bld) (N : Nat) (SA : Option Addr) (sc : Nat) (bs : ByteArray) (CA : Option Addr) (ac dn st at_ : Int) (F : Fil) (xs : List CB) (w : World) (mr : MacG w m r b N SA sc bs CA ac dn st at_ F xs) (hN : N ≤ 1000000) (op co nn kk : Int) (d sr ju i : Nat) (hd : d + i < N) :
  Calls Tryz.prog 207 #[.pointer (some ⟨m, 0, none⟩), .agg #[.int .i64 op, .int .i64 d, .int .i64 sr, .int .i64 ju, .int .i64 co, .int .i64 nn, .int .i64 kk], .int .i64 i] w (Ret (fun v w' => v = .tuple #[] ∧ ∃ F ys, MacG w' m r b N SA sc bs CA ac dn st at_ F ys ∧ ys.map cx = (xs.map cx).set (d + i) z0 ∧ Ch (MS m r) w w')) := by
 obtain ⟨bk, row, ne, fil⟩ := id mr
 have yr := Ow.lt row; have ym := bk.lt; have fn1 := fil.n1; have fn2 := fil.n2; have fy := Ow.lt fil.ow
 refine calls_of_VC (args := [.pointer (some ⟨m, 0, none⟩), .agg #[.int .i64 op, .int .i64 d, .int .i64 sr, .int .i64 ju, .int .i64 co, .int .i64 nn, .int .i64 kk], .int .i64 i]) Tryz.func207 rfl Tryz.ntmps207 rfl (Qe (Qb (Oq (Cj rfl) rfl ?_)))
 rintro _ w1 ⟨p1, rfl, N1⟩
 have c1 := N1.ch
 have e1 := N1.p; have z1 := N1.size
 have b4 := Bk.new N1
 refine Qf (Qa (Ci 9 [(0, true), (1, true), (2, true), (3, true), (4, true), (5, true), (6, true), (7, true), (8, true)] (fun w1 w' => Ch (No) w1 w') mixed (by kernel_rfl) (fun _ _ => Ch.refl _ _) ?_))
 intro w2 D2
 have c2 := Ch.of_drew D2; have z2 := c2.size
 have bk_2 := bk.keep (c1.trans c2)
 have row_2 := row.keep (c1.trans c2)
 have b4_2 := b4.keep c2
 refine Hm (fun w' hS => Qc rfl) rfl (Hm (fun w' hS => Ql rfl) rfl (Hm (fun w' hS => Qg υ209 rfl ς31 rfl rfl rfl) rfl (Hm (fun w' hS => Qh ι31 rfl ((bk_2.keep hS).cell rfl)) rfl (Hm (fun w' hS => Qg υ135 rfl ς3 rfl rfl rfl) rfl (Hm (fun w' hS => Qh ι3 rfl ((b4_2.keep hS).cell rfl)) rfl (Hm (fun w' hS => Qc rfl) rfl ?_))))))
 refine Hm (fun w' hS => Ce rfl rfl (by rw [IntKind.wrap_i64]; omega)) rfl ?_
 refine Hm (fun w' hS => Cb υ31 ς33 rfl rfl (row_2.sl.ne (by omega)) (by omega) (by omega)) rfl (Cn (Oz (Rl ς33 rfl rfl (by omega) row_2) rfl ?_))
 rintro _ w3 ⟨o3, c3, z3⟩
 have y3 := o3.lt
 refine Qf (Qx (Ri rfl (Ret.mk ?_)))
 have row9 := o3; rw [show ((d : Int) + (i : Int)).toNat = d + i by omega] at row9
 have bk_3 := bk_2.to c3
 have fil_2 := fil.keep (c1.trans c2)
 have fil_3 := fil_2.to c3
 have CH_2 := (Ch.refl (MS m r) w).and (c1.trans c2)
 have CH_3 : Ch (MS m r) w w3 := CH_2.then c3
 exact ⟨rfl, _, _, ⟨bk_3, row9, ne, fil_3⟩, (by rw [← List.map_set]), CH_3⟩
theorem actG_twist (m r : Nat) (b : Bld) (N : Nat) (SA : Option Addr) (sc : Nat) (bs : ByteArray) (CA : Option Addr) (ac dn st at_ : Int) (F : Fil) (xs : List CB) (w : World) (mr : MacG w m r b N SA sc bs CA ac dn st at_ F xs) (hN : N ≤ 1000000) (op co : Int) (d sr ju nn kk i : Nat) (hd : d + i < N) (hn : 1 ≤ nn) (hn2 : nn ≤ 16384) (hk : kk < nn) (hi : i ≤ 1000000) :
  Calls Tryz.prog 208 #[.pointer (some ⟨m, 0, none⟩), .agg #[.int .i64 op, .int .i64 d, .int .i64 sr, .int .i64 ju, .int .i64 co, .int .i64 nn, .int .i64 kk], .int .i64 i] w (Ret (fun v w' => v = .tuple #[] ∧ ∃ F ys, MacG w' m r b N SA sc bs CA ac dn st at_ F ys ∧ ys.map cx = (xs.map cx).set (d + i) (twistF ((xs.map cx).getD (d + i) z0) nn (kk * i % nn)) ∧ Ch (MS m r) w w')) := by
 obtain ⟨bk, row, ne, fil⟩ := id mr
 have yr := Ow.lt row; have ym := bk.lt; have fn1 := fil.n1; have fn2 := fil.n2; have fy := Ow.lt fil.ow
 have e0 : ((kk * i : Nat) : Int) = (kk : Int) * (i : Int) := by push_cast; rfl
 have hb9 : kk * i ≤ 16384 * 1000000 := Nat.mul_le_mul (by omega) (by omega)
 have hq9 : ((kk : Int) * (i : Int)) % (nn : Int) = ((kk * i % nn : Nat) : Int) := by rw [← e0]; norm_cast
 refine calls_of_VC (args := [.pointer (some ⟨m, 0, none⟩), .agg #[.int .i64 op, .int .i64 d, .int .i64 sr, .int .i64 ju, .int .i64 co, .int .i64 nn, .int .i64 kk], .int .i64 i]) Tryz.func208 rfl Tryz.ntmps208 rfl (Qe (Qb (Oq (Cj rfl) rfl ?_)))
 rintro _ w1 ⟨p1, rfl, N1⟩
 have c1 := N1.ch
 have e1 := N1.p; have z1 := N1.size
 have b4 := Bk.new N1
 refine Qf (Qa (Qe (Ci 21 [(0, true), (1, true), (2, true), (3, true), (4, true), (5, true), (6, true), (7, true), (8, true), (9, true), (10, true), (11, true), (12, true), (13, true), (14, true), (15, true), (16, false), (17, true), (18, true), (19, true), (20, true)] (fun w1 w' => Ch (No) w1 w') mixed (by kernel_rfl) (fun _ _ => Ch.refl _ _) ?_)))
 intro w2 D2
 have c2 := Ch.of_drew D2; have z2 := c2.size
 have bk_2 := bk.keep (c1.trans c2)
 have row_2 := row.keep (c1.trans c2)
 have b4_2 := b4.keep c2
 refine Hm (fun w' hS => Qc rfl) rfl (Hm (fun w' hS => Ql rfl) rfl (Hm (fun w' hS => Qg υ209 rfl ς31 rfl rfl rfl) rfl (Hm (fun w' hS => Qh ι31 rfl ((bk_2.keep hS).cell rfl)) rfl (Hm (fun w' hS => Qg υ135 rfl ς3 rfl rfl rfl) rfl (Hm (fun w' hS => Qh ι3 rfl ((b4_2.keep hS).cell rfl)) rfl (Hm (fun w' hS => Qc rfl) rfl ?_))))))
 refine Hm (fun w' hS => Ce rfl rfl (by rw [IntKind.wrap_i64]; omega)) rfl ?_
 refine Hm (fun w' hS => Cb υ31 ς33 rfl rfl (row_2.sl.ne (by omega)) (by omega) (by omega)) rfl (Hm (fun w' hS => Qh ι33 rfl ((row_2.keep hS).sl.getC (by omega) (by omega))) rfl (Hm (fun w' hS => Qg υ135 rfl ς3 rfl rfl rfl) rfl (Hm (fun w' hS => Qh ι3 rfl ((b4_2.keep hS).cell rfl)) rfl (Hm (fun w' hS => Qg υ135 rfl ς3 rfl rfl rfl) rfl (Hm (fun w' hS => Qh ι3 rfl ((b4_2.keep hS).cell rfl)) rfl (Hm (fun w' hS => Qc rfl) rfl ?_))))))
 refine Hm (fun w' hS => Cv rfl rfl (by rw [IntKind.wrap_i64]; omega)) rfl ?_
 refine Hq (Qi Tryz.call14 rfl (roots_Twist _ _ nn _ (kk * i % nn) (by omega) (by omega) ⟨by omega, by omega⟩ hq9 _)) rfl ?_
 rintro _ w3 ⟨p3, q3, rfl, F3, c3⟩
 have z3 := c3.size
 have RD_3 := (Ch.refl (No) w2).and c3
 refine ⟨RD_3, ?_⟩
 refine Hm (fun w' hS => Qc rfl) rfl (Hm (fun w' hS => Qq rfl rfl) rfl (Hm (fun w' hS => Qq rfl rfl) rfl (Hm (fun w' hS => Qd rfl) rfl (Cn (Om (Qd rfl) rfl (Qf (Qx ?_)))))))
 refine Qa (Qe (Qb (Om (Qc rfl) rfl (Om (Wc υ28 rfl) rfl (Qf (Qa (Cw rfl ?_)))))))
 refine Ci 10 [(0, true), (1, true), (2, true), (3, true), (4, true), (5, true), (6, true), (7, true), (8, true), (9, true)] (fun w1 w' => Ch (No) w1 w') mixed (by kernel_rfl) (fun _ _ => Ch.refl _ _) ?_
 intro w4 D4
 have c4 := Ch.of_drew D4; have z4 := c4.size
 have bk_4 := bk_2.keep (c3.trans c4)
 have row_4 := row_2.keep (c3.trans c4)
 have b4_4 := b4_2.keep (c3.trans c4)
 refine Hm (fun w' hS => Qc rfl) rfl (Hm (fun w' hS => Ql rfl) rfl (Hm (fun w' hS => Qg υ209 rfl ς31 rfl rfl rfl) rfl (Hm (fun w' hS => Qh ι31 rfl ((bk_4.keep hS).cell rfl)) rfl (Hm (fun w' hS => Qg υ135 rfl ς3 rfl rfl rfl) rfl (Hm (fun w' hS => Qh ι3 rfl ((b4_4.keep hS).cell rfl)) rfl (Hm (fun w' hS => Qc rfl) rfl ?_))))))
 refine Hm (fun w' hS => Ce rfl rfl (by rw [IntKind.wrap_i64]; omega)) rfl ?_
 refine Hm (fun w' hS => Qc rfl) rfl (Hm (fun w' hS => Cb υ31 ς33 rfl rfl (row_4.sl.ne (by omega)) (by omega) (by omega)) rfl (Cn (Oz (Rl ς33 rfl rfl (by omega) row_4) rfl ?_)))
 rintro _ w5 ⟨o5, c5, z5⟩
 have y5 := o5.lt
 refine Qf (Qx (Ri rfl (Ret.mk ?_)))
 have row9 := o5; rw [show ((d : Int) + (i : Int)).toNat = d + i by omega] at row9
 have bk_5 := bk_4.to c5
 have fil_4 := fil.keep (c1.trans (c2.trans (c3.trans c4)))
 have fil_5 := fil_4.to c5
 have CH_4 := (Ch.refl (MS m r) w).and (c1.trans (c2.trans (c3.trans c4)))
 have CH_5 : Ch (MS m r) w w5 := CH_4.then c5
 exact ⟨rfl, _, _, ⟨bk_5, row9, ne, fil_5⟩, (by rw [map_getD, List.map_set, F3, show ((d : Int) + (i : Int)).toNat = d + i by omega]), CH_5⟩
theorem actG_direct (m r : Nat) (b : Bld) (N : Nat) (SA : Option Addr) (sc : Nat) (bs : ByteArray) (CA : Option Addr) (ac dn st at_ : Int) (F : Fil) (xs : List CB) (w : World) (mr : MacG w m r b N SA sc bs CA ac dn st at_ F xs) (hN : N ≤ 1000000) (op co kk : Int) (d sr ju nn i : Nat) (hn : 1 ≤ nn) (hn2 : nn ≤ 64) (hk : i < nn) (hv : 1 ≤ ju) (hv2 : ju ≤ 1000000) (hb : ∀ j, j < nn → sr + j * ju < N) (hd : d + i < N) :
  Calls Tryz.prog 210 #[.pointer (some ⟨m, 0, none⟩), .agg #[.int .i64 op, .int .i64 d, .int .i64 sr, .int .i64 ju, .int .i64 co, .int .i64 nn, .int .i64 kk], .int .i64 i] w (Ret (fun v w' => v = .tuple #[] ∧ ∃ F ys, MacG w' m r b N SA sc bs CA ac dn st at_ F ys ∧ ys.map cx = (xs.map cx).set (d + i) (directG nn i (fun j => (xs.map cx).getD (sr + j * ju) z0)) ∧ Ch (MS m r) w w')) := by
 obtain ⟨bk, row, ne, fil⟩ := id mr
 have yr := Ow.lt row; have ym := bk.lt; have fn1 := fil.n1; have fn2 := fil.n2; have fy := Ow.lt fil.ow
 have hb0 := hb 0 (by omega); rw [Nat.zero_mul] at hb0
 refine calls_of_VC (args := [.pointer (some ⟨m, 0, none⟩), .agg #[.int .i64 op, .int .i64 d, .int .i64 sr, .int .i64 ju, .int .i64 co, .int .i64 nn, .int .i64 kk], .int .i64 i]) Tryz.func210 rfl Tryz.ntmps210 rfl (Qe (Qb (Oq (Cj rfl) rfl ?_)))
 rintro _ w1 ⟨p1, rfl, N1⟩
 have c1 := N1.ch
 have e1 := N1.p; have z1 := N1.size
 have b4 := Bk.new N1
 refine Qf (Qa (Qe (Ci 16 [(0, true), (1, true), (2, true), (3, true), (4, true), (5, true), (6, true), (7, true), (8, true), (9, true), (10, true), (11, false), (12, true), (13, true), (14, true), (15, true)] (fun w1 w' => Ch (No) w1 w') mixed (by kernel_rfl) (fun _ _ => Ch.refl _ _) ?_)))
 intro w2 D2
 have c2 := Ch.of_drew D2; have z2 := c2.size
 have bk_2 := bk.keep (c1.trans c2)
 have row_2 := row.keep (c1.trans c2)
 have b4_2 := b4.keep c2
 refine Hm (fun w' hS => Qc rfl) rfl (Hm (fun w' hS => Ql rfl) rfl (Hm (fun w' hS => Qg υ209 rfl ς31 rfl rfl rfl) rfl (Hm (fun w' hS => Qh ι31 rfl ((bk_2.keep hS).cell rfl)) rfl (Hm (fun w' hS => Qg υ135 rfl ς3 rfl rfl rfl) rfl (Hm (fun w' hS => Qh ι3 rfl ((b4_2.keep hS).cell rfl)) rfl (Hm (fun w' hS => Qg υ135 rfl ς3 rfl rfl rfl) rfl (Hm (fun w' hS => Qh ι3 rfl ((b4_2.keep hS).cell rfl)) rfl ?_)))))))
 refine Hm (fun w' hS => Qg υ135 rfl ς3 rfl rfl rfl) rfl (Hm (fun w' hS => Qh ι3 rfl ((b4_2.keep hS).cell rfl)) rfl (Hm (fun w' hS => Qc rfl) rfl (Hq (Qi Tryz.call251 rfl (direct_AtG _ _ _ _ _ _ _ _ (by omega) (by omega) (row_2).sl _ _ hn hn2 hk hv (by omega) hb)) rfl ?_)))
 rintro _ w3 ⟨p3, q3, rfl, F3, c3⟩
 have z3 := c3.size
 have RD_3 := (Ch.refl (No) w2).and c3
 refine ⟨RD_3, ?_⟩
 refine Hm (fun w' hS => Qc rfl) rfl (Hm (fun w' hS => Qq rfl rfl) rfl (Hm (fun w' hS => Qq rfl rfl) rfl (Hm (fun w' hS => Qd rfl) rfl (Cn (Om (Qd rfl) rfl (Qf (Qx ?_)))))))
 refine Qa (Qe (Qb (Om (Qc rfl) rfl (Om (Wc υ28 rfl) rfl (Qf (Qa (Cw rfl ?_)))))))
 refine Ci 10 [(0, true), (1, true), (2, true), (3, true), (4, true), (5, true), (6, true), (7, true), (8, true), (9, true)] (fun w1 w' => Ch (No) w1 w') mixed (by kernel_rfl) (fun _ _ => Ch.refl _ _) ?_
 intro w4 D4
 have c4 := Ch.of_drew D4; have z4 := c4.size
 have bk_4 := bk_2.keep (c3.trans c4)
 have row_4 := row_2.keep (c3.trans c4)
 have b4_4 := b4_2.keep (c3.trans c4)
 refine Hm (fun w' hS => Qc rfl) rfl (Hm (fun w' hS => Ql rfl) rfl (Hm (fun w' hS => Qg υ209 rfl ς31 rfl rfl rfl) rfl (Hm (fun w' hS => Qh ι31 rfl ((bk_4.keep hS).cell rfl)) rfl (Hm (fun w' hS => Qg υ135 rfl ς3 rfl rfl rfl) rfl (Hm (fun w' hS => Qh ι3 rfl ((b4_4.keep hS).cell rfl)) rfl (Hm (fun w' hS => Qc rfl) rfl ?_))))))
 refine Hm (fun w' hS => Ce rfl rfl (by rw [IntKind.wrap_i64]; omega)) rfl ?_
 refine Hm (fun w' hS => Qc rfl) rfl (Hm (fun w' hS => Cb υ31 ς33 rfl rfl (row_4.sl.ne (by omega)) (by omega) (by omega)) rfl (Cn (Oz (Rl ς33 rfl rfl (by omega) row_4) rfl ?_)))
 rintro _ w5 ⟨o5, c5, z5⟩
 have y5 := o5.lt
 refine Qf (Qx (Ri rfl (Ret.mk ?_)))
 have row9 := o5; rw [show ((d : Int) + (i : Int)).toNat = d + i by omega] at row9
 have bk_5 := bk_4.to c5
 have fil_4 := fil.keep (c1.trans (c2.trans (c3.trans c4)))
 have fil_5 := fil_4.to c5
 have CH_4 := (Ch.refl (MS m r) w).and (c1.trans (c2.trans (c3.trans c4)))
 have CH_5 : Ch (MS m r) w w5 := CH_4.then c5
 exact ⟨rfl, _, _, ⟨bk_5, row9, ne, fil_5⟩, (by simp only [map_getD]; rw [List.map_set, F3]), CH_5⟩
theorem actG_chirp (m r : Nat) (b : Bld) (N : Nat) (SA : Option Addr) (sc : Nat) (bs : ByteArray) (CA : Option Addr) (ac dn st at_ : Int) (F : Fil) (xs : List CB) (w : World) (mr : MacG w m r b N SA sc bs CA ac dn st at_ F xs) (hN : N ≤ 1000000) (op co kk : Int) (d sr ju nn i : Nat) (hd : d + i < N) (hn : 1 ≤ nn) (hn2 : nn ≤ 16384) (hi : i ≤ 1000000) :
  Calls Tryz.prog 211 #[.pointer (some ⟨m, 0, none⟩), .agg #[.int .i64 op, .int .i64 d, .int .i64 sr, .int .i64 ju, .int .i64 co, .int .i64 nn, .int .i64 kk], .int .i64 i] w (Ret (fun v w' => v = .tuple #[] ∧ ∃ F ys, MacG w' m r b N SA sc bs CA ac dn st at_ F ys ∧ ys.map cx = (xs.map cx).set (d + i) (mulC ((xs.map cx).getD (d + i) z0) (chirpF nn i)) ∧ Ch (MS m r) w w')) := by
 obtain ⟨bk, row, ne, fil⟩ := id mr
 have yr := Ow.lt row; have ym := bk.lt; have fn1 := fil.n1; have fn2 := fil.n2; have fy := Ow.lt fil.ow
 refine calls_of_VC (args := [.pointer (some ⟨m, 0, none⟩), .agg #[.int .i64 op, .int .i64 d, .int .i64 sr, .int .i64 ju, .int .i64 co, .int .i64 nn, .int .i64 kk], .int .i64 i]) Tryz.func211 rfl Tryz.ntmps211 rfl (Qe (Qb (Oq (Cj rfl) rfl ?_)))
 rintro _ w1 ⟨p1, rfl, N1⟩
 have c1 := N1.ch
 have e1 := N1.p; have z1 := N1.size
 have b4 := Bk.new N1
 refine Qf (Qa (Qe (Qb (Om (Qg υ135 rfl ς3 rfl rfl rfl) rfl (Om (Qh ι3 rfl (b4.cell rfl)) rfl (Om (Qc rfl) rfl (Oq (Qi Tryz.call252 rfl (chirp_At _ _ (by omega) (by omega) (by omega) _)) rfl ?_)))))))
 rintro _ w2 ⟨x2, y2, rfl, F2, c2⟩
 have z2 := c2.size
 refine Om (Qc rfl) rfl (Om (Qq rfl rfl) rfl (Om (Qq rfl rfl) rfl (Om (Qd rfl) rfl (Om (Qd rfl) rfl (Qf (Qa (Qe ?_)))))))
 refine Qb (Om (Qc rfl) rfl (Om (Wc υ28 rfl) rfl (Qf (Qa (Cw rfl (Ci 21 [(0, true), (1, true), (2, true), (3, true), (4, true), (5, true), (6, true), (7, true), (8, true), (9, true), (10, true), (11, true), (12, true), (13, true), (14, true), (15, true), (16, true), (17, true), (18, true), (19, false), (20, true)] (fun w1 w' => Ch (No) w1 w') mixed (by kernel_rfl) (fun _ _ => Ch.refl _ _) ?_))))))
 intro w3 D3
 have c3 := Ch.of_drew D3; have z3 := c3.size
 have bk_3 := bk.keep (c1.trans (c2.trans c3))
 have row_3 := row.keep (c1.trans (c2.trans c3))
 have b4_3 := b4.keep (c2.trans c3)
 refine Hm (fun w' hS => Qc rfl) rfl (Hm (fun w' hS => Ql rfl) rfl (Hm (fun w' hS => Qg υ209 rfl ς31 rfl rfl rfl) rfl (Hm (fun w' hS => Qh ι31 rfl ((bk_3.keep hS).cell rfl)) rfl (Hm (fun w' hS => Qg υ135 rfl ς3 rfl rfl rfl) rfl (Hm (fun w' hS => Qh ι3 rfl ((b4_3.keep hS).cell rfl)) rfl (Hm (fun w' hS => Qc rfl) rfl ?_))))))
 refine Hm (fun w' hS => Ce rfl rfl (by rw [IntKind.wrap_i64]; omega)) rfl ?_
 refine Hm (fun w' hS => Qc rfl) rfl (Hm (fun w' hS => Ql rfl) rfl (Hm (fun w' hS => Qg υ209 rfl ς31 rfl rfl rfl) rfl (Hm (fun w' hS => Qh ι31 rfl ((bk_3.keep hS).cell rfl)) rfl (Hm (fun w' hS => Qg υ135 rfl ς3 rfl rfl rfl) rfl (Hm (fun w' hS => Qh ι3 rfl ((b4_3.keep hS).cell rfl)) rfl (Hm (fun w' hS => Qc rfl) rfl ?_))))))
 refine Hm (fun w' hS => Ce rfl rfl (by rw [IntKind.wrap_i64]; omega)) rfl ?_
 refine Hm (fun w' hS => Cb υ31 ς33 rfl rfl (row_3.sl.ne (by omega)) (by omega) (by omega)) rfl (Hm (fun w' hS => Qh ι33 rfl ((row_3.keep hS).sl.getC (by omega) (by omega))) rfl (Hm (fun w' hS => Qc rfl) rfl (Hq (Qi κ48 rfl (cplx_Mul _ _ _ _ _)) rfl ?_)))
 rintro _ w4 ⟨p4, q4, rfl, F4, c4⟩
 have z4 := c4.size
 have RD_4 := (Ch.refl (No) w3).and c4
 refine ⟨RD_4, ?_⟩
 refine Hm (fun w' hS => Cb υ31 ς33 rfl rfl (row_3.sl.ne (by omega)) (by omega) (by omega)) rfl (Cn ?_)
 have row_4 := row_3.keep c4
 refine Oz (Rl ς33 rfl rfl (by omega) row_4) rfl ?_
 rintro _ w5 ⟨o5, c5, z5⟩
 have y5 := o5.lt
 refine Qf (Qx (Ri rfl (Ret.mk ?_)))
 have row9 := o5; rw [show ((d : Int) + (i : Int)).toNat = d + i by omega] at row9
 have bk_4 := bk_3.keep c4
 have bk_5 := bk_4.to c5
 have fil_4 := fil.keep (c1.trans (c2.trans (c3.trans c4)))
 have fil_5 := fil_4.to c5
 have CH_4 := (Ch.refl (MS m r) w).and (c1.trans (c2.trans (c3.trans c4)))
 have CH_5 : Ch (MS m r) w w5 := CH_4.then c5
 exact ⟨rfl, _, _, ⟨bk_5, row9, ne, fil_5⟩, (by rw [map_getD, List.map_set, F4, F2, show ((d : Int) + (i : Int)).toNat = d + i by omega]), CH_5⟩
theorem actG_times (m r : Nat) (b : Bld) (N : Nat) (SA : Option Addr) (sc : Nat) (bs : ByteArray) (CA : Option Addr) (ac dn st at_ : Int) (F : Fil) (xs : List CB) (w : World) (mr : MacG w m r b N SA sc bs CA ac dn st at_ F xs) (hN : N ≤ 1000000) (op co nn kk : Int) (d sr ju i : Nat) (hd : d + i < N) (hs : sr + i < N) :
  Calls Tryz.prog 213 #[.pointer (some ⟨m, 0, none⟩), .agg #[.int .i64 op, .int .i64 d, .int .i64 sr, .int .i64 ju, .int .i64 co, .int .i64 nn, .int .i64 kk], .int .i64 i] w (Ret (fun v w' => v = .tuple #[] ∧ ∃ F ys, MacG w' m r b N SA sc bs CA ac dn st at_ F ys ∧ ys.map cx = (xs.map cx).set (d + i) (mulC ((xs.map cx).getD (d + i) z0) ((xs.map cx).getD (sr + i) z0)) ∧ Ch (MS m r) w w')) := by
 obtain ⟨bk, row, ne, fil⟩ := id mr
 have yr := Ow.lt row; have ym := bk.lt; have fn1 := fil.n1; have fn2 := fil.n2; have fy := Ow.lt fil.ow
 refine calls_of_VC (args := [.pointer (some ⟨m, 0, none⟩), .agg #[.int .i64 op, .int .i64 d, .int .i64 sr, .int .i64 ju, .int .i64 co, .int .i64 nn, .int .i64 kk], .int .i64 i]) Tryz.func213 rfl Tryz.ntmps213 rfl (Qe (Qb (Oq (Cj rfl) rfl ?_)))
 rintro _ w1 ⟨p1, rfl, N1⟩
 have c1 := N1.ch
 have e1 := N1.p; have z1 := N1.size
 have b4 := Bk.new N1
 refine Qf (Qa (Ci 30 [(0, true), (1, true), (2, true), (3, true), (4, true), (5, true), (6, true), (7, true), (8, true), (9, true), (10, true), (11, true), (12, true), (13, true), (14, true), (15, true), (16, true), (17, true), (18, true), (19, true), (20, true), (21, true), (22, true), (23, true), (24, true), (25, true), (26, true), (27, true), (28, false), (29, true)] (fun w1 w' => Ch (No) w1 w') mixed (by kernel_rfl) (fun _ _ => Ch.refl _ _) ?_))
 intro w2 D2
 have c2 := Ch.of_drew D2; have z2 := c2.size
 have bk_2 := bk.keep (c1.trans c2)
 have row_2 := row.keep (c1.trans c2)
 have b4_2 := b4.keep c2
 refine Hm (fun w' hS => Qc rfl) rfl (Hm (fun w' hS => Ql rfl) rfl (Hm (fun w' hS => Qg υ209 rfl ς31 rfl rfl rfl) rfl (Hm (fun w' hS => Qh ι31 rfl ((bk_2.keep hS).cell rfl)) rfl (Hm (fun w' hS => Qg υ135 rfl ς3 rfl rfl rfl) rfl (Hm (fun w' hS => Qh ι3 rfl ((b4_2.keep hS).cell rfl)) rfl (Hm (fun w' hS => Qc rfl) rfl ?_))))))
 refine Hm (fun w' hS => Ce rfl rfl (by rw [IntKind.wrap_i64]; omega)) rfl ?_
 refine Hm (fun w' hS => Qc rfl) rfl (Hm (fun w' hS => Ql rfl) rfl (Hm (fun w' hS => Qg υ209 rfl ς31 rfl rfl rfl) rfl (Hm (fun w' hS => Qh ι31 rfl ((bk_2.keep hS).cell rfl)) rfl (Hm (fun w' hS => Qg υ135 rfl ς3 rfl rfl rfl) rfl (Hm (fun w' hS => Qh ι3 rfl ((b4_2.keep hS).cell rfl)) rfl (Hm (fun w' hS => Qc rfl) rfl ?_))))))
 refine Hm (fun w' hS => Ce rfl rfl (by rw [IntKind.wrap_i64]; omega)) rfl ?_
 refine Hm (fun w' hS => Cb υ31 ς33 rfl rfl (row_2.sl.ne (by omega)) (by omega) (by omega)) rfl (Hm (fun w' hS => Qh ι33 rfl ((row_2.keep hS).sl.getC (by omega) (by omega))) rfl (Hm (fun w' hS => Qc rfl) rfl (Hm (fun w' hS => Ql rfl) rfl (Hm (fun w' hS => Qg υ209 rfl ς31 rfl rfl rfl) rfl (Hm (fun w' hS => Qh ι31 rfl ((bk_2.keep hS).cell rfl)) rfl (Hm (fun w' hS => Qg υ135 rfl ς3 rfl rfl rfl) rfl (Hm (fun w' hS => Qh ι3 rfl ((b4_2.keep hS).cell rfl)) rfl ?_)))))))
 refine Hm (fun w' hS => Qc rfl) rfl ?_
 refine Hm (fun w' hS => Ce rfl rfl (by rw [IntKind.wrap_i64]; omega)) rfl ?_
 refine Hm (fun w' hS => Cb υ31 ς33 rfl rfl (row_2.sl.ne (by omega)) (by omega) (by omega)) rfl (Hm (fun w' hS => Qh ι33 rfl ((row_2.keep hS).sl.getC (by omega) (by omega))) rfl (Hq (Qi κ48 rfl (cplx_Mul _ _ _ _ _)) rfl ?_))
 rintro _ w3 ⟨p3, q3, rfl, F3, c3⟩
 have z3 := c3.size
 have RD_3 := (Ch.refl (No) w2).and c3
 refine ⟨RD_3, ?_⟩
 refine Hm (fun w' hS => Cb υ31 ς33 rfl rfl (row_2.sl.ne (by omega)) (by omega) (by omega)) rfl (Cn ?_)
 have row_3 := row_2.keep c3
 refine Oz (Rl ς33 rfl rfl (by omega) row_3) rfl ?_
 rintro _ w4 ⟨o4, c4, z4⟩
 have y4 := o4.lt
 refine Qf (Qx (Ri rfl (Ret.mk ?_)))
 have row9 := o4; rw [show ((d : Int) + (i : Int)).toNat = d + i by omega] at row9
 have bk_3 := bk_2.keep c3
 have bk_4 := bk_3.to c4
 have fil_3 := fil.keep (c1.trans (c2.trans c3))
 have fil_4 := fil_3.to c4
 have CH_3 := (Ch.refl (MS m r) w).and (c1.trans (c2.trans c3))
 have CH_4 : Ch (MS m r) w w4 := CH_3.then c4
 exact ⟨rfl, _, _, ⟨bk_4, row9, ne, fil_4⟩, (by rw [map_getD, map_getD, List.map_set, F3, show ((d : Int) + (i : Int)).toNat = d + i by omega, show ((sr : Int) + (i : Int)).toNat = sr + i by omega]), CH_4⟩
theorem actG_conj (m r : Nat) (b : Bld) (N : Nat) (SA : Option Addr) (sc : Nat) (bs : ByteArray) (CA : Option Addr) (ac dn st at_ : Int) (F : Fil) (xs : List CB) (w : World) (mr : MacG w m r b N SA sc bs CA ac dn st at_ F xs) (hN : N ≤ 1000000) (op co nn kk : Int) (d sr ju i : Nat) (hd : d + i < N) :
  Calls Tryz.prog 214 #[.pointer (some ⟨m, 0, none⟩), .agg #[.int .i64 op, .int .i64 d, .int .i64 sr, .int .i64 ju, .int .i64 co, .int .i64 nn, .int .i64 kk], .int .i64 i] w (Ret (fun v w' => v = .tuple #[] ∧ ∃ F ys, MacG w' m r b N SA sc bs CA ac dn st at_ F ys ∧ ys.map cx = (xs.map cx).set (d + i) (conjC ((xs.map cx).getD (d + i) z0)) ∧ Ch (MS m r) w w')) := by
 obtain ⟨bk, row, ne, fil⟩ := id mr
 have yr := Ow.lt row; have ym := bk.lt; have fn1 := fil.n1; have fn2 := fil.n2; have fy := Ow.lt fil.ow
 refine calls_of_VC (args := [.pointer (some ⟨m, 0, none⟩), .agg #[.int .i64 op, .int .i64 d, .int .i64 sr, .int .i64 ju, .int .i64 co, .int .i64 nn, .int .i64 kk], .int .i64 i]) Tryz.func214 rfl Tryz.ntmps214 rfl (Qe (Qb (Oq (Cj rfl) rfl ?_)))
 rintro _ w1 ⟨p1, rfl, N1⟩
 have c1 := N1.ch
 have e1 := N1.p; have z1 := N1.size
 have b4 := Bk.new N1
 refine Qf (Qa (Ci 20 [(0, true), (1, true), (2, true), (3, true), (4, true), (5, true), (6, true), (7, true), (8, true), (9, true), (10, true), (11, true), (12, true), (13, true), (14, true), (15, true), (16, true), (17, true), (18, false), (19, true)] (fun w1 w' => Ch (No) w1 w') mixed (by kernel_rfl) (fun _ _ => Ch.refl _ _) ?_))
 intro w2 D2
 have c2 := Ch.of_drew D2; have z2 := c2.size
 have bk_2 := bk.keep (c1.trans c2)
 have row_2 := row.keep (c1.trans c2)
 have b4_2 := b4.keep c2
 refine Hm (fun w' hS => Qc rfl) rfl (Hm (fun w' hS => Ql rfl) rfl (Hm (fun w' hS => Qg υ209 rfl ς31 rfl rfl rfl) rfl (Hm (fun w' hS => Qh ι31 rfl ((bk_2.keep hS).cell rfl)) rfl (Hm (fun w' hS => Qg υ135 rfl ς3 rfl rfl rfl) rfl (Hm (fun w' hS => Qh ι3 rfl ((b4_2.keep hS).cell rfl)) rfl (Hm (fun w' hS => Qc rfl) rfl ?_))))))
 refine Hm (fun w' hS => Ce rfl rfl (by rw [IntKind.wrap_i64]; omega)) rfl ?_
 refine Hm (fun w' hS => Qc rfl) rfl (Hm (fun w' hS => Ql rfl) rfl (Hm (fun w' hS => Qg υ209 rfl ς31 rfl rfl rfl) rfl (Hm (fun w' hS => Qh ι31 rfl ((bk_2.keep hS).cell rfl)) rfl (Hm (fun w' hS => Qg υ135 rfl ς3 rfl rfl rfl) rfl (Hm (fun w' hS => Qh ι3 rfl ((b4_2.keep hS).cell rfl)) rfl (Hm (fun w' hS => Qc rfl) rfl ?_))))))
 refine Hm (fun w' hS => Ce rfl rfl (by rw [IntKind.wrap_i64]; omega)) rfl ?_
 refine Hm (fun w' hS => Cb υ31 ς33 rfl rfl (row_2.sl.ne (by omega)) (by omega) (by omega)) rfl (Hm (fun w' hS => Qh ι33 rfl ((row_2.keep hS).sl.getC (by omega) (by omega))) rfl (Hq (Qi Tryz.call78 rfl (cplx_Conj _ _ _)) rfl ?_))
 rintro _ w3 ⟨p3, q3, rfl, F3, c3⟩
 have z3 := c3.size
 have RD_3 := (Ch.refl (No) w2).and c3
 refine ⟨RD_3, ?_⟩
 refine Hm (fun w' hS => Cb υ31 ς33 rfl rfl (row_2.sl.ne (by omega)) (by omega) (by omega)) rfl (Cn ?_)
 have row_3 := row_2.keep c3
 refine Oz (Rl ς33 rfl rfl (by omega) row_3) rfl ?_
 rintro _ w4 ⟨o4, c4, z4⟩
 have y4 := o4.lt
 refine Qf (Qx (Ri rfl (Ret.mk ?_)))
 have row9 := o4; rw [show ((d : Int) + (i : Int)).toNat = d + i by omega] at row9
 have bk_3 := bk_2.keep c3
 have bk_4 := bk_3.to c4
 have fil_3 := fil.keep (c1.trans (c2.trans c3))
 have fil_4 := fil_3.to c4
 have CH_3 := (Ch.refl (MS m r) w).and (c1.trans (c2.trans c3))
 have CH_4 : Ch (MS m r) w w4 := CH_3.then c4
 exact ⟨rfl, _, _, ⟨bk_4, row9, ne, fil_4⟩, (by rw [map_getD, List.map_set, F3, show ((d : Int) + (i : Int)).toNat = d + i by omega]), CH_4⟩
theorem actG_over (m r : Nat) (b : Bld) (N : Nat) (SA : Option Addr) (sc : Nat) (bs : ByteArray) (CA : Option Addr) (ac dn st at_ : Int) (F : Fil) (xs : List CB) (w : World) (mr : MacG w m r b N SA sc bs CA ac dn st at_ F xs) (hN : N ≤ 1000000) (op co nn kk : Int) (d sr ju i : Nat) (hd : d + i < N) :
  Calls Tryz.prog 215 #[.pointer (some ⟨m, 0, none⟩), .agg #[.int .i64 op, .int .i64 d, .int .i64 sr, .int .i64 ju, .int .i64 co, .int .i64 nn, .int .i64 kk], .int .i64 i] w (Ret (fun v w' => v = .tuple #[] ∧ ∃ F ys, MacG w' m r b N SA sc bs CA ac dn st at_ F ys ∧ ys.map cx = (xs.map cx).set (d + i) (overC ((xs.map cx).getD (d + i) z0) nn) ∧ Ch (MS m r) w w')) := by
 obtain ⟨bk, row, ne, fil⟩ := id mr
 have yr := Ow.lt row; have ym := bk.lt; have fn1 := fil.n1; have fn2 := fil.n2; have fy := Ow.lt fil.ow
 refine calls_of_VC (args := [.pointer (some ⟨m, 0, none⟩), .agg #[.int .i64 op, .int .i64 d, .int .i64 sr, .int .i64 ju, .int .i64 co, .int .i64 nn, .int .i64 kk], .int .i64 i]) Tryz.func215 rfl Tryz.ntmps215 rfl (Qe (Qb (Oq (Cj rfl) rfl ?_)))
 rintro _ w1 ⟨p1, rfl, N1⟩
 have c1 := N1.ch
 have e1 := N1.p; have z1 := N1.size
 have b4 := Bk.new N1
 refine Qf (Qa (Ci 22 [(0, true), (1, true), (2, true), (3, true), (4, true), (5, true), (6, true), (7, true), (8, true), (9, true), (10, true), (11, true), (12, true), (13, true), (14, true), (15, true), (16, true), (17, true), (18, true), (19, true), (20, false), (21, true)] (fun w1 w' => Ch (No) w1 w') mixed (by kernel_rfl) (fun _ _ => Ch.refl _ _) ?_))
 intro w2 D2
 have c2 := Ch.of_drew D2; have z2 := c2.size
 have bk_2 := bk.keep (c1.trans c2)
 have row_2 := row.keep (c1.trans c2)
 have b4_2 := b4.keep c2
 refine Hm (fun w' hS => Qc rfl) rfl (Hm (fun w' hS => Ql rfl) rfl (Hm (fun w' hS => Qg υ209 rfl ς31 rfl rfl rfl) rfl (Hm (fun w' hS => Qh ι31 rfl ((bk_2.keep hS).cell rfl)) rfl (Hm (fun w' hS => Qg υ135 rfl ς3 rfl rfl rfl) rfl (Hm (fun w' hS => Qh ι3 rfl ((b4_2.keep hS).cell rfl)) rfl (Hm (fun w' hS => Qc rfl) rfl ?_))))))
 refine Hm (fun w' hS => Ce rfl rfl (by rw [IntKind.wrap_i64]; omega)) rfl ?_
 refine Hm (fun w' hS => Qc rfl) rfl (Hm (fun w' hS => Ql rfl) rfl (Hm (fun w' hS => Qg υ209 rfl ς31 rfl rfl rfl) rfl (Hm (fun w' hS => Qh ι31 rfl ((bk_2.keep hS).cell rfl)) rfl (Hm (fun w' hS => Qg υ135 rfl ς3 rfl rfl rfl) rfl (Hm (fun w' hS => Qh ι3 rfl ((b4_2.keep hS).cell rfl)) rfl (Hm (fun w' hS => Qc rfl) rfl ?_))))))
 refine Hm (fun w' hS => Ce rfl rfl (by rw [IntKind.wrap_i64]; omega)) rfl ?_
 refine Hm (fun w' hS => Cb υ31 ς33 rfl rfl (row_2.sl.ne (by omega)) (by omega) (by omega)) rfl (Hm (fun w' hS => Qh ι33 rfl ((row_2.keep hS).sl.getC (by omega) (by omega))) rfl (Hm (fun w' hS => Qg υ135 rfl ς3 rfl rfl rfl) rfl (Hm (fun w' hS => Qh ι3 rfl ((b4_2.keep hS).cell rfl)) rfl (Hq (Qi Tryz.call136 rfl (cplx_Over _ _ _ _)) rfl ?_))))
 rintro _ w3 ⟨p3, q3, rfl, F3, c3⟩
 have z3 := c3.size
 have RD_3 := (Ch.refl (No) w2).and c3
 refine ⟨RD_3, ?_⟩
 refine Hm (fun w' hS => Cb υ31 ς33 rfl rfl (row_2.sl.ne (by omega)) (by omega) (by omega)) rfl (Cn ?_)
 have row_3 := row_2.keep c3
 refine Oz (Rl ς33 rfl rfl (by omega) row_3) rfl ?_
 rintro _ w4 ⟨o4, c4, z4⟩
 have y4 := o4.lt
 refine Qf (Qx (Ri rfl (Ret.mk ?_)))
 have row9 := o4; rw [show ((d : Int) + (i : Int)).toNat = d + i by omega] at row9
 have bk_3 := bk_2.keep c3
 have bk_4 := bk_3.to c4
 have fil_3 := fil.keep (c1.trans (c2.trans c3))
 have fil_4 := fil_3.to c4
 have CH_3 := (Ch.refl (MS m r) w).and (c1.trans (c2.trans c3))
 have CH_4 : Ch (MS m r) w w4 := CH_3.then c4
 exact ⟨rfl, _, _, ⟨bk_4, row9, ne, fil_4⟩, (by rw [map_getD, List.map_set, F3, show ((d : Int) + (i : Int)).toNat = d + i by omega]), CH_4⟩
theorem actG_fly (m r : Nat) (b : Bld) (N : Nat) (SA : Option Addr) (sc : Nat) (bs : ByteArray) (CA : Option Addr) (ac dn st at_ : Int) (F : Fil) (xs : List CB) (w : World) (mr : MacG w m r b N SA sc bs CA ac dn st at_ F xs) (hN : N ≤ 1000000) (op sr co kk : Int) (d ju nn i : Nat) (hnn : 2 ≤ nn ∧ nn ≤ 5) (hb : ∀ q, q < nn → d + i + q * ju < N) :
  Calls Tryz.prog 209 #[.pointer (some ⟨m, 0, none⟩), .agg #[.int .i64 op, .int .i64 d, .int .i64 sr, .int .i64 ju, .int .i64 co, .int .i64 nn, .int .i64 kk], .int .i64 i] w (Ret (fun v w' => v = .tuple #[] ∧ ∃ F ys, MacG w' m r b N SA sc bs CA ac dn st at_ F ys ∧ ys.map cx = putN (xs.map cx) (d + i) ju (flyG ((List.range nn).map fun q => (xs.map cx).getD (d + i + q * ju) z0)) nn ∧ Ch (MS m r) w w')) := by
 obtain ⟨bk, row, ne, fil⟩ := id mr
 have yr := Ow.lt row; have ym := bk.lt; have fn1 := fil.n1; have fn2 := fil.n2; have fy := Ow.lt fil.ow
 have hb0 := hb 0 (by omega); rw [Nat.zero_mul] at hb0
 refine calls_of_VC (args := [.pointer (some ⟨m, 0, none⟩), .agg #[.int .i64 op, .int .i64 d, .int .i64 sr, .int .i64 ju, .int .i64 co, .int .i64 nn, .int .i64 kk], .int .i64 i]) Tryz.func209 rfl Tryz.ntmps209 rfl (Qe (Qb (Oq (Cj rfl) rfl ?_)))
 rintro _ w1 ⟨p1, rfl, N1⟩
 have c1 := N1.ch
 have e1 := N1.p; have z1 := N1.size
 have b4 := Bk.new N1
 refine Qf (Qa (Qe (Qb (Om (Qg υ135 rfl ς3 rfl rfl rfl) rfl (Om (Qh ι3 rfl (b4.cell rfl)) rfl (Oq (Wk.mkC υ31 inf33w83 rfl rfl (by omega) (by omega) (by omega)) rfl ?_))))))
 rintro _ w2 ⟨p2, rfl, o2, c2, e2, z2⟩
 refine Om (Qd rfl) rfl (Qf (Qa (Qe (Qe (Qb (Om (Qc rfl) rfl (Om (Ra υ31 rfl) rfl ?_)))))))
 refine Om (Qc rfl) rfl (Qf (Qa (Qw ?_)))
 have b4_2 := b4.keep c2
 have bk_2 := bk.keep (c1.trans c2)
 have fil_2 := fil.keep (c1.trans c2)
 have row_2 := row.keep (c1.trans c2)
 have CH_2 := (Ch.refl (MS m r) w).and (c1.trans c2)
 refine Cp (σ := Nat) (fun j => [(0, .pointer (some ⟨m, 0, none⟩)), (2, .int .i64 i), (4, .pointer (some ⟨p1, 0, none⟩)), (6, .slice (some ⟨p2, 0, none⟩) nn nn), (16, .int .i64 nn), (17, .int .i64 j)]) (fun j w' => j ≤ nn ∧ w2.heap.size ≤ w'.heap.size ∧ Bk w' p1 #[.int .i64 op, .int .i64 d, .int .i64 sr, .int .i64 ju, .int .i64 co, .int .i64 nn, .int .i64 kk] 135 ∧ Bk w' m (macG b N SA sc bs CA ac dn st at_ F) 209 ∧ FilR w' m r F ∧ CR 33 w' r CA N N xs ∧ CR 33 w' (p2 + 1) (some ⟨p2, 0, none⟩) nn nn (rowF nn (fun q => xs.getD (d + i + q * ju) (0, 0)) j) ∧ Ch (MS m r) w w') (fun j => nn - j) 0 ?_ ⟨rfl, rfl, rfl, rfl, rfl, rfl, trivial⟩ ?_
 · exact ⟨(by omega), (Nat.le_refl _), b4_2, bk_2, fil_2, row_2, (by rw [rowF_zero]; exact o2), CH_2⟩
 rintro j w3 ⟨hj, hsz3, b4_3, bk_3, fil_3, row_3, af_3, CH_3⟩
 show VC _ _ _ _ [(0, .pointer (some ⟨m, 0, none⟩)), (2, .int .i64 i), (4, .pointer (some ⟨p1, 0, none⟩)), (6, .slice (some ⟨p2, 0, none⟩) nn nn), (16, .int .i64 nn), (17, .int .i64 j)] _
 have e0 : ((j * ju : Nat) : Int) = (j : Int) * (ju : Int) := by push_cast; rfl
 have hbj := hb j
 refine Qe (Qb (Om (Cs rfl rfl) rfl (Qf (Qa (Qe (Qj rfl (fun hc1 => ?_) (fun hc1 => ?_)))))))
 ·
  refine Qn (Qa (Qe (Qw (Qe (Qb (Om (Qc rfl) rfl (Om (Qd rfl) rfl ?_)))))))
  refine Qf (Qa (Ci 18 [(0, true), (1, true), (2, true), (3, true), (4, true), (5, true), (6, true), (7, true), (8, true), (9, true), (10, true), (11, true), (12, true), (13, true), (14, true), (15, true), (16, true), (17, true)] (fun w1 w' => Ch (No) w1 w') mixed (by kernel_rfl) (fun _ _ => Ch.refl _ _) ?_))
  intro w4 D4
  have c4 := Ch.of_drew D4; have z4 := c4.size
  have bk_4 := bk_3.keep c4
  have row_4 := row_3.keep c4
  have b4_4 := b4_3.keep c4
  have af_4 := af_3.keep c4
  refine Hm (fun w' hS => Qc rfl) rfl (Hm (fun w' hS => Qc rfl) rfl (Hm (fun w' hS => Qc rfl) rfl (Hm (fun w' hS => Ql rfl) rfl (Hm (fun w' hS => Qg υ209 rfl ς31 rfl rfl rfl) rfl (Hm (fun w' hS => Qh ι31 rfl ((bk_4.keep hS).cell rfl)) rfl (Hm (fun w' hS => Qg υ135 rfl ς3 rfl rfl rfl) rfl (Hm (fun w' hS => Qh ι3 rfl ((b4_4.keep hS).cell rfl)) rfl ?_)))))))
  refine Hm (fun w' hS => Qc rfl) rfl ?_
  refine Hm (fun w' hS => Ce rfl rfl (by rw [IntKind.wrap_i64]; omega)) rfl ?_
  refine Hm (fun w' hS => Qc rfl) rfl (Hm (fun w' hS => Qg υ135 rfl ς3 rfl rfl rfl) rfl (Hm (fun w' hS => Qh ι3 rfl ((b4_4.keep hS).cell rfl)) rfl ?_))
  refine Hm (fun w' hS => Cv rfl rfl (by rw [IntKind.wrap_i64]; omega)) rfl ?_
  refine Hm (fun w' hS => Ce rfl rfl (by rw [IntKind.wrap_i64]; omega)) rfl ?_
  refine Hm (fun w' hS => Cb υ31 ς33 rfl rfl (row_4.sl.ne (by omega)) (by omega) (by omega)) rfl (Hm (fun w' hS => Qh ι33 rfl ((row_4.keep hS).sl.getC (by omega) (by omega))) rfl (Hm (fun w' hS => Cb υ31 ς33 rfl rfl (af_4.sl.ne (by omega)) (by omega) (by omega)) rfl (Cn (Oz (Rl ς33 rfl rfl (by omega) af_4) rfl ?_))))
  rintro _ w5 ⟨o5, c5, z5⟩
  have y5 := o5.lt
  refine Qf (Qx (Qo (Qa (Qb ?_))))
  refine Om (Ce rfl rfl (by rw [IntKind.wrap_i64]; omega)) rfl ?_
  refine Om (Qc rfl) rfl (Qf ?_)
  refine Ck (j + 1) (by first | omega | (dsimp only; omega)) ?_ ⟨rfl, rfl, rfl, rfl, rfl, rfl, trivial⟩
  have b4_5 := b4_4.to c5
  have bk_5 := bk_4.to c5
  have fil_4 := fil_3.keep c4
  have fil_5 := fil_4.to c5
  have row_5 := row_4.to c5
  have CH_4 := CH_3.and c4
  have CH_5 : Ch (MS m r) w w5 := CH_4.then c5
  exact ⟨(by omega), (by omega), b4_5, bk_5, fil_5, row_5, (by have := o5; rw [Int.toNat_natCast, show ((d : Int) + (i : Int) + (j : Int) * (ju : Int)).toNat = d + i + j * ju by omega] at this; rw [← rowF_set (by omega)]; exact this), CH_5⟩
 ·
  refine Cr (Qk (Qk (Qz (Qa (Qe (Qb (Om (Qc rfl) rfl ?_)))))))
  refine Oq (Qi Tryz.call250 rfl (fly_FlyG _ _ _ _ hnn.1 hnn.2 _ _ af_3.sl)) rfl ?_
  rintro _ w6 ⟨q6, zs6, rfl, F6, sl6, e6, c6⟩
  have z6 := c6.size
  have ej : j = nn := by omega
  rw [ej, rowF_all, List.map_map] at F6
  refine Om (Qc rfl) rfl (Om (Qq rfl rfl) rfl (Om (Qq rfl rfl) rfl (Om (Qd rfl) rfl (Om (Qd rfl) rfl (Qf (Qa (Qe ?_)))))))
  refine Qe (Qb (Om (Qc rfl) rfl (Om (Cg υ28 rfl) rfl (Qf (Qa (Ca rfl (Qn ?_)))))))
  refine Qa (Qe (Qb (Om (Qc rfl) rfl (Om (Ra υ31 rfl) rfl (Om (Qc rfl) rfl (Qf (Qa ?_)))))))
  refine Qw ?_
  have b4_6 := b4_3.keep c6
  have bk_6 := bk_3.keep c6
  have fil_6 := fil_3.keep c6
  have row_6 := row_3.keep c6
  have CH_6 := CH_3.and c6
  refine Cp (σ := Nat × List CB) (fun (j, ys) => [(0, .pointer (some ⟨m, 0, none⟩)), (2, .int .i64 i), (4, .pointer (some ⟨p1, 0, none⟩)), (46, .slice (some ⟨q6, 0, none⟩) nn nn), (47, .int .i64 nn), (48, .int .i64 j)]) (fun (j, ys) w' => j ≤ nn ∧ ys.map cx = putN (xs.map cx) (d + i) ju (zs6.map cx) j ∧ w6.heap.size ≤ w'.heap.size ∧ Bk w' p1 #[.int .i64 op, .int .i64 d, .int .i64 sr, .int .i64 ju, .int .i64 co, .int .i64 nn, .int .i64 kk] 135 ∧ Bk w' m (macG b N SA sc bs CA ac dn st at_ F) 209 ∧ FilR w' m r F ∧ CR 33 w' r CA N N ys ∧ SlR (Is q6) w' (some ⟨q6, 0, none⟩) nn 1 (zs6.map cxV) ∧ Ch (MS m r) w w') (fun (j, ys) => nn - j) (0, xs) ?_ ⟨rfl, rfl, rfl, rfl, rfl, rfl, trivial⟩ ?_
  · exact ⟨(by omega), (by rfl), (Nat.le_refl _), b4_6, bk_6, fil_6, row_6, sl6, CH_6⟩
  rintro ⟨j, ys⟩ w7 ⟨hj, hy, hsz7, b4_7, bk_7, fil_7, row_7, sl_7, CH_7⟩
  show VC _ _ _ _ [(0, .pointer (some ⟨m, 0, none⟩)), (2, .int .i64 i), (4, .pointer (some ⟨p1, 0, none⟩)), (46, .slice (some ⟨q6, 0, none⟩) nn nn), (47, .int .i64 nn), (48, .int .i64 j)] _
  have e0 : ((j * ju : Nat) : Int) = (j : Int) * (ju : Int) := by push_cast; rfl
  have hbj := hb j
  refine Qe (Qb (Om (Cs rfl rfl) rfl (Qf (Qa (Qe (Qj rfl (fun hc2 => ?_) (fun hc2 => ?_)))))))
  ·
   refine Qn (Qa (Qe (Qw (Qe (Qb (Om (Qc rfl) rfl (Om (Cb υ31 ς33 rfl rfl (sl_7.ne (by omega)) (by omega) (by omega)) rfl ?_)))))))
   refine Om (Qh ι33 rfl (sl_7.getC (by omega) (by omega))) rfl (Om (Qd rfl) rfl (Om (Qd rfl) rfl (Qf (Qa (Ci 15 [(0, true), (1, true), (2, true), (3, true), (4, true), (5, true), (6, true), (7, true), (8, true), (9, true), (10, true), (11, true), (12, true), (13, true), (14, true)] (fun w1 w' => Ch (No) w1 w') mixed (by kernel_rfl) (fun _ _ => Ch.refl _ _) ?_)))))
   intro w8 D8
   have c8 := Ch.of_drew D8; have z8 := c8.size
   have bk_8 := bk_7.keep c8
   have row_8 := row_7.keep c8
   have b4_8 := b4_7.keep c8
   have sl_8 := sl_7.keep c8
   refine Hm (fun w' hS => Qc rfl) rfl (Hm (fun w' hS => Ql rfl) rfl (Hm (fun w' hS => Qg υ209 rfl ς31 rfl rfl rfl) rfl (Hm (fun w' hS => Qh ι31 rfl ((bk_8.keep hS).cell rfl)) rfl (Hm (fun w' hS => Qg υ135 rfl ς3 rfl rfl rfl) rfl (Hm (fun w' hS => Qh ι3 rfl ((b4_8.keep hS).cell rfl)) rfl (Hm (fun w' hS => Qc rfl) rfl ?_))))))
   refine Hm (fun w' hS => Ce rfl rfl (by rw [IntKind.wrap_i64]; omega)) rfl ?_
   refine Hm (fun w' hS => Qc rfl) rfl (Hm (fun w' hS => Qg υ135 rfl ς3 rfl rfl rfl) rfl (Hm (fun w' hS => Qh ι3 rfl ((b4_8.keep hS).cell rfl)) rfl ?_))
   refine Hm (fun w' hS => Cv rfl rfl (by rw [IntKind.wrap_i64]; omega)) rfl ?_
   refine Hm (fun w' hS => Ce rfl rfl (by rw [IntKind.wrap_i64]; omega)) rfl ?_
   refine Hm (fun w' hS => Qc rfl) rfl (Hm (fun w' hS => Cb υ31 ς33 rfl rfl (row_8.sl.ne (by omega)) (by omega) (by omega)) rfl (Cn (Oz (Rl ς33 rfl rfl (by omega) row_8) rfl ?_)))
   rintro _ w9 ⟨o9, c9, z9⟩
   have y9 := o9.lt
   refine Qf (Qx (Qo (Qa (Qb ?_))))
   refine Om (Ce rfl rfl (by rw [IntKind.wrap_i64]; omega)) rfl ?_
   refine Om (Qc rfl) rfl (Qf ?_)
   refine Ck (j + 1, ys.set (d + i + j * ju) (zs6.getD j (0, 0))) (by first | omega | (dsimp only; omega)) ?_ ⟨rfl, rfl, rfl, rfl, rfl, rfl, trivial⟩
   have b4_9 := b4_8.to c9
   have bk_9 := bk_8.to c9
   have fil_8 := fil_7.keep c8
   have fil_9 := fil_8.to c9
   have sl_9 := sl_8.to c9
   have CH_8 := CH_7.and c8
   have CH_9 : Ch (MS m r) w w9 := CH_8.then c9
   exact ⟨(by omega), (by rw [List.map_set, hy]; show _ = (putN _ _ _ _ _).set _ _; rw [map_getD]), (by omega), b4_9, bk_9, fil_9, (by have := o9; rw [Int.toNat_natCast, show ((d : Int) + (i : Int) + (j : Int) * (ju : Int)).toNat = d + i + j * ju by omega] at this; exact this), sl_9, CH_9⟩
  ·
   refine Cr (Qk (Qk (Qz (Ri rfl (Ret.mk ?_)))))
   have e : j = nn := by omega
   rw [e, F6] at hy
   exact ⟨rfl, _, _, ⟨bk_7, row_7, ne, fil_7⟩, by rw [hy]; simp only [map_getD]; rfl, CH_7⟩
theorem m_fillHit (m r : Nat) (b : Bld) (N : Nat) (SA : Option Addr) (sc : Nat) (bs : ByteArray) (CA : Option Addr) (ac dn st at_ : Int) (F : Fil) (xs : List CB) (w : World) (mr : MacG w m r b N SA sc bs CA ac dn st at_ F xs) (s : Stp) (hsm : SmS s) (e : F.s = s) :
  Calls Tryz.prog 253 #[.pointer (some ⟨m, 0, none⟩), stpV s] w (Ret (fun v w' => v = .slice F.A F.l F.c ∧ Ch No w w')) := by
 obtain ⟨bk, row, ne, fil⟩ := id mr
 have yr := Ow.lt row; have ym := bk.lt; have fn1 := fil.n1; have fn2 := fil.n2; have fy := Ow.lt fil.ow
 refine calls_of_VC (args := [.pointer (some ⟨m, 0, none⟩), stpV s]) Tryz.func253 rfl Tryz.ntmps253 rfl (Qe (Qb (Oq (Cj rfl) rfl ?_)))
 rintro _ w1 ⟨p1, rfl, N1⟩
 have c1 := N1.ch
 have e1 := N1.p; have z1 := N1.size
 have b3 := Bk.new N1
 refine Om (Qd rfl) rfl (Qf (Qa (Qe (Qe (Ci 6 [(0, true), (1, true), (2, true), (3, true), (4, true), (5, true)] (fun w1 w' => Ch (No) w1 w') mixed (by kernel_rfl) (fun _ _ => Ch.refl _ _) ?_)))))
 intro w2 D2
 have c2 := Ch.of_drew D2; have z2 := c2.size
 have bk_2 := bk.keep (c1.trans c2)
 have row_2 := row.keep (c1.trans c2)
 have b3_2 := b3.keep c2
 refine Hm (fun w' hS => Qc rfl) rfl (Hm (fun w' hS => Ql rfl) rfl (Hm (fun w' hS => Qg υ209 rfl ς135 rfl rfl rfl) rfl (Hm (fun w' hS => Qr ι135 ς135 rfl rfl ((bk_2.keep hS).part 7 rfl)) rfl (Hm (fun w' hS => Qr ι135 ς135 rfl rfl ((b3_2.keep hS).all' rfl)) rfl (Hm (fun w' hS => Rn.stepNeF rfl rfl fil.sm hsm e) rfl (Cn (Qf ?_)))))))
 refine Qx (Qa (Ca rfl (Qn (Qa (Qe (Qb (Om (Qc rfl) rfl ?_)))))))
 refine Om (Ql rfl) rfl (Om (Qg υ209 rfl ς31 rfl rfl rfl) rfl (Om (Qh ι31 rfl (bk_2.cell rfl)) rfl (Om (Qd rfl) rfl (Qf (Qa (Qp (Qy rfl rfl ?_)))))))
 refine Ret.mk ?_
 have CH_2 := (Ch.refl (No) w).and (c1.trans c2)
 exact ⟨rfl, CH_2⟩
set_option maxHeartbeats 1000000 in
theorem m_fillMiss (m r : Nat) (b : Bld) (N : Nat) (SA : Option Addr) (sc : Nat) (bs : ByteArray) (CA : Option Addr) (ac dn st at_ : Int) (F : Fil) (xs : List CB) (w : World) (mr : MacG w m r b N SA sc bs CA ac dn st at_ F xs) (d sr ju co nn kk : Nat) (hsm : SmS ⟨8, d, sr, ju, co, nn, kk⟩) (e : ¬ F.s = ⟨8, d, sr, ju, co, nn, kk⟩) (hn1 : 1 ≤ nn) (hco : 2 * nn ≤ co + 1) (hco2 : co ≤ 16384) :
  Calls Tryz.prog 253 #[.pointer (some ⟨m, 0, none⟩), .agg #[.int .i64 8, .int .i64 d, .int .i64 sr, .int .i64 ju, .int .i64 co, .int .i64 nn, .int .i64 kk]] w (Ret (fun v w' => ∃ F', v = .slice F'.A F'.l F'.c ∧ MacG w' m r b N SA sc bs CA ac dn st at_ F' xs ∧ F'.l = co ∧ F'.zs.map cx = otherL nn co ∧ Ch (Is m) w w')) := by
 obtain ⟨bk, row, ne, fil⟩ := id mr
 have yr := Ow.lt row; have ym := bk.lt; have fn1 := fil.n1; have fn2 := fil.n2; have fy := Ow.lt fil.ow
 refine calls_of_VC (args := [.pointer (some ⟨m, 0, none⟩), .agg #[.int .i64 8, .int .i64 d, .int .i64 sr, .int .i64 ju, .int .i64 co, .int .i64 nn, .int .i64 kk]]) Tryz.func253 rfl Tryz.ntmps253 rfl (Qe (Qb (Oq (Cj rfl) rfl ?_)))
 rintro _ w1 ⟨p1, rfl, N1⟩
 have c1 := N1.ch
 have e1 := N1.p; have z1 := N1.size
 have b3 := Bk.new N1
 refine Om (Qd rfl) rfl (Qf (Qa (Qe (Qe (Ci 6 [(0, true), (1, true), (2, true), (3, true), (4, true), (5, true)] (fun w1 w' => Ch (No) w1 w') mixed (by kernel_rfl) (fun _ _ => Ch.refl _ _) ?_)))))
 intro w2 D2
 have c2 := Ch.of_drew D2; have z2 := c2.size
 have bk_2 := bk.keep (c1.trans c2)
 have row_2 := row.keep (c1.trans c2)
 have b3_2 := b3.keep c2
 refine Hm (fun w' hS => Qc rfl) rfl (Hm (fun w' hS => Ql rfl) rfl (Hm (fun w' hS => Qg υ209 rfl ς135 rfl rfl rfl) rfl (Hm (fun w' hS => Qr ι135 ς135 rfl rfl ((bk_2.keep hS).part 7 rfl)) rfl (Hm (fun w' hS => Qr ι135 ς135 rfl rfl ((b3_2.keep hS).all' rfl)) rfl (Hm (fun w' hS => Rn.stepNeT (t := ⟨8, d, sr, ju, co, nn, kk⟩) rfl rfl fil.sm hsm e) rfl (Cn (Qf ?_)))))))
 refine Qx (Qa (Cw rfl (Qe (Qb (Om (Qc rfl) rfl (Om (Qg υ135 rfl ς3 rfl rfl rfl) rfl (Om (Qh ι3 rfl (b3_2.cell rfl)) rfl ?_)))))))
 refine Om (Qg υ135 rfl ς3 rfl rfl rfl) rfl (Om (Qh ι3 rfl (b3_2.cell rfl)) rfl (Oq (Qi Tryz.call285 rfl (chirp_Other nn co (by omega) (by omega) (by omega) _)) rfl ?_))
 rintro _ w3 ⟨q3, zs3, rfl, of3, hz3, eq3, c3⟩
 have yof3 := Ow.lt of3
 have z3 := c3.size
 refine Om (Qc rfl) rfl (Om (Qq rfl rfl) rfl (Om (Qq rfl rfl) rfl (Om (Ql rfl) rfl (Om (Qg υ209 rfl ς31 rfl rfl rfl) rfl ?_))))
 have bk_3 := bk_2.keep c3
 refine Oz (Rh ς31 rfl rfl rfl rfl bk_3 rfl) rfl ?_
 intro _ w4 Z4
 have c4 := Z4.ch; have z4 := Z4.size
 have bk_4 := Bk.put Z4
 refine Qf (Qa (Qb (Om (Qc rfl) rfl ?_)))
 have b3_3 := b3_2.keep c3
 have b3_4 := b3_3.to c4
 refine Om (Qr ι135 ς135 rfl rfl (b3_4.all' rfl)) rfl (Om (Ql rfl) rfl (Om (Qg υ209 rfl ς135 rfl rfl rfl) rfl (Oz (Cf ς135 rfl rfl rfl rfl bk_4 (Nat.le_of_ble_eq_true rfl)) rfl ?_)))
 intro _ w5 Z5
 have c5 := Z5.ch; have z5 := Z5.size
 have bk_5 := Bk.put Z5
 refine Qf (Qa (Qe (Qb (Om (Qc rfl) rfl (Om (Ql rfl) rfl (Om (Qg υ209 rfl ς31 rfl rfl rfl) rfl (Om (Qh ι31 rfl (bk_5.cell rfl)) rfl ?_)))))))
 refine Om (Qd rfl) rfl (Qf (Qa (Qp (Qy rfl rfl (Ret.mk ?_)))))
 have row_3 := row_2.keep c3
 have row_4 := row_3.to c4
 have row_5 := row_4.to c5
 have of_4 := of3.to c4
 have of_5 := of_4.to c5
 have CH_3 := (Ch.refl (Is m) w).and (c1.trans (c2.trans c3))
 have CH_4 : Ch (Is m) w w4 := CH_3.then c4
 have CH_5 : Ch (Is m) w w5 := CH_4.then c5
 exact ⟨⟨some ⟨q3, 0, none⟩, co, co, ⟨8, d, sr, ju, co, nn, kk⟩, q3 + 1, zs3⟩, rfl, ⟨bk_5, row_5, ne, ⟨of_5, by show ¬ q3 + 1 = r; omega, by show ¬ q3 + 1 = m + 1; omega, hsm, fun _ => ⟨rfl, hz3⟩⟩⟩, rfl, hz3, CH_5⟩
theorem m_fillG (m r : Nat) (b : Bld) (N : Nat) (SA : Option Addr) (sc : Nat) (bs : ByteArray) (CA : Option Addr) (ac dn st at_ : Int) (F : Fil) (xs : List CB) (w : World) (mr : MacG w m r b N SA sc bs CA ac dn st at_ F xs) (d sr ju co nn kk : Nat) (hsm : SmS ⟨8, d, sr, ju, co, nn, kk⟩) (hn1 : 1 ≤ nn) (hco : 2 * nn ≤ co + 1) (hco2 : co ≤ 16384) :
    Calls Tryz.prog 253 #[.pointer (some ⟨m, 0, none⟩), stpV ⟨8, d, sr, ju, co, nn, kk⟩] w (Ret fun v w' => ∃ F', v = .slice F'.A F'.l F'.c ∧ MacG w' m r b N SA sc bs CA ac dn st at_ F' xs ∧ F'.l = co ∧ F'.zs.map cx = otherL nn co ∧ Ch (Is m) w w') := by
  by_cases e : F.s = ⟨8, d, sr, ju, co, nn, kk⟩
  · refine (m_fillHit m r b N SA sc bs CA ac dn st at_ F xs w mr ⟨8, d, sr, ju, co, nn, kk⟩ hsm e).mono ?_
    rintro e' w' ⟨v, rfl, rfl, c⟩
    have hv := mr.fil.val (by rw [e])
    rw [e] at hv
    exact ⟨_, rfl, F, rfl, mr.keep c, hv.1, hv.2, c.more (fun q _ hq => hq.elim)⟩
  · exact m_fillMiss m r b N SA sc bs CA ac dn st at_ F xs w mr d sr ju co nn kk hsm e hn1 hco hco2
theorem actG_fill (m r : Nat) (b : Bld) (N : Nat) (SA : Option Addr) (sc : Nat) (bs : ByteArray) (CA : Option Addr) (ac dn st at_ : Int) (F : Fil) (xs : List CB) (w : World) (mr : MacG w m r b N SA sc bs CA ac dn st at_ F xs) (hN : N ≤ 1000000) (d sr ju co nn kk i : Nat) (hd : d + i < N) (hi : i < co) (hsm : SmS ⟨8, d, sr, ju, co, nn, kk⟩) (hn1 : 1 ≤ nn) (hco : 2 * nn ≤ co + 1) (hco2 : co ≤ 16384) :
  Calls Tryz.prog 212 #[.pointer (some ⟨m, 0, none⟩), .agg #[.int .i64 8, .int .i64 d, .int .i64 sr, .int .i64 ju, .int .i64 co, .int .i64 nn, .int .i64 kk], .int .i64 i] w (Ret (fun v w' => v = .tuple #[] ∧ ∃ F ys, MacG w' m r b N SA sc bs CA ac dn st at_ F ys ∧ ys.map cx = (xs.map cx).set (d + i) (otherF nn co i) ∧ Ch (MS m r) w w')) := by
 obtain ⟨bk, row, ne, fil⟩ := id mr
 have yr := Ow.lt row; have ym := bk.lt; have fn1 := fil.n1; have fn2 := fil.n2; have fy := Ow.lt fil.ow
 refine calls_of_VC (args := [.pointer (some ⟨m, 0, none⟩), .agg #[.int .i64 8, .int .i64 d, .int .i64 sr, .int .i64 ju, .int .i64 co, .int .i64 nn, .int .i64 kk], .int .i64 i]) Tryz.func212 rfl Tryz.ntmps212 rfl (Qe (Qb (Oq (Cj rfl) rfl ?_)))
 rintro _ w1 ⟨p1, rfl, N1⟩
 have c1 := N1.ch
 have e1 := N1.p; have z1 := N1.size
 have b4 := Bk.new N1
 refine Qf (Qa (Rz 15 (.mv 0 (.mv 1 (.mv 2 (.mv 4 (.mv 5 (.mv 6 (.mv 7 (.mv 8 (.mv 9 (.mv 11 (.two 3 (.wk 10 (.wk 12 (.wk 13 (.mv 14 .nil)))) 10 (.two 3 (.wk 12 (.wk 13 (.mv 14 .nil))) 12 (.two 3 (.wk 13 (.mv 14 .nil)) 13 (.wk 3 (.mv 14 .nil))))))))))))))) (fun w1 w' => Ch (Is m) w1 w') mixed (by kernel_rfl) (fun _ _ => Ch.refl _ _) ?_))
 intro w2 D2
 have c2 := Ch.of_drew D2; have z2 := c2.size
 have bk_2 := bk.keep (c1.trans c2)
 have row_2 := row.keep (c1.trans c2)
 have b4_2 := b4.keep c2
 refine Ct (fun w' hS => Qc rfl) rfl rfl rfl rfl (Ct (fun w' hS => Ql rfl) rfl rfl rfl rfl (Ct (fun w' hS => Qg υ209 rfl ς31 rfl rfl rfl) rfl rfl rfl rfl (Ct (fun w' hS => Qg υ135 rfl ς3 rfl rfl rfl) rfl rfl rfl rfl (Ct (fun w' hS => Qh ι3 rfl ((b4_2.to hS).cell rfl)) rfl rfl rfl rfl (Ct (fun w' hS => Qc rfl) rfl rfl rfl rfl ?_)))))
 refine Ct (fun w' hS => Ce rfl rfl (by rw [IntKind.wrap_i64]; omega)) rfl rfl rfl rfl ?_
 refine Ct (fun w' hS => Qc rfl) rfl rfl rfl rfl (Ct (fun w' hS => Qr ι135 ς135 rfl rfl ((b4_2.to hS).all' rfl)) rfl rfl rfl rfl (Ct (fun w' hS => Qc rfl) rfl rfl rfl rfl (Wg ?_ ?_)))
 ·
  refine Rr (Qh ι31 rfl (bk_2.cell rfl)) rfl rfl rfl rfl (Ch.refl (Is m) w2) ?_
  have fil_2 := fil.keep (c1.trans c2)
  refine Rg (Qi Tryz.call253 rfl (m_fillG _ _ _ _ _ _ _ _ _ _ _ _ _ _ _ ⟨bk_2, row_2, ne, fil_2⟩ d sr ju co nn kk hsm hn1 hco hco2)) rfl rfl rfl rfl ?_
  rintro _ w3 ⟨F3, rfl, mg3, hl3, hz3, c3⟩
  obtain ⟨bk3, row3, -, fil3⟩ := id mg3
  have fo3 := fil3.ow; rw [hl3] at fo3
  have fm1 := fil3.n1; have fm2 := fil3.n2; have fm3 := Ow.lt fo3
  have z3 := c3.size
  have RD_3 : Ch (Is m) w2 w3 := (Ch.refl (Is m) w2).then c3
  refine ⟨RD_3, ?_⟩
  refine Rr (Cb υ31 ς33 rfl rfl (fo3.sl.ne (by omega)) (by omega) (by omega)) rfl rfl rfl rfl RD_3 (Rr (Qh ι33 rfl (fo3.sl.getC (by omega) (by omega))) rfl rfl rfl rfl RD_3 (Ct (fun w' hS => Cb υ31 ς33 rfl rfl (row_2.sl.ne (by omega)) (by omega) (by omega)) rfl rfl rfl rfl (Rj (Oz (Rl ς33 rfl rfl (by omega) row3) rfl ?_))))
  rintro _ w4 ⟨o4, c4, z4⟩
  have y4 := o4.lt
  refine Qf (Qx (Ri rfl (Ret.mk ?_)))
  have row9 := o4; rw [show ((d : Int) + (i : Int)).toNat = d + i by omega] at row9
  have bk_4 := bk3.to c4
  have fil_4 := fil3.to c4
  have CH_2 := (Ch.refl (MS m r) w).and (c1.trans c2)
  have CH_3 : Ch (MS m r) w w3 := CH_2.then c3
  have CH_4 : Ch (MS m r) w w4 := CH_3.then c4
  exact ⟨rfl, _, _, ⟨bk_4, row9, ne, fil_4⟩, (by rw [List.map_set]; show List.set _ _ (cx ((F3.zs.getD ((i : Int).toNat) (0, 0)))) = _; rw [← map_getD, hz3, Int.toNat_natCast, otherL_getD hi]), CH_4⟩
 ·
  have fil_2 := fil.keep (c1.trans c2)
  refine Rg (Qi Tryz.call253 rfl (m_fillG _ _ _ _ _ _ _ _ _ _ _ _ _ _ _ ⟨bk_2, row_2, ne, fil_2⟩ d sr ju co nn kk hsm hn1 hco hco2)) rfl rfl rfl rfl ?_
  rintro _ w5 ⟨F5, rfl, mg5, hl5, hz5, c5⟩
  obtain ⟨bk5, row5, -, fil5⟩ := id mg5
  have fo5 := fil5.ow; rw [hl5] at fo5
  have fm1 := fil5.n1; have fm2 := fil5.n2; have fm3 := Ow.lt fo5
  have z5 := c5.size
  have RD_5 : Ch (Is m) w2 w5 := (Ch.refl (Is m) w2).then c5
  refine ⟨RD_5, ?_⟩
  refine Wg ?_ ?_
  ·
   refine Rr (Qh ι31 rfl (bk5.cell rfl)) rfl rfl rfl rfl RD_5 (Rr (Cb υ31 ς33 rfl rfl (fo5.sl.ne (by omega)) (by omega) (by omega)) rfl rfl rfl rfl RD_5 (Rr (Qh ι33 rfl (fo5.sl.getC (by omega) (by omega))) rfl rfl rfl rfl RD_5 (Ct (fun w' hS => Cb υ31 ς33 rfl rfl (row_2.sl.ne (by omega)) (by omega) (by omega)) rfl rfl rfl rfl (Rj (Oz (Rl ς33 rfl rfl (by omega) row5) rfl ?_)))))
   rintro _ w6 ⟨o6, c6, z6⟩
   have y6 := o6.lt
   refine Qf (Qx (Ri rfl (Ret.mk ?_)))
   have row9 := o6; rw [show ((d : Int) + (i : Int)).toNat = d + i by omega] at row9
   have bk_6 := bk5.to c6
   have fil_6 := fil5.to c6
   have CH_2 := (Ch.refl (MS m r) w).and (c1.trans c2)
   have CH_5 : Ch (MS m r) w w5 := CH_2.then c5
   have CH_6 : Ch (MS m r) w w6 := CH_5.then c6
   exact ⟨rfl, _, _, ⟨bk_6, row9, ne, fil_6⟩, (by rw [List.map_set]; show List.set _ _ (cx ((F5.zs.getD ((i : Int).toNat) (0, 0)))) = _; rw [← map_getD, hz5, Int.toNat_natCast, otherL_getD hi]), CH_6⟩
  ·
   refine Rr (Cb υ31 ς33 rfl rfl (fo5.sl.ne (by omega)) (by omega) (by omega)) rfl rfl rfl rfl RD_5 (Wg ?_ ?_)
   ·
    refine Rr (Qh ι31 rfl (bk5.cell rfl)) rfl rfl rfl rfl RD_5 (Rr (Qh ι33 rfl (fo5.sl.getC (by omega) (by omega))) rfl rfl rfl rfl RD_5 (Ct (fun w' hS => Cb υ31 ς33 rfl rfl (row_2.sl.ne (by omega)) (by omega) (by omega)) rfl rfl rfl rfl (Rj (Oz (Rl ς33 rfl rfl (by omega) row5) rfl ?_))))
    rintro _ w7 ⟨o7, c7, z7⟩
    have y7 := o7.lt
    refine Qf (Qx (Ri rfl (Ret.mk ?_)))
    have row9 := o7; rw [show ((d : Int) + (i : Int)).toNat = d + i by omega] at row9
    have bk_7 := bk5.to c7
    have fil_7 := fil5.to c7
    have CH_2 := (Ch.refl (MS m r) w).and (c1.trans c2)
    have CH_5 : Ch (MS m r) w w5 := CH_2.then c5
    have CH_7 : Ch (MS m r) w w7 := CH_5.then c7
    exact ⟨rfl, _, _, ⟨bk_7, row9, ne, fil_7⟩, (by rw [List.map_set]; show List.set _ _ (cx ((F5.zs.getD ((i : Int).toNat) (0, 0)))) = _; rw [← map_getD, hz5, Int.toNat_natCast, otherL_getD hi]), CH_7⟩
   ·
    refine Rr (Qh ι33 rfl (fo5.sl.getC (by omega) (by omega))) rfl rfl rfl rfl RD_5 (Rr (Qh ι31 rfl (bk5.cell rfl)) rfl rfl rfl rfl RD_5 (Ct (fun w' hS => Cb υ31 ς33 rfl rfl (row_2.sl.ne (by omega)) (by omega) (by omega)) rfl rfl rfl rfl (Rj (Oz (Rl ς33 rfl rfl (by omega) row5) rfl ?_))))
    rintro _ w8 ⟨o8, c8, z8⟩
    have y8 := o8.lt
    refine Qf (Qx (Ri rfl (Ret.mk ?_)))
    have row9 := o8; rw [show ((d : Int) + (i : Int)).toNat = d + i by omega] at row9
    have bk_8 := bk5.to c8
    have fil_8 := fil5.to c8
    have CH_2 := (Ch.refl (MS m r) w).and (c1.trans c2)
    have CH_5 : Ch (MS m r) w w5 := CH_2.then c5
    have CH_8 : Ch (MS m r) w w8 := CH_5.then c8
    exact ⟨rfl, _, _, ⟨bk_8, row9, ne, fil_8⟩, (by rw [List.map_set]; show List.set _ _ (cx ((F5.zs.getD ((i : Int).toNat) (0, 0)))) = _; rw [← map_getD, hz5, Int.toNat_natCast, otherL_getD hi]), CH_8⟩
def tblG (op : Int) : FuncId := if op = 1 then 205 else if op = 2 then 206 else if op = 3 then 207 else if op = 4 then 208 else if op = 5 then 209 else if op = 6 then 210 else if op = 7 then 211 else if op = 8 then 212 else if op = 9 then 213 else if op = 10 then 214 else 215
theorem call_tblG {op : Int} (h : 1 ≤ op ∧ op ≤ 11) (args : Array Value) (w : World) : (callFunc (tblG op) args).run Tryz.prog w = .ok (.enter (tblG op) args) w := by
  have : op = 1 ∨ op = 2 ∨ op = 3 ∨ op = 4 ∨ op = 5 ∨ op = 6 ∨ op = 7 ∨ op = 8 ∨ op = 9 ∨ op = 10 ∨ op = 11 := by omega
  rcases this with rfl | rfl | rfl | rfl | rfl | rfl | rfl | rfl | rfl | rfl | rfl
  · exact Tryz.call205 args w
  · exact Tryz.call206 args w
  · exact Tryz.call207 args w
  · exact Tryz.call208 args w
  · exact Tryz.call209 args w
  · exact Tryz.call210 args w
  · exact Tryz.call211 args w
  · exact Tryz.call212 args w
  · exact Tryz.call213 args w
  · exact Tryz.call214 args w
  · exact Tryz.call215 args w
theorem actG_ok (m r : Nat) (b : Bld) (N : Nat) (SA : Option Addr) (sc : Nat) (bs : ByteArray) (CA : Option Addr) (ac dn st at_ : Int) (F : Fil) (xs : List CB) (w : World) (mr : MacG w m r b N SA sc bs CA ac dn st at_ F xs) (hN : N ≤ 1000000) (s : Stp) (i : Nat) (h : StepG s N) (hi : (i : Int) < s.count) :
    Calls Tryz.prog (tblG s.op) #[.pointer (some ⟨m, 0, none⟩), stpV s, .int .i64 i] w (Ret fun v w' => v = .tuple #[] ∧ ∃ F ys, MacG w' m r b N SA sc bs CA ac dn st at_ F ys ∧ ys.map cx = actG s i (xs.map cx) ∧ Ch (MS m r) w w') := by
  obtain ⟨op, dst, src, jump, count, n, k⟩ := s
  obtain ⟨hsm, h1, h5⟩ := h
  have hs := hsm
  obtain ⟨s1, s2, s3, s4, s5, s6, s7⟩ := hs
  simp only at s1 s2 s3 s4 s5 s6 s7 h1 h5 hi
  obtain ⟨d, rfl⟩ := nat_of s2.1
  obtain ⟨u, rfl⟩ := nat_of s3.1
  obtain ⟨v, rfl⟩ := nat_of s4.1
  obtain ⟨c, rfl⟩ := nat_of s5.1
  obtain ⟨nn, rfl⟩ := nat_of s6.1
  obtain ⟨kk, rfl⟩ := nat_of s7.1
  have hm : ∀ a e : Nat, a ≤ e → a * v ≤ e * v := fun a e h => Nat.mul_le_mul_right v h
  have ec : ((c : Int) - 1) * (v : Int) = (((c - 1) * v : Nat) : Int) := by push_cast [show 1 ≤ c by omega]; rfl
  rcases h5 with ⟨rfl, h6, h7⟩ | ⟨rfl, h6, h7⟩ | ⟨rfl, h6⟩ | ⟨rfl, h6, h7, h8, h9, h10⟩ | ⟨rfl, h6, h7, h8⟩ | ⟨rfl, h6, h7, h8, h9, h10, h11⟩ | ⟨rfl, h6, h7, h8⟩ | ⟨rfl, h6, h7, h8, h9⟩ | ⟨rfl, h6, h7⟩ | ⟨rfl, h6⟩ | ⟨rfl, h6⟩
  · rw [ec] at h7
    have := hm i (c - 1) (by omega)
    exact actG_gather m r b N SA sc bs CA ac dn st at_ F xs w mr hN 1 c nn kk d u v i (by omega) (by omega)
  · rw [ec] at h7
    have := hm i (c - 1) (by omega)
    exact actG_scatter m r b N SA sc bs CA ac dn st at_ F xs w mr hN 2 c nn kk d u v i (by omega) (by omega)
  · exact actG_zero m r b N SA sc bs CA ac dn st at_ F xs w mr hN 3 c nn kk d u v i (by omega)
  · exact actG_twist m r b N SA sc bs CA ac dn st at_ F xs w mr hN 4 c d u v nn kk i (by omega) (by omega) (by omega) (by omega) (by omega)
  · have e : ((nn : Int) - 1) * (v : Int) = (((nn - 1) * v : Nat) : Int) := by push_cast [show 1 ≤ nn by omega]; rfl
    rw [e] at h8
    exact actG_fly m r b N SA sc bs CA ac dn st at_ F xs w mr hN 5 u c kk d v nn i ⟨by omega, by omega⟩ (fun q hq => by have := hm q (nn - 1) (by omega); omega)
  · have e : ((nn : Int) - 1) * (v : Int) = (((nn - 1) * v : Nat) : Int) := by push_cast [show 1 ≤ nn by omega]; rfl
    rw [e] at h11
    exact actG_direct m r b N SA sc bs CA ac dn st at_ F xs w mr hN 6 c kk d u v nn i (by omega) (by omega) (by omega) (by omega) (by omega) (fun j hj => by have := hm j (nn - 1) (by omega); omega) (by omega)
  · exact actG_chirp m r b N SA sc bs CA ac dn st at_ F xs w mr hN 7 c kk d u v nn i (by omega) (by omega) (by omega) (by omega)
  · exact actG_fill m r b N SA sc bs CA ac dn st at_ F xs w mr hN d u v c nn kk i (by omega) (by omega) hsm (by omega) (by omega) (by omega)
  · exact actG_times m r b N SA sc bs CA ac dn st at_ F xs w mr hN 9 c nn kk d u v i (by omega) (by omega)
  · exact actG_conj m r b N SA sc bs CA ac dn st at_ F xs w mr hN 10 c nn kk d u v i (by omega)
  · exact actG_over m r b N SA sc bs CA ac dn st at_ F xs w mr hN 11 c nn kk d u v i (by omega)
end Go.Tm
