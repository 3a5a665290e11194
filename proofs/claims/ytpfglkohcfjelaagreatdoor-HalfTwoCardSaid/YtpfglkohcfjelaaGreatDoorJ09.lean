/- Lemmas of this claim, joined by program. Walks of functions: butterflies, roots of unity, sums. Arrays of floats in an own block; roots of unity in plain Lean: series, eighths of a turn, pairs. Rules for comparisons whose outcome is known; rows of whole numbers. Walks of functions: roots of unity in general. The machine in general, in plain Lean: all operations; roots as floats. Walks of functions: butterflies of 3 and 5, sums by any roots, chirps, the other list. Conditions: each lemma names its own. -/
import Derived.Test.YtpfglkohcfjelaaGreatDoorJ08
set_option linter.all false
namespace Go.Tm
set_option maxRecDepth 100000
open Go.RowKit Go.Proofs Go.Proofs.Tryz
structure AtR (S : Nat → Prop) (w : World) (p5 p6 p7 : Nat) (A : Option Addr) (l c : Nat) (xs : List CB) (u v : Nat) : Prop where
  b5 : Bk w p5 #[.slice A l c] 31
  b6 : Bk w p6 #[.int .i64 u] 3
  b7 : Bk w p7 #[.int .i64 v] 3
  sl : SlR S w A l 1 (xs.map cxV)
theorem AtR.keep {S : Nat → Prop} {w w' : World} {p5 p6 p7 : Nat} {A : Option Addr} {l c : Nat} {xs : List CB} {u v : Nat} (h : AtR S w p5 p6 p7 A l c xs u v) (m : Ch No w w') : AtR S w' p5 p6 p7 A l c xs u v := ⟨h.b5.keep m, h.b6.keep m, h.b7.keep m, h.sl.keep m⟩
abbrev XX (xs : List CB) (u v : Nat) : Nat → Cx := fun i => cx (xs.getD (u + i * v) (0, 0))
theorem build286w40 {ps : List (Nat × Value)} {cs : Array Value} (h : Instr.fill (fun i => some (i * 1, 1)) #[.complex .f64 0 0, .complex .f64 0 0] ps = some cs) (w : World) : (Instr.build 286 ps.toArray).run prog w = .ok (.agg cs) w := by
 simp [Instr.build, runUnderlying286, ζ286, ς33, Value.cells] at h ⊢
 simp [h]
theorem build290w40 {ps : List (Nat × Value)} {cs : Array Value} (h : Instr.fill (fun i => some (i * 1, 1)) #[.complex .f64 0 0, .complex .f64 0 0, .complex .f64 0 0, .complex .f64 0 0] ps = some cs) (w : World) : (Instr.build 290 ps.toArray).run prog w = .ok (.agg cs) w := by
 simp [Instr.build, runUnderlying290, ζ290, ς33, Value.cells] at h ⊢
 simp [h]
theorem bld286_0_1w40 {v0 v1 : Value} (h : [v0, v1].all Value.oneCell' = true) : BLD prog 286 [(0, v0), (1, v1)] #[v0, v1] := build286w40 (fill1 _ _ _ h rfl)
theorem bld290_0_1_2_3w40 {v0 v1 v2 v3 : Value} (h : [v0, v1, v2, v3].all Value.oneCell' = true) : BLD prog 290 [(0, v0), (1, v1), (2, v2), (3, v3)] #[v0, v1, v2, v3] := build290w40 (fill1 _ _ _ h rfl)
theorem fly_plus (a b c d : Nat) (w : World) :
  Calls prog 296 #[.complex .f64 a b, .complex .f64 c d] w (Ret (fun v w' => ∃ p q, v = .complex .f64 p q ∧ cx (p, q) = plusC (cx (a, b)) (cx (c, d)) ∧ Ch No w w')) := by
 refine Ku func296 O ntmps296 O (Kb (Ww O O (Wy ?_)))
 refine Wu O O (Om (Rh O) O (Wu O O (Om (Rh O) O (Oq (Cw (.inl O) O O) O ?_))))
 rintro _ w1 ⟨r1, rfl, f1, c1⟩
 have z1 := c1.size
 refine Wu O O (Om (Ri O) O (Wu O O (Om (Ri O) O (Oq (Cw (.inl O) O O) O ?_))))
 rintro _ w2 ⟨r2, rfl, f2, c2⟩
 have z2 := c2.size
 refine Om (Rf O O) O (Ww O O (Ka (Qp (Qx O O (Kx ?_)))))
 have CH_2 := (c1.trans c2)
 exact ⟨_, _, O, (by show (cn _, cn _) = _; rw [f1, f2]; rfl), CH_2⟩
theorem fly_less (a b c d : Nat) (w : World) :
  Calls prog 297 #[.complex .f64 a b, .complex .f64 c d] w (Ret (fun v w' => ∃ p q, v = .complex .f64 p q ∧ cx (p, q) = lessC (cx (a, b)) (cx (c, d)) ∧ Ch No w w')) := by
 refine Ku func297 O ntmps297 O (Kb (Ww O O (Wy ?_)))
 refine Wu O O (Om (Rh O) O (Wu O O (Om (Rh O) O (Oq (Cw (.inr (.inl O)) O O) O ?_))))
 rintro _ w1 ⟨r1, rfl, f1, c1⟩
 have z1 := c1.size
 refine Wu O O (Om (Ri O) O (Wu O O (Om (Ri O) O (Oq (Cw (.inr (.inl O)) O O) O ?_))))
 rintro _ w2 ⟨r2, rfl, f2, c2⟩
 have z2 := c2.size
 refine Om (Rf O O) O (Ww O O (Ka (Qp (Qx O O (Kx ?_)))))
 have CH_2 := (c1.trans c2)
 exact ⟨_, _, O, (by show (cn _, cn _) = _; rw [f1, f2]; rfl), CH_2⟩
theorem cplx_Mul (a b c d : Nat) (w : World) :
  Calls prog 48 #[.complex .f64 a b, .complex .f64 c d] w (Ret (fun v w' => ∃ p q, v = .complex .f64 p q ∧ cx (p, q) = mulC (cx (a, b)) (cx (c, d)) ∧ Ch No w w')) := by
 refine Ku func48 O ntmps48 O (Kb (Ww O O (Wy ?_)))
 refine Wu O O (Om (Rh O) O (Wu O O (Om (Ri O) O (Wu O O (Om (Rh O) O (Wu O O (Om (Ri O) O ?_)))))))
 refine Ww O O (Ww O O (Ww O O (Ww O O (Wy ?_))))
 refine Wu O O (Wu O O (Oq (Cw (.inr (.inr (.inl O))) O O) O ?_))
 rintro _ w1 ⟨r1, rfl, f1, c1⟩
 have z1 := c1.size
 refine Wu O O (Wu O O (Oq (Cw (.inr (.inr (.inl O))) O O) O ?_))
 rintro _ w2 ⟨r2, rfl, f2, c2⟩
 have z2 := c2.size
 refine Oq (Cw (.inr (.inl O)) O O) O ?_
 rintro _ w3 ⟨r3, rfl, f3, c3⟩
 have z3 := c3.size
 refine Wu O O (Wu O O (Oq (Cw (.inr (.inr (.inl O))) O O) O ?_))
 rintro _ w4 ⟨r4, rfl, f4, c4⟩
 have z4 := c4.size
 refine Wu O O (Wu O O (Oq (Cw (.inr (.inr (.inl O))) O O) O ?_))
 rintro _ w5 ⟨r5, rfl, f5, c5⟩
 have z5 := c5.size
 refine Oq (Cw (.inl O) O O) O ?_
 rintro _ w6 ⟨r6, rfl, f6, c6⟩
 have z6 := c6.size
 refine Om (Rf O O) O (Ww O O (Ka (Qp (Qx O O (Kx ?_)))))
 have CH_6 := (c1.trans (c2.trans (c3.trans (c4.trans (c5.trans c6)))))
 exact ⟨_, _, O, (by show (cn _, cn _) = _; rw [f3, f6, f1, f2, f4, f5]; rfl), CH_6⟩
theorem cplx_Conj (a b : Nat) (w : World) :
  Calls prog 78 #[.complex .f64 a b] w (Ret (fun v w' => ∃ p q, v = .complex .f64 p q ∧ cx (p, q) = conjC (cx (a, b)) ∧ Ch No w w')) := by
 refine Ku func78 O ntmps78 O (Kb (Ww O O (Wy ?_)))
 refine Wu O O (Om (Rh O) O (Wu O O (Om (Ri O) O (Om (Wf O) O (Om (Rf O O) O (Ww O O (Qf ?_)))))))
 refine Qa (Qp (Qx O O (Kx ?_)))
 exact ⟨_, _, O, (by show (cn _, cn _) = _; rw [cn_neg]; rfl), (Ch.refl (No) w)⟩
theorem cplx_TimesI (a b : Nat) (w : World) :
  Calls prog 122 #[.complex .f64 a b] w (Ret (fun v w' => ∃ p q, v = .complex .f64 p q ∧ cx (p, q) = timesI (cx (a, b)) ∧ Ch No w w')) := by
 refine Ku func122 O ntmps122 O (Kb (Ww O O (Wy ?_)))
 refine Wu O O (Om (Ri O) O (Om (Wf O) O (Wu O O (Om (Rh O) O (Om (Rf O O) O (Ww O O (Qf ?_)))))))
 refine Qa (Qp (Qx O O (Kx ?_)))
 exact ⟨_, _, O, (by show (cn _, cn _) = _; rw [cn_neg]; rfl), (Ch.refl (No) w)⟩
theorem cplx_MinusI (a b : Nat) (w : World) :
  Calls prog 80 #[.complex .f64 a b] w (Ret (fun v w' => ∃ p q, v = .complex .f64 p q ∧ cx (p, q) = minusI (cx (a, b)) ∧ Ch No w w')) := by
 refine Ku func80 O ntmps80 O (Kb (Ww O O (Wy ?_)))
 refine Wu O O (Om (Ri O) O (Wu O O (Om (Rh O) O (Om (Wf O) O (Om (Rf O O) O (Ww O O (Qf ?_)))))))
 refine Qa (Qp (Qx O O (Kx ?_)))
 exact ⟨_, _, O, (by show (cn _, cn _) = _; rw [cn_neg]; rfl), (Ch.refl (No) w)⟩
theorem cplx_Over (a b : Nat) (m : Int) (w : World) :
  Calls prog 136 #[.complex .f64 a b, Kg m] w (Ret (fun v w' => ∃ p q, v = .complex .f64 p q ∧ cx (p, q) = overC (cx (a, b)) m ∧ Ch No w w')) := by
 refine Ku func136 O ntmps136 O (Kb (Ww O O (Wy ?_)))
 refine Wu O O (Om (Wb υ3 υ32 O) O (Ww O O (Wy (Wu O O ?_))))
 refine Om (Rh O) O (Wu O O (Oq (Cw (.inr (.inr (.inr O))) O O) O ?_))
 rintro _ w1 ⟨r1, rfl, f1, c1⟩
 have z1 := c1.size
 refine Wu O O (Om (Ri O) O (Wu O O (Oq (Cw (.inr (.inr (.inr O))) O O) O ?_)))
 rintro _ w2 ⟨r2, rfl, f2, c2⟩
 have z2 := c2.size
 refine Om (Rf O O) O (Ww O O (Ka (Qp (Qx O O (Kx ?_)))))
 have CH_2 := (c1.trans c2)
 exact ⟨_, _, O, (by show (cn _, cn _) = _; rw [f1, f2]; rfl), CH_2⟩
theorem fly_Two (x y : CB) (w : World) :
  Calls prog 277 #[.agg #[.complex .f64 x.1 x.2, .complex .f64 y.1 y.2]] w (Ret (fun v w' => ∃ a b : CB, v = .agg #[cxV a, cxV b] ∧ [cx a, cx b] = flyC [cx x, cx y] ∧ Ch No w w')) := by
 refine Ku func277 O ntmps277 O (Kb (Km (Cp O) O ?_))
 intro p1 w1 b1 c1 e1 z1
 refine Km (Ck ζ286) O ?_
 intro p2 w2 b2 c2 e2 z2
 refine Wz (Kj 11 [0, 2, 4, 6, 10, 12, 14, 16, 9, 19, 20] (No) ?_)
 intro w3 c3 z3
 have b1_3 := b1.keep (c2.trans c3)
 have b2_3 := b2.keep c3
 refine Ws (Cu (o' := 0) υ286 ς33 O O (by decide) (by decide) O) O (Wt (fun hS => Qg ι33 O ((b1_3.keep hS).cell O)) O (Ws (Cu (o' := 1) υ286 ς33 O O (by decide) (by decide) O) O (Wt (fun hS => Qg ι33 O ((b1_3.keep hS).cell O)) O (Ws (Cu (o' := 0) υ286 ς33 O O (by decide) (by decide) O) O (Wt (fun hS => Qg ι33 O ((b1_3.keep hS).cell O)) O (Ws (Cu (o' := 1) υ286 ς33 O O (by decide) (by decide) O) O (Wt (fun hS => Qg ι33 O ((b1_3.keep hS).cell O)) O ?_)))))))
 refine Hq (Qi κ296 O (fly_plus _ _ _ _ _)) O ?_
 rintro _ w4 ⟨p4, q4, rfl, F4, c4⟩
 have z4 := c4.size
 have RD_4 := (Ch.refl (No) w3).and c4
 refine ⟨RD_4, ?_⟩
 refine Hq (Qi κ297 O (fly_less _ _ _ _ _)) O ?_
 rintro _ w5 ⟨p5, q5, rfl, F5, c5⟩
 have z5 := c5.size
 have RD_5 := RD_4.and c5
 refine ⟨RD_5, ?_⟩
 refine Ws (Ct O (bld286_0_1w40 O)) O (Cj ?_)
 have b2_5 := b2_3.keep (c4.trans c5)
 refine Ks (Cl ς286 O O O O b2_5) O ?_
 intro w6 c6 z6 b2_6
 refine Qf (Ca (Qa (Qp (Rl O O isAgg286 ς286 O (b2_6.all' O) (Kx ?_)))))
 have cc_0_6 : Ch No w w6 := (Ch.then (E := No) ((((c1.and c2).and c3).and c4).and c5) c6)
 have CH_6 := cc_0_6
 exact ⟨(_, _), (_, _), O, (by rw [F4, F5]; rfl), CH_6⟩
theorem fly_Four (x y u v : CB) (w : World) :
  Calls prog 279 #[.agg #[.complex .f64 x.1 x.2, .complex .f64 y.1 y.2, .complex .f64 u.1 u.2, .complex .f64 v.1 v.2]] w (Ret (fun r w' => ∃ a b c d : CB, r = .agg #[cxV a, cxV b, cxV c, cxV d] ∧ [cx a, cx b, cx c, cx d] = flyC [cx x, cx y, cx u, cx v] ∧ Ch No w w')) := by
 refine Ku func279 O ntmps279 O (Kb (Km (Cp O) O ?_))
 intro p1 w1 b1 c1 e1 z1
 refine Km (Ck ζ290) O ?_
 intro p2 w2 b2 c2 e2 z2
 refine Wz (Kj 11 [0, 2, 4, 6, 10, 12, 14, 16, 9, 19, 20] (No) ?_)
 intro w3 c3 z3
 have b1_3 := b1.keep (c2.trans c3)
 have b2_3 := b2.keep c3
 refine Ws (Cu (o' := 0) υ290 ς33 O O (by decide) (by decide) O) O (Wt (fun hS => Qg ι33 O ((b1_3.keep hS).cell O)) O (Ws (Cu (o' := 2) υ290 ς33 O O (by decide) (by decide) O) O (Wt (fun hS => Qg ι33 O ((b1_3.keep hS).cell O)) O (Ws (Cu (o' := 0) υ290 ς33 O O (by decide) (by decide) O) O (Wt (fun hS => Qg ι33 O ((b1_3.keep hS).cell O)) O (Ws (Cu (o' := 2) υ290 ς33 O O (by decide) (by decide) O) O (Wt (fun hS => Qg ι33 O ((b1_3.keep hS).cell O)) O ?_)))))))
 refine Hq (Qi κ296 O (fly_plus _ _ _ _ _)) O ?_
 rintro _ w4 ⟨p4, q4, rfl, F4, c4⟩
 have z4 := c4.size
 have RD_4 := (Ch.refl (No) w3).and c4
 refine ⟨RD_4, ?_⟩
 refine Hq (Qi κ297 O (fly_less _ _ _ _ _)) O ?_
 rintro _ w5 ⟨p5, q5, rfl, F5, c5⟩
 have z5 := c5.size
 have RD_5 := RD_4.and c5
 refine ⟨RD_5, ?_⟩
 refine Wx O O (Cj (Ww O O (Qf (Ca (Qa (Qe (Kj 11 [0, 2, 4, 6, 10, 12, 14, 16, 9, 19, 20] (No) ?_)))))))
 intro w6 c6 z6
 have b1_6 := b1_3.keep (c4.trans (c5.trans c6))
 have b2_6 := b2_3.keep (c4.trans (c5.trans c6))
 refine Ws (Cu (o' := 1) υ290 ς33 O O (by decide) (by decide) O) O (Wt (fun hS => Qg ι33 O ((b1_6.keep hS).cell O)) O (Ws (Cu (o' := 3) υ290 ς33 O O (by decide) (by decide) O) O (Wt (fun hS => Qg ι33 O ((b1_6.keep hS).cell O)) O (Ws (Cu (o' := 1) υ290 ς33 O O (by decide) (by decide) O) O (Wt (fun hS => Qg ι33 O ((b1_6.keep hS).cell O)) O (Ws (Cu (o' := 3) υ290 ς33 O O (by decide) (by decide) O) O (Wt (fun hS => Qg ι33 O ((b1_6.keep hS).cell O)) O ?_)))))))
 refine Hq (Qi κ296 O (fly_plus _ _ _ _ _)) O ?_
 rintro _ w7 ⟨p7, q7, rfl, F7, c7⟩
 have z7 := c7.size
 have RD_7 := (Ch.refl (No) w6).and c7
 refine ⟨RD_7, ?_⟩
 refine Hq (Qi κ297 O (fly_less _ _ _ _ _)) O ?_
 rintro _ w8 ⟨p8, q8, rfl, F8, c8⟩
 have z8 := c8.size
 have RD_8 := RD_7.and c8
 refine ⟨RD_8, ?_⟩
 refine Wx O O (Cj (Ww O O (Qf (Ca (Qa (Kb ?_))))))
 refine Wu O O (Wu O O (Oq (Qi κ296 O (fly_plus _ _ _ _ _)) O ?_))
 rintro _ w9 ⟨p9, q9, rfl, F9, c9⟩
 have z9 := c9.size
 refine Wu O O (Wu O O (Oq (Qi κ80 O (cplx_MinusI _ _ _)) O ?_))
 rintro _ w10 ⟨p10, q10, rfl, F10, c10⟩
 have z10 := c10.size
 refine Oq (Qi κ296 O (fly_plus _ _ _ _ _)) O ?_
 rintro _ w11 ⟨p11, q11, rfl, F11, c11⟩
 have z11 := c11.size
 refine Wu O O (Wu O O (Oq (Qi κ297 O (fly_less _ _ _ _ _)) O ?_))
 rintro _ w12 ⟨p12, q12, rfl, F12, c12⟩
 have z12 := c12.size
 refine Wu O O (Wu O O (Oq (Qi κ122 O (cplx_TimesI _ _ _)) O ?_))
 rintro _ w13 ⟨p13, q13, rfl, F13, c13⟩
 have z13 := c13.size
 refine Oq (Qi κ296 O (fly_plus _ _ _ _ _)) O ?_
 rintro _ w14 ⟨p14, q14, rfl, F14, c14⟩
 have z14 := c14.size
 refine Om (Ct O (bld290_0_1_2_3w40 O)) O ?_
 have b2_14 := b2_6.keep (c7.trans (c8.trans (c9.trans (c10.trans (c11.trans (c12.trans (c13.trans c14)))))))
 refine Ks (Cl ς290 O O O O b2_14) O ?_
 intro w15 c15 z15 b2_15
 refine Ka (Qp (Rl O O isAgg290 ς290 O (b2_15.all' O) (Kx ?_)))
 have cc_0_15 : Ch No w w15 := (Ch.then (E := No) (((((((((((((c1.and c2).and c3).and c4).and c5).and c6).and c7).and c8).and c9).and c10).and c11).and c12).and c13).and c14) c15)
 have CH_15 := cc_0_15
 exact ⟨(_, _), (_, _), (_, _), (_, _), O, (by rw [F9, F11, F10, F12, F14, F13, F4, F5, F7, F8]; rfl), CH_15⟩
theorem fly_Fly2 (p c : Nat) (x y : CB) (S : Nat → Prop) (w : World) (sl : SlR S w (Ki p) 2 1 ([x, y].map cxV)) :
  Calls prog 250 #[.slice (Ki p) 2 c] w (Ret (fun r w' => ∃ (q : Nat) (zs : List CB), r = .tuple #[.slice (Ki q) 2 2, .nilIface] ∧ zs.map cx = flyC ([x, y].map cx) ∧ SlR (Is q) w' (Ki q) 2 1 (zs.map cxV) ∧ w.heap.size ≤ q ∧ Ch No w w')) := by
 refine Ku func250 O ntmps250 O (Kb (Ww O O (Ww O O (Wz ?_))))
 refine Kb (Wu O O (Om (Cs υ31 O) O (Ka (Qt (Qe ?_)))))
 refine Qb (Om (Cg O O) O (Ww O O (Ka (Qj O (fun hc1 => ?_) (fun hc1 => ?_)))))
 ·
  refine Kb (Wu O O (Om (Rn.toArr υ286 O (by omega)) O (Om (Qz isAgg286 ς286 O O (sl.cells _ O)) O (Oq (Qi call277 O (fly_Two _ _ _)) O ?_))))
  rintro _ w1 ⟨u1, v1, rfl, F1, c1⟩
  have z1 := c1.size
  refine Km (Ck ζ286) O ?_
  intro p2 w2 b4 c2 e2 z2
  refine Ks (Cl ς286 O O O O b4) O ?_
  intro w3 c3 z3 b4_3
  refine Wy (Om (Rn.sliceAll υ286 ς33 O (by decide)) O (Ww O O (Ww O O (Qf ?_))))
  refine Qa (Qp (Cb (Qw (Ra O O O (Kx ?_)))))
  have cc_0_3 : Ch No w w3 := (Ch.then (E := No) (c1.and c2) c3)
  have CH_3 := cc_0_3
  have zz := CH_3.size
  exact ⟨_, [u1, v1], O, by rw [show List.map cx [u1, v1] = [cx u1, cx v1] from O, F1]; rfl, ⟨O, fun _ => ⟨_, O⟩, fun ad h => (by injection h with h; subst h; exact (b4_3).all' O), fun ad h => (by injection h with h; subst h; rfl)⟩, by omega, CH_3⟩
 omega
theorem fly_Fly4 (p c : Nat) (x y u v : CB) (S : Nat → Prop) (w : World) (sl : SlR S w (Ki p) 4 1 ([x, y, u, v].map cxV)) :
  Calls prog 250 #[.slice (Ki p) 4 c] w (Ret (fun r w' => ∃ (q : Nat) (zs : List CB), r = .tuple #[.slice (Ki q) 4 4, .nilIface] ∧ zs.map cx = flyC ([x, y, u, v].map cx) ∧ SlR (Is q) w' (Ki q) 4 1 (zs.map cxV) ∧ w.heap.size ≤ q ∧ Ch No w w')) := by
 refine Ku func250 O ntmps250 O (Kb (Ww O O (Ww O O (Wz ?_))))
 refine Kb (Wu O O (Om (Cs υ31 O) O (Ka (Qt (Qe ?_)))))
 refine Qb (Om (Cg O O) O (Ww O O (Ka (Qj O (fun hc1 => ?_) (fun hc1 => ?_)))))
 · omega
 refine Kb (Om (Cg O O) O (Ww O O (Ka (Qj O (fun hc2 => ?_) (fun hc2 => ?_)))))
 · omega
 refine Kb (Om (Cg O O) O (Ww O O (Ka (Qj O (fun hc3 => ?_) (fun hc3 => ?_)))))
 ·
  refine Kb (Wu O O (Om (Rn.toArr υ290 O (by omega)) O (Om (Qz isAgg290 ς290 O O (sl.cells _ O)) O (Oq (Qi call279 O (fly_Four _ _ _ _ _)) O ?_))))
  rintro _ w1 ⟨u1, v1, x1, y1, rfl, F1, c1⟩
  have z1 := c1.size
  refine Km (Ck ζ290) O ?_
  intro p2 w2 b6 c2 e2 z2
  refine Ks (Cl ς290 O O O O b6) O ?_
  intro w3 c3 z3 b6_3
  refine Wy (Om (Rn.sliceAll υ290 ς33 O (by decide)) O (Ww O O (Ww O O (Qf ?_))))
  refine Qa (Qp (Cb (Qw (Ra O O O (Kx ?_)))))
  have cc_0_3 : Ch No w w3 := (Ch.then (E := No) (c1.and c2) c3)
  have CH_3 := cc_0_3
  have zz := CH_3.size
  exact ⟨_, [u1, v1, x1, y1], O, by rw [show List.map cx [u1, v1, x1, y1] = [cx u1, cx v1, cx x1, cx y1] from O, F1]; rfl, ⟨O, fun _ => ⟨_, O⟩, fun ad h => (by injection h with h; subst h; exact (b6_3).all' O), fun ad h => (by injection h with h; subst h; rfl)⟩, by omega, CH_3⟩
 omega
theorem roots_plus (b : Nat) (w : World) :
  Calls prog 92 #[.float .f64 b] w (Ret (fun v w' => v = .float .f64 (pzB b) ∧ w = w')) := by
 refine Ku func92 O ntmps92 O (Kb (Ww O O (Wz (Qe ?_))))
 refine Qb (Wu O O (Om (Rn.feql O O) O (Ka (Cq O (fun hc1 => ?_) (fun hc1 => ?_)))))
 ·
  try simp only [bX] at hc1
  refine Kb (Ww O O (Ka (Qp (Qw (Qx O O ?_)))))
  refine Kx ?_
  exact ⟨by unfold pzB; rw [if_pos hc1], O⟩
 try simp only [bX] at hc1
 refine Qn (Qa (Kb (Wu O O (Ww O O (Ka ?_)))))
 refine Qp (Qx O O (Kx ?_))
 exact ⟨by unfold pzB; rw [if_neg (by simpa using hc1)], O⟩
theorem direct_At1 (S : Nat → Prop) (w : World) (p5 p6 p7 : Nat) (A : Option Addr) (l c : Nat) (xs : List CB) (u v : Nat) (hl : l ≤ 1000000) (hu : u ≤ 1000000) (at_ : AtR S w p5 p6 p7 A l c xs u v) (j : Nat) (hj : j ≤ 64) (hb : u + j * v < l) :
  Calls prog 283 #[Kg j, Kh p5, Kh p6, Kh p7] w (Ret (fun r w' => r = .complex .f64 (xs.getD (u + j * v) (0, 0)).1 (xs.getD (u + j * v) (0, 0)).2 ∧ w = w')) := by
 obtain ⟨b5, b6, b7, sl⟩ := at_
 have e0 : ((j * v : Nat) : Int) = (j : Int) * (v : Int) := by push_cast; rfl
 refine Ku func283 O ntmps283 O (Kb (Ww O O (Wy ?_)))
 refine Om (Qg ι31 O (b5.cell O)) O (Om (Qg ι3 O (b6.cell O)) O (Wu O O (Om (Qg ι3 O (b7.cell O)) O ?_)))
 refine Om (Cy O O) O ?_
 refine Om (Cd O O) O ?_
 refine Om (Qs υ31 ς33 O O (sl.ne (by omega))) O (Om (Qg ι33 O (sl.getC (by omega) (by omega))) O (Ww O O (Ka (Qp (Qx O O (Kx ?_))))))
 exact ⟨by rw [show ((u : Int) + (j : Int) * (v : Int)).toNat = u + j * v by omega], O⟩
end Go.Tm
namespace Go.Tm
abbrev flV (b : Nat) : Value := .float .f64 b
abbrev arrF (xs : List Nat) : Array Value := (xs.map flV).toArray
section
variable {P : Program} {n : Fr} {k : K} {w : World} {d : Option Tmp} {ty : TypeId} {pos : String} {aft : Array Edge} {g : Option (Nat × Bool)}
theorem arrF_get {xs : List Nat} {i : Nat} (h : i < xs.length) : (arrF xs)[i]? = some (flV (xs.getD i 0)) := by
 simp [arrF, List.getD, List.getElem?_eq_getElem h]
theorem Wk.putArr {t : TypeId} {x y : Operand} {p i : Nat} {xs : List Nat} {te : TypeId} {a : Nat} (hz : ∀ w, (sizeOf t).run P w = .ok 1 w) (hx : ev k x = some (.pointer (some ⟨p, i, none⟩))) (hy : ev k y = some (.float .f64 a)) (hb : Bk w p (arrF xs) te) (hi : i < xs.length) :
  Wk P n k w { dst := none, op := .store t x y, type := ty, pos := pos, after := aft, guard := g } (fun _ w' => Bk w' p (arrF (xs.set i a)) te ∧ Ch (Is p) w w' ∧ w'.heap.size = w.heap.size) :=
 (Rk hz hx hy rfl rfl hb (arrF_get hi)).mono fun _ _ h => by
  refine ⟨⟨?_⟩, h.ch, h.size⟩
  rw [h.same]
  have e : (arrF xs).setIfInBounds i (.float .f64 a) = arrF (xs.set i a) := by simp [arrF, List.map_set]
  rw [e]
theorem Bk.getF {p i : Nat} {xs : List Nat} {te : TypeId} (h : Bk w p (arrF xs) te) (hi : i < xs.length := by omega) : w.cell? ⟨p, i, none⟩ = some (.float .f64 (xs.getD i 0)) := h.cell (arrF_get hi)
end
abbrev FR (e : TypeId) (w : World) (r : Nat) (A : Option Addr) (l c : Nat) (xs : List Nat) : Prop := Ow w r e 1 A l c (xs.map flV)
theorem SlR.getF {S : Nat → Prop} {w : World} {A : Option Addr} {l : Nat} {xs : List Nat} (h : SlR S w A l 1 (xs.map flV)) {i : Int} (h0 : 0 ≤ i) (h1 : i < l := by omega) : w.cell? ((sAddr A).add (i.toNat * 1)) = some (.float .f64 (xs.getD i.toNat 0)) := SlR.get (f := flV) h 0 h0 h1
section
variable {P : Program} {n : Fr} {k : K} {w : World} {d : Option Tmp} {ty : TypeId} {pos : String} {aft : Array Edge} {g : Option (Nat × Bool)}
theorem Wk.cbin {op : BinOp} {t t' : TypeId} {x y : Operand} {a b c e : Nat} (hop : op = .add ∨ op = .sub) (hx : ev k x = some (.complex .f64 a b)) (hy : ev k y = some (.complex .f64 c e)) :
  Wk P n k w { dst := d, op := .binOp op t x y t', type := ty, pos := pos, after := aft, guard := g } (fun v w' => ∃ p q, v = .complex .f64 p q ∧ cx (p, q) = (fop op (cn a) (cn c), fop op (cn b) (cn e)) ∧ Ch No w w') :=
 Rv fun ac ha => by
  have hop4 : op = .add ∨ op = .sub ∨ op = .mul ∨ op = .quo := hop.elim .inl (fun h => .inr (.inl h))
  obtain ⟨r, w1, hr, h1, h2⟩ := run_fl (P := P) (w := w) hop4 a c
  obtain ⟨s, w2, hs, h3, h4⟩ := run_fl (P := P) (w := w1) hop4 b e
  refine ⟨_, w2, ?_, r, s, O, ?_, h2.and h4⟩
  · rcases hop with rfl | rfl <;> simp [execOp, ha.eval hx, ha.eval hy, eqGuard_add, eqGuard_sub, binOp, Op.complexOp, Op.Complex.arith, hr, hs]
  · show (cn r, cn s) = _; rw [h1, h3]
theorem Wi {f : FuncId} {fn : Func} {x : Operand} {ts : Array TypeId} {m : Int} (hf : P.funcs[f]? = some fn) (hname : (fn.name == "runtime.NumGoroutine") = false) (hb : fn.body.isNone = true) (hn : Extern.findNext fn = none)
  (he : Extern.find fn = some Extern.MathFloatBits.float64frombits) (hx : ev k x = some (.int .u64 m)) :
  Rn P n k w { dst := d, op := .call { callee := .value (.func f), args := #[x], argTypes := ts }, type := ty, pos := pos, after := aft, guard := g } (.float .f64 m.toNat) :=
 fun ac ha => by
  have h1 : ¬ fn.name = "runtime.NumGoroutine" := by simpa using hname
  have h2 : fn.body = none := by simpa using hb
  have h3 : ac.eval (.func f) = .func (.func f) #[] #[] := rfl
  have h4 : (Extern.MathFloatBits.float64frombits #[.int .u64 m]).run P w = .ok (.float .f64 m.toNat) w := rfl
  simp [execOp, resolve, h3, Deferred.ofValue, invoke, callFunc, hf, h1, h2, hn, he, ha.eval hx, h4]
end
def one : Fl := cn 4607182418800017408
def fl0 : Fl := cn 0
def facF : Nat → Fl
 | 0 => one
 | m + 1 => fmul (facF m) (fi ((m + 1 : Nat) : Int))
def cofF (first j i : Nat) : Fl := if 1 ≤ 2 * i + first ∧ 2 * i + first ≤ j then fquo one (facF (2 * i + first)) else fl0
def cofL (first i : Nat) : Fl := if first = 0 ∧ i = 0 then one else fquo one (facF (2 * i + first))
def hornP (first : Nat) (y : Fl) : Nat → Fl
 | 0 => cofL first 8
 | j + 1 => fsub (cofL first (7 - j)) (fmul y (hornP first y j))
def hornF (first : Nat) (y : Fl) : Fl := hornP first y 8
def halfB : Nat := 4604544271217802189
def twoPiB : Nat := 4618760256179416344
def eighF (r n : Int) : Cx :=
 if r = 0 then (one, fl0) else if 8 * r = n then (cn halfB, cn halfB) else
  (hornF 0 (fmul (fquo (fmul (cn twoPiB) (fi r)) (fi n)) (fquo (fmul (cn twoPiB) (fi r)) (fi n))), fmul (fquo (fmul (cn twoPiB) (fi r)) (fi n)) (hornF 1 (fmul (fquo (fmul (cn twoPiB) (fi r)) (fi n)) (fquo (fmul (cn twoPiB) (fi r)) (fi n)))))
def pzF (x : Fl) : Fl := x.map pzB
theorem cn_pz (b : Nat) : cn (pzB b) = pzF (cn b) := by
 unfold pzB pzF
 split
 ·
  rename_i h
  rw [cn_eq b]
  split
  ·
   rename_i hn
   exfalso
   have hd : (FloatKind.f64.decode b).isNaN = true := by rw [decode_nan]; simpa using hn
   obtain ⟨s, f, e⟩ := isNaN_nan hd
   have e' : Ieee.double.read b = .nan s f := e
   simp [Ieee.Format.order, e', Ieee.Datum.order] at h
  · simp [h, pzB, cn_eq]
 ·
  rename_i h
  rw [cn_eq b]
  split
  · rfl
  · simp [h, pzB]
def turF (x : Cx) : Nat → Cx
 | 0 => x
 | q + 1 => (fneg (turF x q).2, (turF x q).1)
def pair0 (n k : Nat) : Cx :=
 if 2 * (4 * k % n) ≤ n then eighF ((4 * k % n : Nat) : Int) ((4 * n : Nat) : Int) else
  ((eighF ((n : Int) - ((4 * k % n : Nat) : Int)) ((4 * n : Nat) : Int)).2, (eighF ((n : Int) - ((4 * k % n : Nat) : Int)) ((4 * n : Nat) : Int)).1)
def pairF (n k : Nat) : Cx := (pzF (turF (pair0 n k) (4 * k / n)).1, pzF (turF (pair0 n k) (4 * k / n)).2)
def rootF (n k : Nat) : Cx := ((pairF n k).1, pzF (fneg (pairF n k).2))
def twistF (z : Cx) (n k : Nat) : Cx := if k = 0 then z else mulC z (rootF n k)
theorem tmod_mod {k : Int} {n : Nat} (hn : 0 < n) : (k.tmod n + n).tmod n = k % (n : Int) := by
 have h1 := Int.tmod_lt_of_pos k (show (0 : Int) < n by omega)
 have h2 : -(n : Int) < k.tmod n := by have := Int.tmod_lt_of_pos (-k) (show (0 : Int) < n by omega); rw [Int.neg_tmod] at this; omega
 rw [Int.tmod_eq_emod_of_nonneg (by omega)]
 have h4 : (k.tmod n + n) % (n : Int) = k.tmod n % (n : Int) := Int.add_emod_right _ _
 rw [h4, Int.tmod_def]
 have : k - (n : Int) * k.tdiv n = k + (n : Int) * (-(k.tdiv n)) := by rw [Int.mul_neg]; rfl
 rw [this, Int.add_mul_emod_self_left]
structure CofA (first j : Nat) (xs : List Nat) : Prop where
  len : xs.length = 9
  get : ∀ i, i < 9 → cn (xs.getD i 0) = cofF first j i
theorem CofA.zero (first : Nat) : CofA first 0 (List.replicate 9 0) := ⟨by simp, fun i hi => by
 rw [cofF, if_neg (by omega), List.getD, List.getElem?_replicate, if_pos hi]; rfl⟩
theorem getD_set {xs : List Nat} {i j a : Nat} (hj : j < xs.length) : (xs.set j a).getD i 0 = if i = j then a else xs.getD i 0 := by
 simp only [List.getD, List.getElem?_set]
 by_cases h : j = i
 · subst h; simp [hj]
 ·
  have : ¬ i = j := fun e => h e.symm
  simp [h, this]
theorem CofA.put {first j : Nat} {xs : List Nat} (h : CofA first j xs) (hj : j ≤ 16 + first) {i a : Nat} (hi : 2 * i + first = j + 1) (ha : cn a = fquo one (facF (j + 1))) : CofA first (j + 1) (xs.set i a) := by
 refine ⟨by simp [h.len], fun m hm => ?_⟩
 rw [getD_set (by rw [h.len]; omega)]
 by_cases e : m = i
 · rw [if_pos e, ha, cofF, if_pos (by omega), e, hi]
 ·
  rw [if_neg e, h.get m hm, cofF, cofF]
  by_cases c : 1 ≤ 2 * m + first ∧ 2 * m + first ≤ j
  · rw [if_pos c, if_pos (by omega)]
  · rw [if_neg c, if_neg (by omega)]
theorem CofA.skip {first j : Nat} {xs : List Nat} (h : CofA first j xs) (hn : ∀ i, 2 * i + first ≠ j + 1) : CofA first (j + 1) xs := by
 refine ⟨h.len, fun m hm => ?_⟩
 rw [h.get m hm, cofF, cofF]
 have := hn m
 by_cases c : 1 ≤ 2 * m + first ∧ 2 * m + first ≤ j
 · rw [if_pos c, if_pos (by omega)]
 · rw [if_neg c, if_neg (by omega)]
theorem CofA.last0 {xs : List Nat} (h : CofA 0 16 xs) : (xs.set 0 4607182418800017408).length = 9 ∧ ∀ i, i < 9 → cn ((xs.set 0 4607182418800017408).getD i 0) = cofL 0 i := by
 refine ⟨by simp [h.len], fun i hi => ?_⟩
 rw [getD_set (by rw [h.len]; omega)]
 by_cases e : i = 0
 · subst e; rfl
 · rw [if_neg e, h.get i hi, cofF, if_pos (by omega), cofL, if_neg (by omega)]
theorem CofA.last1 {first : Nat} {xs : List Nat} (h : CofA first (16 + first) xs) (hf : first = 1) : xs.length = 9 ∧ ∀ i, i < 9 → cn (xs.getD i 0) = cofL first i := by
 refine ⟨h.len, fun i hi => ?_⟩
 rw [h.get i hi, cofF, if_pos (by omega), cofL, if_neg (by omega)]
end Go.Tm
namespace Go.Tm
section
variable {P : Program} {n : Fr} {k : K} {w : World} {d : Option Tmp} {ty : TypeId} {pos : String} {aft : Array Edge} {g : Option (Nat × Bool)} {t t' : TypeId} {x y : Operand}
theorem Rn.eqlT {q : IntKind} {a b : Int} (hx : ev k x = some (.int q a)) (hy : ev k y = some (.int q b)) (h : a = b) : Rn P n k w { dst := d, op := .binOp .eql t x y t', type := ty, pos := pos, after := aft, guard := g } (.bool true) := by
 have := Cg (P := P) (n := n) (w := w) (d := d) (ty := ty) (pos := pos) (aft := aft) (g := g) (t := t) (t' := t') hx hy
 rwa [decide_eq_true h] at this
theorem Rn.cneqF {a b c e : Nat} (hx : ev k x = some (.complex .f64 a b)) (hy : ev k y = some (.complex .f64 c e)) (h : ceq (a, b) (c, e) = true) : Rn P n k w { dst := d, op := .binOp .neq t x y t', type := ty, pos := pos, after := aft, guard := g } (.bool false) := by
 have := Rn.cneq (P := P) (n := n) (w := w) (d := d) (ty := ty) (pos := pos) (aft := aft) (g := g) (t := t) (t' := t') hx hy
 rwa [h] at this
theorem Rn.feqlT {a b : Nat} (hx : ev k x = some (.float .f64 a)) (hy : ev k y = some (.float .f64 b)) (h : (Ieee.double.order a b == some .eq) = true) : Rn P n k w { dst := d, op := .binOp .eql t x y t', type := ty, pos := pos, after := aft, guard := g } (.bool true) := by
 have := Rn.feql (P := P) (n := n) (w := w) (d := d) (ty := ty) (pos := pos) (aft := aft) (g := g) (t := t) (t' := t') hx hy
 rwa [h] at this
end
section
variable {P : Program} {n : Fr} {k : K} {w : World} {d : Option Tmp} {ty : TypeId} {pos : String} {aft : Array Edge} {g : Option (Nat × Bool)}
end
theorem Wk.lit0 {P : Program} {n : Fr} {k : K} {w : World} {d : Option Nat} {ty : TypeId} {pos : String} {aft : Array Edge} {g : Option (Nat × Bool)} {t e : TypeId} {z : Value} {sz by' : Nat} (ht : P.underlying t = some (.slice e)) (hi : Inf P e z sz by') :
  Wk P n k w { dst := d, op := .buildSlice t 0 #[], type := ty, pos := pos, after := aft, guard := g } (fun v w' => ∃ p, v = .slice (some ⟨p, 0, none⟩) 0 0 ∧ New w w' p (.cells #[] e)) :=
 Rv fun a ha => by
  obtain ⟨i, hi, hz, hs, rfl⟩ := hi
  exact ⟨_, _, by simp [execOp, Instr.buildSlice, run_underlying ht, sizeOf, typeInfo, hi, Instr.fill, show Array.map (fun (_ : Nat) => (default : Value)) (Array.range 0) = #[] from by simp [Array.range], newRow], _, O, O, O⟩
end Go.Tm
namespace Go.Tm
set_option maxRecDepth 100000
open Go.RowKit Go.Proofs Go.Proofs.Tryz
set_option maxHeartbeats 1000000 in
theorem roots_horner0 (y : Nat) (w : World) :
  Calls prog 163 #[.float .f64 y, Kg 0] w (Ret (fun v w' => ∃ b, v = .float .f64 b ∧ cn b = hornF 0 (cn y) ∧ Ch No w w')) := by
 refine Ku func163 O ntmps163 O (Kb (Ww O O (Wy ?_)))
 refine Km (Ck zeroValue230) O ?_
 intro p1 w1 b5 c1 e1 z1
 refine Wy (Ww O O (Wz ?_))
 refine Kb (Ww O O (Ka (Qt ?_)))
 have CH_1 := c1
 refine Kf (σ := Nat × Nat × List Nat) (fun (j, f, xs) => [(0, .float .f64 y), (1, Kg 0), (5, Kh p1), (6, .float .f64 f), (7, Kg (j + 1))]) (fun (j, f, xs) w' => j ≤ 16 ∧ cn f = facF j ∧ CofA 0 j xs ∧ w1.heap.size ≤ w'.heap.size ∧ Bk w' p1 (arrF xs) 230 ∧ Ch (No) w w') (fun (j, f, xs) => 17 - j) (0, _, List.replicate 9 0) ?_ ?_
 · exact ⟨(by omega), (by rfl), (CofA.zero _), (Nat.le_refl _), b5, CH_1⟩
 rintro ⟨j, f, xs⟩ w2 ⟨hj, hf, hx, hsz2, ar_2, CH_2⟩
 have hxl := hx.len
 refine Qe (Kb (Wu O O (Wu O O ?_)))
 refine Om (Cd O O) O ?_
 refine Om (Rg O O) O ?_
 refine Om (Co O O) O (Ka (Qj O (fun hc1 => ?_) (fun hc1 => ?_)))
 ·
  refine Qn (Qa (Qe (Qt (Kb (Wu O O (Wu O O ?_))))))
  refine Om (Wb υ3 υ32 O) O (Oq (Cw (.inr (.inr (.inl O))) O O) O ?_)
  rintro _ w3 ⟨r3, rfl, f3, c3⟩
  have z3 := c3.size
  refine Ww O O (Wy (Wu O O (Wu O O (Om (Ry O O) O ?_))))
  refine Wu O O ?_
  refine Re (b := _) 6 24 30 O (fun hc2 Jhc2 => by
    try simp only [bX] at hc2
    refine Wu O O (Wu O O ?_)
    refine Om (Rg O O) O ?_
    refine Om (Rq O O) O (Om (Cg O O) O (Om (Qr O O) O ?_))
    exact (Qo O (Qo O (Qo O (Qo O (Qo O Jhc2)))))) (fun hc2 Jhc2 => by
    refine Oy O (Oy O (Oy O (Oy O (Oy O (Om (Qm O O) O ?_)))))
    exact (Qo O (Qo O (Qo O (Qo O (Qo O Jhc2)))))) ?_
  refine Ka (Cq O (fun hc3 => ?_) (fun hc3 => ?_))
  ·
   try simp only [bX] at hc3
   refine Qb (Wu O O (Wu O O ?_))
   refine Om (Rg O O) O ?_
   refine Om (Wc O O (by omega) (by omega) (by omega)) O (Wu O O (Oq (Cw (.inr (.inr (.inr O))) O O) O ?_))
   rintro _ w4 ⟨r4, rfl, f4, c4⟩
   have z4 := c4.size
   refine Om (Cu (o' := (j + 1 - 0) / 2) υ230 ς32 O O) O ?_
   have ar_4 := ar_2.keep (c3.trans c4)
   refine Oz (Wk.putArr ς32 O O ar_4 (by omega)) O ?_
   rintro _ w5 ⟨ar5, c5, zz5⟩
   have z5 := c5.size
   refine Qf (Ql (Qa (Qb (Wu O O ?_))))
   refine Om (Cd O O) O ?_
   refine Ww O O (Qf ?_)
   refine Ke (j + 1, _, xs.set ((j + 1 - 0) / 2) r4) ?_
   have CH_4 := CH_2.and (c3.trans c4)
   have CH_5 : Ch (No) w w5 := CH_4.then c5
   exact ⟨by omega, (by rw [f3, hf]; rfl), hx.put (by omega) (by omega) (by rw [f4, f3, hf]; rfl), by omega, ar5, CH_5⟩
  try simp only [bX] at hc3
  refine Qn (Ql (Qa (Qb (Wu O O ?_))))
  refine Om (Cd O O) O ?_
  refine Ww O O (Qf ?_)
  refine Ke (j + 1, _, xs) ?_
  have ar_3 := ar_2.keep c3
  have CH_3 := CH_2.and c3
  exact ⟨by omega, (by rw [f3, hf]; rfl), hx.skip (fun i => by omega), by omega, ar_3, CH_3⟩
 refine Cn (Qk (Qk (Qy (Qa (Qe (Kb ?_))))))
 refine Wu O O (Om (Cg O O) O (Ka (Qj O (fun hc4 => ?_) (fun hc4 => ?_))))
 ·
  refine Qb (Om (Cu (o' := 0) υ230 ς32 O O) O (Oz (Wk.putArr ς32 O O ar_2 (by omega)) O ?_))
  rintro _ w6 ⟨ar6, c6, zz6⟩
  have z6 := c6.size
  refine Wz ?_
  have ej : j = 16 := by omega
  rw [ej] at hx
  obtain ⟨hxm, hxg⟩ := hx.last0
  refine Qb (Om (Cu (o' := 8) υ230 ς32 O O) O (Om (Qg ι32 O ((ar6).getF)) O (Ww O O (Wz (Qe ?_)))))
  refine Qb (Ww O O (Ka (Qt ?_)))
  have CH_6 : Ch (No) w w6 := CH_2.then c6
  refine Kf (σ := Int × Nat) (fun (i, p) => [(0, .float .f64 y), (5, Kh p1), (8, .float .f64 p), (9, Kg i)]) (fun (i, p) w' => (-1 ≤ i ∧ i ≤ 7) ∧ cn p = hornP 0 (cn y) (7 - i).toNat ∧ w6.heap.size ≤ w'.heap.size ∧ Bk w' p1 (arrF (xs.set 0 4607182418800017408)) 230 ∧ Ch (No) w w') (fun (i, p) => (i + 1).toNat) (7, _) ?_ ?_
  · exact ⟨⟨by omega, by omega⟩, (hxg 8 (by omega)), (Nat.le_refl _), ar6, CH_6⟩
  rintro ⟨i, p⟩ w7 ⟨hj2, hp, hsz7, ar_7, CH_7⟩
  refine Qe (Kb (Wu O O (Om (Ry O O) O (Ka (Qj O (fun hc5 => ?_) (fun hc5 => ?_))))))
  ·
   refine Qn (Qa (Qe (Qt (Qb (Wu O O (Om (Cu (o' := i.toNat) υ230 ς32 O O) O (Om (Qg ι32 O ((ar_7).getF)) O ?_)))))))
   refine Wu O O (Wu O O (Oq (Cw (.inr (.inr (.inl O))) O O) O ?_))
   rintro _ w8 ⟨r8, rfl, f8, c8⟩
   have z8 := c8.size
   refine Oq (Cw (.inr (.inl O)) O O) O ?_
   rintro _ w9 ⟨r9, rfl, f9, c9⟩
   have z9 := c9.size
   refine Ww O O (Qf (Ql (Qa (Qb (Wu O O ?_)))))
   refine Om (Rg O O) O ?_
   refine Ww O O (Qf ?_)
   refine Ke (i - 1, _) ?_
   have ar_9 := ar_7.keep (c8.trans c9)
   have CH_9 := CH_7.and (c8.trans c9)
   exact ⟨⟨by omega, by omega⟩, (by rw [show (7 - (i - 1)).toNat = (7 - i).toNat + 1 by omega, f9, f8, hxg i.toNat (by omega), hp, hornP, show 7 - (7 - i).toNat = i.toNat by omega]; try rfl), by omega, ar_9, CH_9⟩
  refine Cn (Qk (Qk (Qy (Qa (Kb (Wu O O ?_))))))
  refine Ww O O (Ka (Qp (Qx O O (Kx ?_))))
  have ei : i = -1 := by omega
  subst ei
  exact ⟨_, O, hp, CH_7⟩
 omega
set_option maxHeartbeats 1000000 in
theorem roots_horner1 (y : Nat) (w : World) :
  Calls prog 163 #[.float .f64 y, Kg 1] w (Ret (fun v w' => ∃ b, v = .float .f64 b ∧ cn b = hornF 1 (cn y) ∧ Ch No w w')) := by
 refine Ku func163 O ntmps163 O (Kb (Ww O O (Wy ?_)))
 refine Km (Ck zeroValue230) O ?_
 intro p1 w1 b5 c1 e1 z1
 refine Wy (Ww O O (Wz ?_))
 refine Kb (Ww O O (Ka (Qt ?_)))
 have CH_1 := c1
 refine Kf (σ := Nat × Nat × List Nat) (fun (j, f, xs) => [(0, .float .f64 y), (1, Kg 1), (5, Kh p1), (6, .float .f64 f), (7, Kg (j + 1))]) (fun (j, f, xs) w' => j ≤ 17 ∧ cn f = facF j ∧ CofA 1 j xs ∧ w1.heap.size ≤ w'.heap.size ∧ Bk w' p1 (arrF xs) 230 ∧ Ch (No) w w') (fun (j, f, xs) => 17 - j) (0, _, List.replicate 9 0) ?_ ?_
 · exact ⟨(by omega), (by rfl), (CofA.zero _), (Nat.le_refl _), b5, CH_1⟩
 rintro ⟨j, f, xs⟩ w2 ⟨hj, hf, hx, hsz2, ar_2, CH_2⟩
 have hxl := hx.len
 refine Qe (Kb (Wu O O (Wu O O ?_)))
 refine Om (Cd O O) O ?_
 refine Om (Rg O O) O ?_
 refine Om (Co O O) O (Ka (Qj O (fun hc1 => ?_) (fun hc1 => ?_)))
 ·
  refine Qn (Qa (Qe (Qt (Kb (Wu O O (Wu O O ?_))))))
  refine Om (Wb υ3 υ32 O) O (Oq (Cw (.inr (.inr (.inl O))) O O) O ?_)
  rintro _ w3 ⟨r3, rfl, f3, c3⟩
  have z3 := c3.size
  refine Ww O O (Wy (Wu O O (Wu O O (Om (Ry O O) O ?_))))
  refine Wu O O ?_
  refine Re (b := _) 6 24 30 O (fun hc2 Jhc2 => by
    try simp only [bX] at hc2
    refine Wu O O (Wu O O ?_)
    refine Om (Rg O O) O ?_
    refine Om (Rq O O) O (Om (Cg O O) O (Om (Qr O O) O ?_))
    exact (Qo O (Qo O (Qo O (Qo O (Qo O Jhc2)))))) (fun hc2 Jhc2 => by
    refine Oy O (Oy O (Oy O (Oy O (Oy O (Om (Qm O O) O ?_)))))
    exact (Qo O (Qo O (Qo O (Qo O (Qo O Jhc2)))))) ?_
  refine Ka (Cq O (fun hc3 => ?_) (fun hc3 => ?_))
  ·
   try simp only [bX] at hc3
   refine Qb (Wu O O (Wu O O ?_))
   refine Om (Rg O O) O ?_
   refine Om (Wc O O (by omega) (by omega) (by omega)) O (Wu O O (Oq (Cw (.inr (.inr (.inr O))) O O) O ?_))
   rintro _ w4 ⟨r4, rfl, f4, c4⟩
   have z4 := c4.size
   refine Om (Cu (o' := (j + 1 - 1) / 2) υ230 ς32 O O) O ?_
   have ar_4 := ar_2.keep (c3.trans c4)
   refine Oz (Wk.putArr ς32 O O ar_4 (by omega)) O ?_
   rintro _ w5 ⟨ar5, c5, zz5⟩
   have z5 := c5.size
   refine Qf (Ql (Qa (Qb (Wu O O ?_))))
   refine Om (Cd O O) O ?_
   refine Ww O O (Qf ?_)
   refine Ke (j + 1, _, xs.set ((j + 1 - 1) / 2) r4) ?_
   have CH_4 := CH_2.and (c3.trans c4)
   have CH_5 : Ch (No) w w5 := CH_4.then c5
   exact ⟨by omega, (by rw [f3, hf]; rfl), hx.put (by omega) (by omega) (by rw [f4, f3, hf]; rfl), by omega, ar5, CH_5⟩
  try simp only [bX] at hc3
  refine Qn (Ql (Qa (Qb (Wu O O ?_))))
  refine Om (Cd O O) O ?_
  refine Ww O O (Qf ?_)
  refine Ke (j + 1, _, xs) ?_
  have ar_3 := ar_2.keep c3
  have CH_3 := CH_2.and c3
  exact ⟨by omega, (by rw [f3, hf]; rfl), hx.skip (fun i => by omega), by omega, ar_3, CH_3⟩
 refine Cn (Qk (Qk (Qy (Qa (Qe (Kb ?_))))))
 refine Wu O O (Om (Cg O O) O (Ka (Qj O (fun hc4 => ?_) (fun hc4 => ?_))))
 · omega
 refine Qn (Qa (Qe ?_))
 have ej : j = 17 := by omega
 rw [ej] at hx
 obtain ⟨hxm, hxg⟩ := (CofA.last1 (first := 1) hx rfl)
 refine Qb (Om (Cu (o' := 8) υ230 ς32 O O) O (Om (Qg ι32 O ((ar_2).getF)) O (Ww O O (Wz (Qe ?_)))))
 refine Qb (Ww O O (Ka (Qt (Kf (σ := Int × Nat) (fun (i, p) => [(0, .float .f64 y), (5, Kh p1), (8, .float .f64 p), (9, Kg i)]) (fun (i, p) w' => (-1 ≤ i ∧ i ≤ 7) ∧ cn p = hornP 1 (cn y) (7 - i).toNat ∧ w2.heap.size ≤ w'.heap.size ∧ Bk w' p1 (arrF xs) 230 ∧ Ch (No) w w') (fun (i, p) => (i + 1).toNat) (7, _) ?_ ?_))))
 · exact ⟨⟨by omega, by omega⟩, (hxg 8 (by omega)), (Nat.le_refl _), ar_2, CH_2⟩
 rintro ⟨i, p⟩ w6 ⟨hj2, hp, hsz6, ar_6, CH_6⟩
 refine Qe (Kb (Wu O O (Om (Ry O O) O (Ka (Qj O (fun hc5 => ?_) (fun hc5 => ?_))))))
 ·
  refine Qn (Qa (Qe (Qt (Qb (Wu O O (Om (Cu (o' := i.toNat) υ230 ς32 O O) O (Om (Qg ι32 O ((ar_6).getF)) O ?_)))))))
  refine Wu O O (Wu O O (Oq (Cw (.inr (.inr (.inl O))) O O) O ?_))
  rintro _ w7 ⟨r7, rfl, f7, c7⟩
  have z7 := c7.size
  refine Oq (Cw (.inr (.inl O)) O O) O ?_
  rintro _ w8 ⟨r8, rfl, f8, c8⟩
  have z8 := c8.size
  refine Ww O O (Qf (Ql (Qa (Qb (Wu O O ?_)))))
  refine Om (Rg O O) O ?_
  refine Ww O O (Qf ?_)
  refine Ke (i - 1, _) ?_
  have ar_8 := ar_6.keep (c7.trans c8)
  have CH_8 := CH_6.and (c7.trans c8)
  exact ⟨⟨by omega, by omega⟩, (by rw [show (7 - (i - 1)).toNat = (7 - i).toNat + 1 by omega, f8, f7, hxg i.toNat (by omega), hp, hornP, show 7 - (7 - i).toNat = i.toNat by omega]; try rfl), by omega, ar_8, CH_8⟩
 refine Cn (Qk (Qk (Qy (Qa (Kb (Wu O O ?_))))))
 refine Ww O O (Ka (Qp (Qx O O (Kx ?_))))
 have ei : i = -1 := by omega
 subst ei
 exact ⟨_, O, hp, CH_6⟩
theorem roots_eighth (r m : Int) (hr : 0 ≤ r ∧ r ≤ 1000000000000) (w : World) :
  Calls prog 128 #[Kg r, Kg m] w (Ret (fun v w' => ∃ a b, v = .tuple #[.float .f64 a, .float .f64 b] ∧ cx (a, b) = eighF r m ∧ Ch No w w')) := by
 refine Ku func128 O ntmps128 O (Kb (Ww O O (Ww O O (Wz ?_))))
 refine Qt (Kb (Wu O O (Om (Cg O O) O (Ww O O (Ka ?_)))))
 refine Qj O (fun hc1 => ?_) (fun hc1 => ?_)
 ·
  refine Kb (Ww O O (Ww O O (Ka (Qp (Cb ?_)))))
  refine Qw (Ra O O O (Kx ?_))
  exact ⟨_, _, O, (by rw [eighF, if_pos (by omega)]; rfl), (Ch.refl (No) w)⟩
 refine Kb (Wu O O ?_)
 refine Om (Cy O O) O ?_
 refine Wu O O (Om (Cg O O) O (Ww O O (Ka (Qj O (fun hc2 => ?_) (fun hc2 => ?_)))))
 ·
  refine Kb (Om (Wi func43 (by kernel_rfl) O (by kernel_rfl) (by kernel_rfl) O) O (Ww O O (Wy ?_)))
  refine Wu O O (Wu O O (Ww O O (Ww O O (Ka (Qp (Cb ?_))))))
  refine Qw (Ra O O O (Kx ?_))
  exact ⟨_, _, O, (by rw [eighF, if_neg (by omega), if_pos (by omega)]; rfl), (Ch.refl (No) w)⟩
 refine Qn (Ql (Qa (Kb (Om (Wi func43 (by kernel_rfl) O (by kernel_rfl) (by kernel_rfl) O) O (Wu O O (Om (Wb υ3 υ32 O) O ?_))))))
 refine Oq (Cw (.inr (.inr (.inl O))) O O) O ?_
 rintro _ w1 ⟨r1, rfl, f1, c1⟩
 have z1 := c1.size
 refine Wu O O (Om (Wb υ3 υ32 O) O (Oq (Cw (.inr (.inr (.inr O))) O O) O ?_))
 rintro _ w2 ⟨r2, rfl, f2, c2⟩
 have z2 := c2.size
 refine Ww O O (Wy (Wu O O (Wu O O (Oq (Cw (.inr (.inr (.inl O))) O O) O ?_))))
 rintro _ w3 ⟨r3, rfl, f3, c3⟩
 have z3 := c3.size
 refine Ww O O (Wy (Wu O O (Oq (Qi call163 O (roots_horner0 _ _)) O ?_)))
 rintro _ w4 ⟨b4, rfl, F4, c4⟩
 have z4 := c4.size
 refine Wu O O (Wu O O (Oq (Qi call163 O (roots_horner1 _ _)) O ?_))
 rintro _ w5 ⟨b5, rfl, F5, c5⟩
 have z5 := c5.size
 refine Oq (Cw (.inr (.inr (.inl O))) O O) O ?_
 rintro _ w6 ⟨r6, rfl, f6, c6⟩
 have z6 := c6.size
 refine Ww O O (Ww O O (Ka (Qp (Ra O O O (Kx ?_)))))
 have CH_6 := (c1.trans (c2.trans (c3.trans (c4.trans (c5.trans c6)))))
 exact ⟨_, _, O, (by rw [eighF, if_neg (by omega), if_neg (by omega)]; show (cn _, cn _) = _; rw [F4, f6, F5, f3, f2, f1]; rfl), CH_6⟩
theorem roots_modI (a : Int) (n q : Nat) (hn : 0 < n) (ha : -1000000000000 ≤ a ∧ a ≤ 1000000000000) (hn2 : n ≤ 1000000000000) (hq : a % (n : Int) = (q : Int)) (w : World) :
  Calls prog 47 #[Kg a, Kg n] w (Ret (fun v w' => v = Kg q ∧ w = w')) := by
 have h0 := tmod_mod (k := a) hn
 have h1 := Int.tmod_lt_of_pos a (show (0 : Int) < n by omega)
 have h2 := Int.tmod_lt_of_pos (-a) (show (0 : Int) < n by omega)
 rw [Int.neg_tmod] at h2
 rw [Int.tmod_eq_emod_of_nonneg (by omega)] at h0
 refine Ku func47 O ntmps47 O (Kb (Ww O O (Wy ?_)))
 refine Wu O O (Wu O O (Om (Rn.rem O O) O (Wu O O ?_)))
 refine Om (Cd O O) O ?_
 refine Wu O O (Om (Rq O O) O (Ww O O (Ka (Qp (Qx O O (Kx ?_))))))
 exact ⟨by rw [h0, hq], O⟩
theorem roots_pairG (n : Nat) (a : Int) (q : Nat) (hn : 1 ≤ n) (hn2 : n ≤ 4194304) (ha : -1000000000000 ≤ a ∧ a ≤ 1000000000000) (hq : a % (n : Int) = (q : Int)) (w : World) :
  Calls prog 91 #[Kg n, Kg a] w (Ret (fun v w' => ∃ c s, v = .tuple #[.float .f64 c, .float .f64 s, .nilIface] ∧ cx (c, s) = pairF n q ∧ Ch No w w')) := by
 have hql : q < n := by have := Int.emod_lt_of_pos a (show (0 : Int) < n by omega); omega
 have hm := Nat.mod_lt (4 * q) (show 0 < n by omega)
 have hr : (4 * (q : Int)) % (n : Int) = ((4 * q % n : Nat) : Int) := by push_cast; rfl
 have hd : (4 * (q : Int)) / (n : Int) = ((4 * q / n : Nat) : Int) := by push_cast; rfl
 have hd2 := Nat.div_le_self (4 * q) n
 refine Ku func91 O ntmps91 O (Kb (Ww O O (Ww O O (Ww O O (Ka ?_)))))
 refine Qe (Kb (Wu O O (Om (Co O O) O (Wu O O ?_))))
 refine Cz (b := _) 3 13 16 O (fun hc1 Jhc1 => by
   refine Oy O (Oy O (Om (Qr O O) O ?_))
   exact (Qo O (Qo O Jhc1))) (fun hc1 Jhc1 => by
   try simp only [bX] at hc1
   refine Wu O O (Om (Rb O O) O (Om (Qm O O) O ?_))
   exact (Qo O (Qo O Jhc1))) ?_
 refine Ka (Cq O (fun hc2 => ?_) (fun hc2 => ?_))
 ·
  try simp only [bX] at hc2
  omega
 try simp only [bX] at hc2
 refine Qn (Qa (Kb (Wu O O (Wu O O (Oq (Qi call47 O (roots_modI _ _ q (by omega) (by omega) (by omega) hq _)) O ?_)))))
 rintro _ _ ⟨rfl, rfl⟩
 refine Om (Cy O O) O ?_
 refine Ww O O (Wy (Wu O O (Wu O O (Om (Rq O O) O ?_))))
 refine Ww O O (Wy (Ww O O (Ww O O (Qf ?_))))
 refine Qa (VC.cut (σ := Nat × Nat) (fun (c, s) => [(0, Kg n), (7, Kg (4 * (q : Int))), (9, .float .f64 c), (10, .float .f64 s)]) (fun (c, s) w' => cx (c, s) = pair0 n q ∧ w.heap.size ≤ w'.heap.size ∧ Ch No w w') ?_ ?_)
 ·
  refine Kb (Wu O O ?_)
  refine Om (Cy O O) O ?_
  refine Wu O O (Om (Ro O O) O (Ka (Qj O (fun hc3 => ?_) (fun hc3 => ?_))))
  ·
   refine Qb (Wu O O (Wu O O ?_))
   refine Om (Cy O O) O ?_
   refine Oq (Qi call128 O (roots_eighth _ _ (by omega) _)) O ?_
   rintro _ w1 ⟨a1, b1, rfl, F1, c1⟩
   have z1 := c1.size
   refine Wu O O (Om (Qu O O) O (Om (Qu O O) O (Ww O O (Ww O O (Qf (Rt (_, _) ?_ ⟨O, O, O, O, trivial⟩))))))
   have CH_1 := c1
   exact ⟨(by rw [hr] at F1 hc3; rw [pair0, if_pos (by omega)]; exact F1), by omega, CH_1⟩
  refine Qb (Wu O O (Wu O O ?_))
  refine Om (Rg O O) O ?_
  refine Wu O O ?_
  refine Om (Cy O O) O ?_
  refine Oq (Qi call128 O (roots_eighth _ _ (by omega) _)) O ?_
  rintro _ w2 ⟨a2, b2, rfl, F2, c2⟩
  have z2 := c2.size
  refine Wu O O (Om (Qu O O) O (Om (Qu O O) O (Ww O O (Ww O O (Qf (Rt (_, _) ?_ ⟨O, O, O, O, trivial⟩))))))
  have CH_2 := c2
  exact ⟨(by rw [hr] at F2 hc3; rw [pair0, if_neg (by omega)]; exact congrArg (fun z : Cx => (z.2, z.1)) F2), by omega, CH_2⟩
 rintro ⟨c, s⟩ w3 ⟨hcs, hszc, CH_3⟩
 refine Qe (Kb (Wu O O (Wu O O (Om (Wc O O (by omega) (by omega) (by omega)) O (Wu O O (Qf ?_))))))
 refine Qa (Qt (Kf (σ := Nat × Nat × Nat) (fun (j, c, s) => [(9, .float .f64 c), (10, .float .f64 s), (47, Kg (4 * (q : Int) / (n : Int))), (48, Kg j)]) (fun (j, c, s) w' => j ≤ 4 * q / n ∧ cx (c, s) = turF (pair0 n q) j ∧ w3.heap.size ≤ w'.heap.size ∧ Ch (No) w w') (fun (j, c, s) => 4 * q / n - j) (0, c, s) ?_ ?_))
 · exact ⟨(Nat.zero_le _), (by rw [hcs]; rfl), (Nat.le_refl _), CH_3⟩
 rintro ⟨j, c, s⟩ w4 ⟨hj, ht, hsz4, CH_4⟩
 refine Kb (Om (Co O O) O (Wz (Qj O (fun hc4 => ?_) (fun hc4 => ?_))))
 ·
  refine Qn (Qa (Qe (Qt (Qb (Wu O O (Om (Wf O) O (Wu O O ?_)))))))
  refine Ww O O (Ww O O (Qf (Ql (Qa (Qb ?_)))))
  refine Om (Cd O O) O ?_
  refine Wu O O (Qf ?_)
  refine Ke (j + 1, _, _) ?_
  exact ⟨(by omega), (by rw [turF, ← ht]; show (cn _, cn _) = _; rw [cn_neg]; rfl), (by omega), CH_4⟩
 refine Cn (Qk (Qk (Qy (Qa (Kb (Wu O O ?_))))))
 refine Oq (Qi call92 O (roots_plus _ _)) O ?_
 rintro _ _ ⟨rfl, rfl⟩
 refine Wu O O (Oq (Qi call92 O (roots_plus _ _)) O ?_)
 rintro _ _ ⟨rfl, rfl⟩
 refine Ww O O (Ww O O (Ww O O (Ka (Qp (VQ.ret3 O O O O (Kx ?_))))))
 have e : j = 4 * q / n := by omega
 subst e
 exact ⟨_, _, O, (by show (cn _, cn _) = _; rw [cn_pz, cn_pz, pairF, ← ht]; rfl), CH_4⟩
theorem roots_RootG (n : Nat) (a : Int) (q : Nat) (hn : 1 ≤ n) (hn2 : n ≤ 4194304) (ha : -1000000000000 ≤ a ∧ a ≤ 1000000000000) (hq : a % (n : Int) = (q : Int)) (w : World) :
  Calls prog 46 #[Kg n, Kg a] w (Ret (fun v w' => ∃ x y, v = .tuple #[.complex .f64 x y, .nilIface] ∧ cx (x, y) = rootF n q ∧ Ch No w w')) := by
 refine Ku func46 O ntmps46 O (Kb (Ww O O (Ww O O (Wz ?_))))
 refine Qb (Wu O O (Wu O O (Oq (Qi call91 O (roots_pairG _ _ q (by omega) (by omega) (by omega) hq _)) O ?_)))
 rintro _ w1 ⟨x1, y1, rfl, F1, c1⟩
 have z1 := c1.size
 refine Wu O O (Om (Qu O O) O (Om (Qu O O) O (Om (Qu O O) O (Ww O O (Ww O O (Ww O O (Qf ?_)))))))
 refine Qa (Qe (Kb (Wu O O (Om (Cr υ28 O) O (Ka ?_)))))
 refine Cc O (Qn (Qa (Kb (Wu O O (Wu O O (Om (Wf O) O ?_))))))
 refine Oq (Qi call92 O (roots_plus _ _)) O ?_
 rintro _ _ ⟨rfl, rfl⟩
 refine Om (Rf O O) O (Ww O O (Ww O O (Ka (Qp (Ra O O O (Kx ?_))))))
 have CH_1 := c1
 exact ⟨_, _, O, (by show (cn _, cn _) = _; rw [cn_pz, cn_neg, rootF, ← F1]; rfl), CH_1⟩
theorem roots_Twist (u v : Nat) (n : Nat) (a : Int) (q : Nat) (hn : 1 ≤ n) (hn2 : n ≤ 4194304) (ha : -1000000000000 ≤ a ∧ a ≤ 1000000000000) (hq : a % (n : Int) = (q : Int)) (w : World) :
  Calls prog 14 #[.complex .f64 u v, Kg n, Kg a] w (Ret (fun v_ w' => ∃ x y, v_ = .tuple #[.complex .f64 x y, .nilIface] ∧ cx (x, y) = twistF (cx (u, v)) n q ∧ Ch No w w')) := by
 refine Ku func14 O ntmps14 O (Kb (Ww O O (Ww O O (Wz ?_))))
 refine Qb (Wu O O (Wu O O (Oq (Qi call46 O (roots_RootG _ _ q (by omega) (by omega) (by omega) hq _)) O ?_)))
 rintro _ w1 ⟨x1, y1, rfl, F1, c1⟩
 have z1 := c1.size
 refine Wu O O (Om (Qu O O) O (Om (Qu O O) O (Ww O O (Ww O O (Wz ?_)))))
 refine Kb (Wu O O (Om (Cr υ28 O) O (Ka (Cc O (Qn ?_)))))
 refine Qa (Qe (Kb (Wu O O (Wu O O (Oq (Qi call47 O (roots_modI _ _ q (by omega) (by omega) (by omega) hq _)) O ?_)))))
 rintro _ _ ⟨rfl, rfl⟩
 refine Om (Cg O O) O (Ka (Qj O (fun hc1 => ?_) (fun hc1 => ?_)))
 ·
  refine Kb (Wu O O (Ww O O (Ww O O (Ka (Qp ?_)))))
  refine Qw (Ra O O O (Kx ?_))
  have CH_1 := c1
  exact ⟨_, _, O, (by rw [twistF, if_pos (by omega)]), CH_1⟩
 refine Qn (Qa (Kb (Wu O O (Wu O O (Oq (Qi κ48 O (cplx_Mul _ _ _ _ _)) O ?_)))))
 rintro _ w2 ⟨p2, q2, rfl, F2, c2⟩
 have z2 := c2.size
 refine Ww O O (Ww O O (Ka (Qp (Ra O O O (Kx ?_)))))
 have CH_2 := (c1.trans c2)
 exact ⟨_, _, O, (by rw [twistF, if_neg (by omega), F2, F1]), CH_2⟩
end Go.Tm
namespace Go.Tm
def sumG (n k : Nat) (x : Nat → Cx) : Nat → Cx
 | 0 => x 0
 | j + 1 => plusC (sumG n k x j) (if (j + 1) * k % n = 0 then x (j + 1) else mulC (x (j + 1)) (rootF n ((j + 1) * k % n)))
def directG (n k : Nat) (x : Nat → Cx) : Cx := sumG n k x (n - 1)
theorem sumG_step {n k j : Nat} {X : Nat → Cx} (h : 1 ≤ j) : sumG n k X (j + 1 - 1) = plusC (sumG n k X (j - 1)) (if j * k % n = 0 then X j else mulC (X j) (rootF n (j * k % n))) := by
 obtain ⟨i, rfl⟩ : ∃ i, j = i + 1 := ⟨j - 1, by omega⟩
 rfl
theorem sumG_next {n k j : Nat} {X : Nat → Cx} {a b p q r s : Nat} (h : 1 ≤ j) (hs : cx (a, b) = sumG n k X (j - 1)) (f1 : cn r = fop .add (cn a) (cn p)) (f2 : cn s = fop .add (cn b) (cn q)) (hz : cx (p, q) = if j * k % n = 0 then X j else mulC (X j) (rootF n (j * k % n))) : cx (r, s) = sumG n k X (j + 1 - 1) := by
 rw [sumG_step h, ← hs, ← hz]
 show (cn r, cn s) = _
 rw [f1, f2]; rfl
def RootsG (n : Nat) (rs : List CB) : Prop := ∀ k, k < n → cx (rs.getD k (0, 0)) = rootF n k
def timesF (z : Cx) (f : Fl) : Cx := (fmul z.1 f, fmul z.2 f)
def fl3 (a b c : Cx) : List Cx := [plusC a (plusC b c), plusC (lessC a (timesF (plusC b c) (cn 4602678819172646912))) (minusI (timesF (lessC b c) (cn 4605975682916830378))), plusC (lessC a (timesF (plusC b c) (cn 4602678819172646912))) (timesI (timesF (lessC b c) (cn 4605975682916830378)))]
def fl5m (a t v : Cx) (x y : Nat) : Cx := plusC a (plusC (timesF t (cn x)) (timesF v (cn y)))
def fl5g (u w : Cx) : Cx := plusC (timesF u (cn 4606741575090066687)) (timesF w (cn 4603469518431672926))
def fl5h (u w : Cx) : Cx := lessC (timesF u (cn 4603469518431672926)) (timesF w (cn 4606741575090066687))
def fl5 (a b c d e : Cx) : List Cx :=
  [plusC a (plusC (plusC b e) (plusC c d)),
   plusC (fl5m a (plusC b e) (plusC c d) 4599238375200778576 13828834233668859048) (minusI (fl5g (lessC b e) (lessC c d))),
   plusC (fl5m a (plusC b e) (plusC c d) 13828834233668859048 4599238375200778576) (minusI (fl5h (lessC b e) (lessC c d))),
   plusC (fl5m a (plusC b e) (plusC c d) 13828834233668859048 4599238375200778576) (timesI (fl5h (lessC b e) (lessC c d))),
   plusC (fl5m a (plusC b e) (plusC c d) 4599238375200778576 13828834233668859048) (timesI (fl5g (lessC b e) (lessC c d)))]
def flyG : List Cx → List Cx
 | [a, b, c] => fl3 a b c
 | [a, b, c, d, e] => fl5 a b c d e
 | l => flyC l
def chirpF (n j : Nat) : Cx := rootF (2 * n) ((j % (2 * n)) * (j % (2 * n)) % (2 * n))
def otherF (n m i : Nat) : Cx := if i < n then conjC (chirpF n i) else if m - i < n then conjC (chirpF n (m - i)) else z0
def otherL (n m : Nat) : List Cx := (List.range m).map (otherF n m)
structure OthA (n m j : Nat) (zs : List CB) : Prop where
  len : zs.length = m
  get : ∀ i, i < m → cx (zs.getD i (0, 0)) = if i < j then conjC (chirpF n i) else if m - i < j then conjC (chirpF n (m - i)) else z0
theorem OthA.zero (n m : Nat) : OthA n m 0 (List.replicate m (0, 0)) := ⟨by simp, fun i hi => by
 rw [if_neg (by omega), if_neg (by omega)]
 simp [List.getD, List.getElem?_replicate, hi]⟩
theorem setC_getD {zs : List CB} {i j : Nat} {z d : CB} (hj : j < zs.length) : (zs.set j z).getD i d = if i = j then z else zs.getD i d := by
 simp only [List.getD, List.getElem?_set]
 by_cases h : j = i
 · subst h; simp [hj]
 ·
  have : ¬ i = j := fun e => h e.symm
  simp [h, this]
theorem OthA.first {n m j : Nat} {zs : List CB} {z : CB} (h : OthA n m j zs) (e : ¬ 0 < j) (hm : 0 < m) (hz : cx z = conjC (chirpF n j)) : OthA n m (j + 1) (zs.set j z) := by
 obtain rfl : j = 0 := by omega
 refine ⟨by simp [h.len], fun i hi => ?_⟩
 rw [setC_getD (by rw [h.len]; exact hm)]
 by_cases c : i = 0
 · subst c; rw [if_pos rfl, if_pos (by omega), hz]
 · rw [if_neg c, h.get i hi, if_neg (by omega), if_neg (by omega), if_neg (by omega), if_neg (by omega)]
theorem OthA.step {n m j : Nat} {zs : List CB} {z : CB} (h : OthA n m j zs) (hj : 0 < j) (hm : 2 * j + 1 ≤ m) (hz : cx z = conjC (chirpF n j)) : OthA n m (j + 1) ((zs.set j z).set (m - j) z) := by
 have hl := h.len
 refine ⟨by simp [hl], fun i hi => ?_⟩
 rw [setC_getD (by rw [List.length_set, hl]; omega), setC_getD (by rw [hl]; omega)]
 by_cases c : i = m - j
 · rw [if_pos c, hz, if_neg (by omega), if_pos (by omega), show m - i = j by omega]
 ·
  rw [if_neg c]
  by_cases d : i = j
  · subst d; rw [if_pos rfl, hz, if_pos (by omega)]
  ·
   rw [if_neg d, h.get i hi]
   by_cases e : i < j
   · rw [if_pos e, if_pos (by omega)]
   ·
    rw [if_neg e, if_neg (show ¬ i < j + 1 by omega)]
    by_cases f : m - i < j
    · rw [if_pos f, if_pos (by omega)]
    · rw [if_neg f, if_neg (by omega)]
theorem OthA.all {n m : Nat} {zs : List CB} (h : OthA n m n zs) : zs.map cx = otherL n m := by
 apply List.ext_getElem
 · simp [h.len, otherL]
 ·
  intro i hi hi2
  simp only [List.length_map] at hi
  have hl := h.len
  have := h.get i (by omega)
  rw [List.getD, List.getElem?_eq_getElem hi] at this
  simp only [Option.getD_some] at this
  simp only [List.getElem_map, this, otherL, List.getElem_range]
  rfl
theorem otherL_getD {n m i : Nat} (h : i < m) : (otherL n m).getD i z0 = otherF n m i := by simp [otherL, List.getD, h]
theorem roots_step {n j : Nat} {rs : List CB} {z : CB} (h : ∀ i, i < j → cx (rs.getD i (0, 0)) = rootF n i) (hl : j < rs.length) (hz : cx z = rootF n j) : ∀ i, i < j + 1 → cx ((rs.set j z).getD i (0, 0)) = rootF n i := by
 intro i hi
 rw [setC_getD hl]
 by_cases e : i = j
 · subst e; rw [if_pos rfl]; exact hz
 · rw [if_neg e]; exact h i (by omega)
def actG (s : Stp) (i : Nat) (c : List Cx) : List Cx :=
 if s.op = 1 then c.set (s.dst.toNat + i) (c.getD (s.src.toNat + i * s.jump.toNat) z0)
 else if s.op = 2 then c.set (s.dst.toNat + i * s.jump.toNat) (c.getD (s.src.toNat + i) z0)
 else if s.op = 3 then c.set (s.dst.toNat + i) z0
 else if s.op = 4 then c.set (s.dst.toNat + i) (twistF (c.getD (s.dst.toNat + i) z0) s.n.toNat (s.k.toNat * i % s.n.toNat))
 else if s.op = 5 then putN c (s.dst.toNat + i) s.jump.toNat (flyG ((List.range s.n.toNat).map fun q => c.getD (s.dst.toNat + i + q * s.jump.toNat) z0)) s.n.toNat
 else if s.op = 6 then c.set (s.dst.toNat + i) (directG s.n.toNat i fun j => c.getD (s.src.toNat + j * s.jump.toNat) z0)
 else if s.op = 7 then c.set (s.dst.toNat + i) (mulC (c.getD (s.dst.toNat + i) z0) (chirpF s.n.toNat i))
 else if s.op = 8 then c.set (s.dst.toNat + i) (otherF s.n.toNat s.count.toNat i)
 else if s.op = 9 then c.set (s.dst.toNat + i) (mulC (c.getD (s.dst.toNat + i) z0) (c.getD (s.src.toNat + i) z0))
 else if s.op = 10 then c.set (s.dst.toNat + i) (conjC (c.getD (s.dst.toNat + i) z0))
 else if s.op = 11 then c.set (s.dst.toNat + i) (overC (c.getD (s.dst.toNat + i) z0) s.n)
 else c
def actsG (s : Stp) (c : List Cx) : Nat → List Cx
 | 0 => c
 | i + 1 => actG s i (actsG s c i)
def runG (l : List Stp) (c : List Cx) : List Cx := l.foldl (fun c s => actsG s c s.count.toNat) c
theorem runG_take {L : List Stp} {j : Nat} {s : Stp} (h : L[j]? = some s) (c : List Cx) : runG (L.take (j + 1)) c = actsG s (runG (L.take j) c) s.count.toNat := by
 rw [List.take_add_one, h]; simp [runG]
def SmS (s : Stp) : Prop := (0 ≤ s.op ∧ s.op ≤ 1000000) ∧ (0 ≤ s.dst ∧ s.dst ≤ 1000000) ∧ (0 ≤ s.src ∧ s.src ≤ 1000000) ∧ (0 ≤ s.jump ∧ s.jump ≤ 1000000) ∧ (0 ≤ s.count ∧ s.count ≤ 1000000) ∧ (0 ≤ s.n ∧ s.n ≤ 1000000) ∧ (0 ≤ s.k ∧ s.k ≤ 1000000)
structure StepG (s : Stp) (N : Nat) : Prop where
  sm : SmS s
  cnt : 1 ≤ s.count ∧ s.count ≤ 1000000
  op : (s.op = 1 ∧ s.dst + s.count ≤ N ∧ s.src + (s.count - 1) * s.jump < N) ∨ (s.op = 2 ∧ s.src + s.count ≤ N ∧ s.dst + (s.count - 1) * s.jump < N) ∨ (s.op = 3 ∧ s.dst + s.count ≤ N) ∨
    (s.op = 4 ∧ s.dst + s.count ≤ N ∧ 1 ≤ s.n ∧ s.n ≤ 16384 ∧ 0 ≤ s.k ∧ s.k < s.n) ∨ (s.op = 5 ∧ 2 ≤ s.n ∧ s.n ≤ 5 ∧ s.dst + s.count - 1 + (s.n - 1) * s.jump < N) ∨ (s.op = 6 ∧ 1 ≤ s.n ∧ s.n ≤ 64 ∧ 1 ≤ s.jump ∧ s.count ≤ s.n ∧ s.dst + s.count ≤ N ∧ s.src + (s.n - 1) * s.jump < N) ∨
    (s.op = 7 ∧ s.dst + s.count ≤ N ∧ 1 ≤ s.n ∧ s.n ≤ 16384) ∨ (s.op = 8 ∧ s.dst + s.count ≤ N ∧ 1 ≤ s.n ∧ 2 * s.n - 1 ≤ s.count ∧ s.count ≤ 16384) ∨ (s.op = 9 ∧ s.dst + s.count ≤ N ∧ s.src + s.count ≤ N) ∨ (s.op = 10 ∧ s.dst + s.count ≤ N) ∨ (s.op = 11 ∧ s.dst + s.count ≤ N)
theorem StepG.op11 {s : Stp} {N : Nat} (h : StepG s N) : 1 ≤ s.op ∧ s.op ≤ 11 := by
 obtain ⟨_, _, h⟩ := h
 rcases h with ⟨h, _⟩ | ⟨h, _⟩ | ⟨h, _⟩ | ⟨h, _⟩ | ⟨h, _⟩ | ⟨h, _⟩ | ⟨h, _⟩ | ⟨h, _⟩ | ⟨h, _⟩ | ⟨h, _⟩ | ⟨h, _⟩ <;> rw [h] <;> decide
theorem cntG_pos {L : List Stp} (h : ∀ s ∈ L, 1 ≤ s.count) : 0 ≤ cntS L ∧ (cntS L = 0 → L = []) := by
 induction L with
 | nil => exact ⟨Int.le_refl _, fun _ => rfl⟩
 | cons s t ih =>
  have h1 := ih fun x hx => h x (List.mem_cons_of_mem _ hx)
  have h2 := h s (List.mem_cons_self ..)
  exact ⟨by show 0 ≤ s.count + cntS t; omega, fun e => by have : s.count + cntS t = 0 := e; omega⟩
theorem cntG_drop_le {L : List Stp} (h : ∀ s ∈ L, 1 ≤ s.count) (j : Nat) : 0 ≤ cntS (L.drop j) ∧ cntS (L.drop j) ≤ cntS L := by
 refine ⟨(cntG_pos fun s hs => h s (List.mem_of_mem_drop hs)).1, ?_⟩
 induction L generalizing j with
 | nil => simp
 | cons s t ih =>
  cases j with
  | zero => exact Int.le_refl _
  | succ j =>
   have h1 := ih (fun x hx => h x (List.mem_cons_of_mem _ hx)) j
   have h2 := h s (List.mem_cons_self ..)
   show cntS (t.drop j) ≤ s.count + cntS t
   omega
theorem cntG_all {L : List Stp} {j : Nat} (h : ∀ s ∈ L, 1 ≤ s.count) (h0 : cntS (L.drop j) = 0) : L.take j = L ∧ L.length ≤ j := by
 have h1 := (cntG_pos fun s hs => h s (List.mem_of_mem_drop hs)).2 h0
 have h2 : L.length ≤ j := by
  have := congrArg List.length h1
  simp at this; omega
 exact ⟨List.take_of_length_le h2, h2⟩
end Go.Tm
namespace Go.Tm
set_option maxRecDepth 100000
open Go.RowKit Go.Proofs Go.Proofs.Tryz
theorem inf33w82 : Inf prog 33 (.complex .f64 0 0) 1 16 := ⟨Tryz.t33, type33, rfl, rfl, rfl⟩
theorem build288w82 {ps : List (Nat × Value)} {cs : Array Value} (h : Instr.fill (fun i => some (i * 1, 1)) #[.complex .f64 0 0, .complex .f64 0 0, .complex .f64 0 0] ps = some cs) (w : World) : (Instr.build 288 ps.toArray).run prog w = .ok (.agg cs) w := by
 simp [Instr.build, runUnderlying288, ζ288, ς33, Value.cells] at h ⊢
 simp [h]
theorem build292w82 {ps : List (Nat × Value)} {cs : Array Value} (h : Instr.fill (fun i => some (i * 1, 1)) #[.complex .f64 0 0, .complex .f64 0 0, .complex .f64 0 0, .complex .f64 0 0, .complex .f64 0 0] ps = some cs) (w : World) : (Instr.build 292 ps.toArray).run prog w = .ok (.agg cs) w := by
 simp [Instr.build, runUnderlying292, ζ292, ς33, Value.cells] at h ⊢
 simp [h]
theorem bld288_0_1_2w82 {v0 v1 v2 : Value} (h : [v0, v1, v2].all Value.oneCell' = true) : BLD prog 288 [(0, v0), (1, v1), (2, v2)] #[v0, v1, v2] := build288w82 (fill1 _ _ _ h rfl)
theorem bld292_0_1_2_3_4w82 {v0 v1 v2 v3 v4 : Value} (h : [v0, v1, v2, v3, v4].all Value.oneCell' = true) : BLD prog 292 [(0, v0), (1, v1), (2, v2), (3, v3), (4, v4)] #[v0, v1, v2, v3, v4] := build292w82 (fill1 _ _ _ h rfl)
theorem cplx_Times (a b f : Nat) (w : World) :
  Calls prog 79 #[.complex .f64 a b, .float .f64 f] w (Ret (fun v w' => ∃ p q, v = .complex .f64 p q ∧ cx (p, q) = timesF (cx (a, b)) (cn f) ∧ Ch No w w')) := by
 refine Ku func79 O ntmps79 O (Kb (Ww O O (Wy ?_)))
 refine Wu O O (Om (Rh O) O (Wu O O (Oq (Cw (.inr (.inr (.inl O))) O O) O ?_)))
 rintro _ w1 ⟨r1, rfl, f1, c1⟩
 have z1 := c1.size
 refine Wu O O (Om (Ri O) O (Wu O O (Oq (Cw (.inr (.inr (.inl O))) O O) O ?_)))
 rintro _ w2 ⟨r2, rfl, f2, c2⟩
 have z2 := c2.size
 refine Om (Rf O O) O (Ww O O (Ka (Qp (Qx O O (Kx ?_)))))
 have CH_2 := (c1.trans c2)
 exact ⟨_, _, O, (by show (cn _, cn _) = _; rw [f1, f2]; rfl), CH_2⟩
theorem fly_Three (x y u : CB) (w : World) :
  Calls prog 278 #[.agg #[.complex .f64 x.1 x.2, .complex .f64 y.1 y.2, .complex .f64 u.1 u.2]] w (Ret (fun r w' => ∃ a b c : CB, r = .agg #[cxV a, cxV b, cxV c] ∧ [cx a, cx b, cx c] = fl3 (cx x) (cx y) (cx u) ∧ Ch No w w')) := by
 refine Ku func278 O ntmps278 O (Kb (Km (Cp O) O ?_))
 intro p1 w1 b1 c1 e1 z1
 refine Km (Ck ζ288) O ?_
 intro p2 w2 b2 c2 e2 z2
 refine Wy (Om (Cu (o' := 1) υ288 ς33 O O (by decide) (by decide) O) O ?_)
 have b1_2 := b1.keep c2
 refine Om (Qg ι33 O (b1_2.cell O)) O (Om (Cu (o' := 2) υ288 ς33 O O (by decide) (by decide) O) O (Om (Qg ι33 O (b1_2.cell O)) O (Oq (Qi κ296 O (fly_plus _ _ _ _ _)) O ?_)))
 rintro _ w3 ⟨p3, q3, rfl, F3, c3⟩
 have z3 := c3.size
 refine Ww O O (Wy (Om (Cu (o' := 1) υ288 ς33 O O (by decide) (by decide) O) O ?_))
 have b1_3 := b1_2.keep c3
 refine Om (Qg ι33 O (b1_3.cell O)) O (Om (Cu (o' := 2) υ288 ς33 O O (by decide) (by decide) O) O (Om (Qg ι33 O (b1_3.cell O)) O (Oq (Qi κ297 O (fly_less _ _ _ _ _)) O ?_)))
 rintro _ w4 ⟨p4, q4, rfl, F4, c4⟩
 have z4 := c4.size
 refine Oq (Qi κ79 O (cplx_Times _ _ _ _)) O ?_
 rintro _ w5 ⟨p5, q5, rfl, F5, c5⟩
 have z5 := c5.size
 refine Ww O O (Wz (Kj 5 [0, 2, 4, 7, 9] (No) ?_))
 intro w6 c6 z6
 have b1_6 := b1_3.keep (c4.trans (c5.trans c6))
 have b2_6 := b2.keep (c3.trans (c4.trans (c5.trans c6)))
 refine Ws (Cu (o' := 0) υ288 ς33 O O (by decide) (by decide) O) O (Wt (fun hS => Qg ι33 O ((b1_6.keep hS).cell O)) O (Wv O O (Hq (Qi κ79 O (cplx_Times _ _ _ _)) O ?_)))
 rintro _ w7 ⟨p7, q7, rfl, F7, c7⟩
 have z7 := c7.size
 have RD_7 := (Ch.refl (No) w6).and c7
 refine ⟨RD_7, ?_⟩
 refine Hq (Qi κ297 O (fly_less _ _ _ _ _)) O ?_
 rintro _ w8 ⟨p8, q8, rfl, F8, c8⟩
 have z8 := c8.size
 have RD_8 := RD_7.and c8
 refine ⟨RD_8, ?_⟩
 refine Cj (Ww O O (Qf (Ca (Qa (Kb (Om (Cu (o' := 0) υ288 ς33 O O (by decide) (by decide) O) O ?_))))))
 have b1_8 := b1_6.keep (c7.trans c8)
 refine Om (Qg ι33 O (b1_8.cell O)) O (Wu O O (Oq (Qi κ296 O (fly_plus _ _ _ _ _)) O ?_))
 rintro _ w9 ⟨p9, q9, rfl, F9, c9⟩
 have z9 := c9.size
 refine Wu O O (Wu O O (Oq (Qi κ80 O (cplx_MinusI _ _ _)) O ?_))
 rintro _ w10 ⟨p10, q10, rfl, F10, c10⟩
 have z10 := c10.size
 refine Oq (Qi κ296 O (fly_plus _ _ _ _ _)) O ?_
 rintro _ w11 ⟨p11, q11, rfl, F11, c11⟩
 have z11 := c11.size
 refine Wu O O (Wu O O (Oq (Qi κ122 O (cplx_TimesI _ _ _)) O ?_))
 rintro _ w12 ⟨p12, q12, rfl, F12, c12⟩
 have z12 := c12.size
 refine Oq (Qi κ296 O (fly_plus _ _ _ _ _)) O ?_
 rintro _ w13 ⟨p13, q13, rfl, F13, c13⟩
 have z13 := c13.size
 refine Om (Ct O (bld288_0_1_2w82 O)) O ?_
 have b2_13 := b2_6.keep (c7.trans (c8.trans (c9.trans (c10.trans (c11.trans (c12.trans c13))))))
 refine Ks (Cl ς288 O O O O b2_13) O ?_
 intro w14 c14 z14 b2_14
 refine Ka (Qp (Rl O O isAgg288 ς288 O (b2_14.all' O) (Kx ?_)))
 have cc_0_14 : Ch No w w14 := (Ch.then (E := No) ((((((((((((c1.and c2).and c3).and c4).and c5).and c6).and c7).and c8).and c9).and c10).and c11).and c12).and c13) c14)
 have CH_14 := cc_0_14
 exact ⟨(_, _), (_, _), (_, _), O, (by simp only [F3, F4, F5, F7, F8, F9, F10, F11, F12, F13]; rfl), CH_14⟩
set_option maxHeartbeats 1000000 in
theorem fly_Five (x y u v z : CB) (w : World) :
  Calls prog 280 #[.agg #[.complex .f64 x.1 x.2, .complex .f64 y.1 y.2, .complex .f64 u.1 u.2, .complex .f64 v.1 v.2, .complex .f64 z.1 z.2]] w (Ret (fun r w' => ∃ a b c d e : CB, r = .agg #[cxV a, cxV b, cxV c, cxV d, cxV e] ∧ [cx a, cx b, cx c, cx d, cx e] = fl5 (cx x) (cx y) (cx u) (cx v) (cx z) ∧ Ch No w w')) := by
 refine Ku func280 O ntmps280 O (Kb (Km (Cp O) O ?_))
 intro p1 w1 b1 c1 e1 z1
 refine Km (Ck ζ292) O ?_
 intro p2 w2 b2 c2 e2 z2
 refine Wz (Kj 11 [0, 2, 4, 6, 10, 12, 14, 16, 9, 19, 20] (No) ?_)
 intro w3 c3 z3
 have b1_3 := b1.keep (c2.trans c3)
 have b2_3 := b2.keep c3
 refine Ws (Cu (o' := 1) υ292 ς33 O O (by decide) (by decide) O) O (Wt (fun hS => Qg ι33 O ((b1_3.keep hS).cell O)) O (Ws (Cu (o' := 4) υ292 ς33 O O (by decide) (by decide) O) O (Wt (fun hS => Qg ι33 O ((b1_3.keep hS).cell O)) O (Ws (Cu (o' := 1) υ292 ς33 O O (by decide) (by decide) O) O (Wt (fun hS => Qg ι33 O ((b1_3.keep hS).cell O)) O (Ws (Cu (o' := 4) υ292 ς33 O O (by decide) (by decide) O) O (Wt (fun hS => Qg ι33 O ((b1_3.keep hS).cell O)) O ?_)))))))
 refine Hq (Qi κ296 O (fly_plus _ _ _ _ _)) O ?_
 rintro _ w4 ⟨p4, q4, rfl, F4, c4⟩
 have z4 := c4.size
 have RD_4 := (Ch.refl (No) w3).and c4
 refine ⟨RD_4, ?_⟩
 refine Hq (Qi κ297 O (fly_less _ _ _ _ _)) O ?_
 rintro _ w5 ⟨p5, q5, rfl, F5, c5⟩
 have z5 := c5.size
 have RD_5 := RD_4.and c5
 refine ⟨RD_5, ?_⟩
 refine Wx O O (Cj (Ww O O (Qf (Ca (Qa (Qe (Kj 11 [0, 2, 4, 6, 10, 12, 14, 16, 9, 19, 20] (No) ?_)))))))
 intro w6 c6 z6
 have b1_6 := b1_3.keep (c4.trans (c5.trans c6))
 have b2_6 := b2_3.keep (c4.trans (c5.trans c6))
 refine Ws (Cu (o' := 2) υ292 ς33 O O (by decide) (by decide) O) O (Wt (fun hS => Qg ι33 O ((b1_6.keep hS).cell O)) O (Ws (Cu (o' := 3) υ292 ς33 O O (by decide) (by decide) O) O (Wt (fun hS => Qg ι33 O ((b1_6.keep hS).cell O)) O (Ws (Cu (o' := 2) υ292 ς33 O O (by decide) (by decide) O) O (Wt (fun hS => Qg ι33 O ((b1_6.keep hS).cell O)) O (Ws (Cu (o' := 3) υ292 ς33 O O (by decide) (by decide) O) O (Wt (fun hS => Qg ι33 O ((b1_6.keep hS).cell O)) O ?_)))))))
 refine Hq (Qi κ296 O (fly_plus _ _ _ _ _)) O ?_
 rintro _ w7 ⟨p7, q7, rfl, F7, c7⟩
 have z7 := c7.size
 have RD_7 := (Ch.refl (No) w6).and c7
 refine ⟨RD_7, ?_⟩
 refine Hq (Qi κ297 O (fly_less _ _ _ _ _)) O ?_
 rintro _ w8 ⟨p8, q8, rfl, F8, c8⟩
 have z8 := c8.size
 have RD_8 := RD_7.and c8
 refine ⟨RD_8, ?_⟩
 refine Wx O O (Cj (Ww O O (Qf (Ca (Qa (Qe (Kj 8 [0, 2, 4, 8, 7, 11, 13, 15] (No) ?_)))))))
 intro w9 c9 z9
 have b1_9 := b1_6.keep (c7.trans (c8.trans c9))
 have b2_9 := b2_6.keep (c7.trans (c8.trans c9))
 refine Ws (Cu (o' := 0) υ292 ς33 O O (by decide) (by decide) O) O (Wt (fun hS => Qg ι33 O ((b1_9.keep hS).cell O)) O (Wv O O (Wv O O (Hq (Qi κ79 O (cplx_Times _ _ _ _)) O ?_))))
 rintro _ w10 ⟨p10, q10, rfl, F10, c10⟩
 have z10 := c10.size
 have RD_10 := (Ch.refl (No) w9).and c10
 refine ⟨RD_10, ?_⟩
 refine Hq (Qi κ79 O (cplx_Times _ _ _ _)) O ?_
 rintro _ w11 ⟨p11, q11, rfl, F11, c11⟩
 have z11 := c11.size
 have RD_11 := RD_10.and c11
 refine ⟨RD_11, ?_⟩
 refine Hq (Qi κ296 O (fly_plus _ _ _ _ _)) O ?_
 rintro _ w12 ⟨p12, q12, rfl, F12, c12⟩
 have z12 := c12.size
 have RD_12 := RD_11.and c12
 refine ⟨RD_12, ?_⟩
 refine Hq (Qi κ296 O (fly_plus _ _ _ _ _)) O ?_
 rintro _ w13 ⟨p13, q13, rfl, F13, c13⟩
 have z13 := c13.size
 have RD_13 := RD_12.and c13
 refine ⟨RD_13, ?_⟩
 refine Cj (Ww O O (Qf (Ca (Qa (Qe (Kj 8 [0, 2, 4, 8, 7, 11, 13, 15] (No) ?_))))))
 intro w14 c14 z14
 have b1_14 := b1_9.keep (c10.trans (c11.trans (c12.trans (c13.trans c14))))
 have b2_14 := b2_9.keep (c10.trans (c11.trans (c12.trans (c13.trans c14))))
 refine Ws (Cu (o' := 0) υ292 ς33 O O (by decide) (by decide) O) O (Wt (fun hS => Qg ι33 O ((b1_14.keep hS).cell O)) O (Wv O O (Wv O O (Hq (Qi κ79 O (cplx_Times _ _ _ _)) O ?_))))
 rintro _ w15 ⟨p15, q15, rfl, F15, c15⟩
 have z15 := c15.size
 have RD_15 := (Ch.refl (No) w14).and c15
 refine ⟨RD_15, ?_⟩
 refine Hq (Qi κ79 O (cplx_Times _ _ _ _)) O ?_
 rintro _ w16 ⟨p16, q16, rfl, F16, c16⟩
 have z16 := c16.size
 have RD_16 := RD_15.and c16
 refine ⟨RD_16, ?_⟩
 refine Hq (Qi κ296 O (fly_plus _ _ _ _ _)) O ?_
 rintro _ w17 ⟨p17, q17, rfl, F17, c17⟩
 have z17 := c17.size
 have RD_17 := RD_16.and c17
 refine ⟨RD_17, ?_⟩
 refine Hq (Qi κ296 O (fly_plus _ _ _ _ _)) O ?_
 rintro _ w18 ⟨p18, q18, rfl, F18, c18⟩
 have z18 := c18.size
 have RD_18 := RD_17.and c18
 refine ⟨RD_18, ?_⟩
 refine Cj (Ww O O (Qf (Ca (Qa (Kb (Wu O O ?_))))))
 refine Oq (Qi κ79 O (cplx_Times _ _ _ _)) O ?_
 rintro _ w19 ⟨p19, q19, rfl, F19, c19⟩
 have z19 := c19.size
 refine Wu O O (Oq (Qi κ79 O (cplx_Times _ _ _ _)) O ?_)
 rintro _ w20 ⟨p20, q20, rfl, F20, c20⟩
 have z20 := c20.size
 refine Oq (Qi κ296 O (fly_plus _ _ _ _ _)) O ?_
 rintro _ w21 ⟨p21, q21, rfl, F21, c21⟩
 have z21 := c21.size
 refine Ww O O (Wy (Wu O O (Oq (Qi κ79 O (cplx_Times _ _ _ _)) O ?_)))
 rintro _ w22 ⟨p22, q22, rfl, F22, c22⟩
 have z22 := c22.size
 refine Wu O O (Oq (Qi κ79 O (cplx_Times _ _ _ _)) O ?_)
 rintro _ w23 ⟨p23, q23, rfl, F23, c23⟩
 have z23 := c23.size
 refine Oq (Qi κ297 O (fly_less _ _ _ _ _)) O ?_
 rintro _ w24 ⟨p24, q24, rfl, F24, c24⟩
 have z24 := c24.size
 refine Ww O O (Wz (Kj 23 [0, 2, 4, 6, 12, 14, 20, 22, 28, 30, 36, 38, 9, 11, 17, 19, 25, 27, 33, 35, 41, 43, 44] (No) ?_))
 intro w25 c25 z25
 have b1_25 := b1_14.keep (c15.trans (c16.trans (c17.trans (c18.trans (c19.trans (c20.trans (c21.trans (c22.trans (c23.trans (c24.trans c25))))))))))
 have b2_25 := b2_14.keep (c15.trans (c16.trans (c17.trans (c18.trans (c19.trans (c20.trans (c21.trans (c22.trans (c23.trans (c24.trans c25))))))))))
 refine Ws (Cu (o' := 0) υ292 ς33 O O (by decide) (by decide) O) O (Wt (fun hS => Qg ι33 O ((b1_25.keep hS).cell O)) O (Wv O O (Wv O O (Wv O O (Wv O O (Wv O O (Wv O O ?_)))))))
 refine Wv O O (Wv O O (Wv O O (Wv O O (Hq (Qi κ296 O (fly_plus _ _ _ _ _)) O ?_))))
 rintro _ w26 ⟨p26, q26, rfl, F26, c26⟩
 have z26 := c26.size
 have RD_26 := (Ch.refl (No) w25).and c26
 refine ⟨RD_26, ?_⟩
 refine Hq (Qi κ296 O (fly_plus _ _ _ _ _)) O ?_
 rintro _ w27 ⟨p27, q27, rfl, F27, c27⟩
 have z27 := c27.size
 have RD_27 := RD_26.and c27
 refine ⟨RD_27, ?_⟩
 refine Hq (Qi κ80 O (cplx_MinusI _ _ _)) O ?_
 rintro _ w28 ⟨p28, q28, rfl, F28, c28⟩
 have z28 := c28.size
 have RD_28 := RD_27.and c28
 refine ⟨RD_28, ?_⟩
 refine Hq (Qi κ296 O (fly_plus _ _ _ _ _)) O ?_
 rintro _ w29 ⟨p29, q29, rfl, F29, c29⟩
 have z29 := c29.size
 have RD_29 := RD_28.and c29
 refine ⟨RD_29, ?_⟩
 refine Hq (Qi κ80 O (cplx_MinusI _ _ _)) O ?_
 rintro _ w30 ⟨p30, q30, rfl, F30, c30⟩
 have z30 := c30.size
 have RD_30 := RD_29.and c30
 refine ⟨RD_30, ?_⟩
 refine Hq (Qi κ296 O (fly_plus _ _ _ _ _)) O ?_
 rintro _ w31 ⟨p31, q31, rfl, F31, c31⟩
 have z31 := c31.size
 have RD_31 := RD_30.and c31
 refine ⟨RD_31, ?_⟩
 refine Hq (Qi κ122 O (cplx_TimesI _ _ _)) O ?_
 rintro _ w32 ⟨p32, q32, rfl, F32, c32⟩
 have z32 := c32.size
 have RD_32 := RD_31.and c32
 refine ⟨RD_32, ?_⟩
 refine Hq (Qi κ296 O (fly_plus _ _ _ _ _)) O ?_
 rintro _ w33 ⟨p33, q33, rfl, F33, c33⟩
 have z33 := c33.size
 have RD_33 := RD_32.and c33
 refine ⟨RD_33, ?_⟩
 refine Hq (Qi κ122 O (cplx_TimesI _ _ _)) O ?_
 rintro _ w34 ⟨p34, q34, rfl, F34, c34⟩
 have z34 := c34.size
 have RD_34 := RD_33.and c34
 refine ⟨RD_34, ?_⟩
 refine Hq (Qi κ296 O (fly_plus _ _ _ _ _)) O ?_
 rintro _ w35 ⟨p35, q35, rfl, F35, c35⟩
 have z35 := c35.size
 have RD_35 := RD_34.and c35
 refine ⟨RD_35, ?_⟩
 refine Ws (Ct O (bld292_0_1_2_3_4w82 O)) O (Cj ?_)
 have b2_35 := b2_25.keep (c26.trans (c27.trans (c28.trans (c29.trans (c30.trans (c31.trans (c32.trans (c33.trans (c34.trans c35)))))))))
 refine Ks (Cl ς292 O O O O b2_35) O ?_
 intro w36 c36 z36 b2_36
 refine Qf (Ca (Qa (Qp (Rl O O isAgg292 ς292 O (b2_36.all' O) (Kx ?_)))))
 have cc_0_36 : Ch No w w36 := (Ch.then (E := No) ((((((((((((((((((((((((((((((((((c1.and c2).and c3).and c4).and c5).and c6).and c7).and c8).and c9).and c10).and c11).and c12).and c13).and c14).and c15).and c16).and c17).and c18).and c19).and c20).and c21).and c22).and c23).and c24).and c25).and c26).and c27).and c28).and c29).and c30).and c31).and c32).and c33).and c34).and c35) c36)
 have CH_36 := cc_0_36
 exact ⟨(_, _), (_, _), (_, _), (_, _), (_, _), O, (by simp only [F4, F5, F7, F8, F10, F11, F12, F13, F15, F16, F17, F18, F19, F20, F21, F22, F23, F24, F26, F27, F28, F29, F30, F31, F32, F33, F34, F35]; rfl), CH_36⟩
theorem fly_Fly3 (p c : Nat) (x y u : CB) (S : Nat → Prop) (w : World) (sl : SlR S w (Ki p) 3 1 ([x, y, u].map cxV)) :
  Calls prog 250 #[.slice (Ki p) 3 c] w (Ret (fun r w' => ∃ (q : Nat) (zs : List CB), r = .tuple #[.slice (Ki q) 3 3, .nilIface] ∧ zs.map cx = flyG ([x, y, u].map cx) ∧ SlR (Is q) w' (Ki q) 3 1 (zs.map cxV) ∧ w.heap.size ≤ q ∧ Ch No w w')) := by
 refine Ku func250 O ntmps250 O (Kb (Ww O O (Ww O O (Wz ?_))))
 refine Kb (Wu O O (Om (Cs υ31 O) O (Ka (Qt (Qe ?_)))))
 refine Qb (Om (Cg O O) O (Ww O O (Ka (Qj O (fun hc1 => ?_) (fun hc1 => ?_)))))
 · omega
 refine Kb (Om (Cg O O) O (Ww O O (Ka (Qj O (fun hc2 => ?_) (fun hc2 => ?_)))))
 ·
  refine Kb (Wu O O (Om (Rn.toArr υ288 O (by omega)) O (Om (Qz isAgg288 ς288 O O (sl.cells _ O)) O (Oq (Qi call278 O (fly_Three _ _ _ _)) O ?_))))
  rintro _ w1 ⟨u1, v1, x1, rfl, F1, c1⟩
  have z1 := c1.size
  refine Km (Ck ζ288) O ?_
  intro p2 w2 b5 c2 e2 z2
  refine Ks (Cl ς288 O O O O b5) O ?_
  intro w3 c3 z3 b5_3
  refine Wy (Om (Rn.sliceAll υ288 ς33 O (by decide)) O (Ww O O (Ww O O (Qf ?_))))
  refine Qa (Qp (Cb (Qw (Ra O O O (Kx ?_)))))
  have cc_0_3 : Ch No w w3 := (Ch.then (E := No) (c1.and c2) c3)
  have CH_3 := cc_0_3
  have zz := CH_3.size
  exact ⟨_, [u1, v1, x1], O, by rw [show List.map cx [u1, v1, x1] = [cx u1, cx v1, cx x1] from O, F1]; rfl, ⟨O, fun _ => ⟨_, O⟩, fun ad h => (by injection h with h; subst h; exact (b5_3).all' O), fun ad h => (by injection h with h; subst h; rfl)⟩, by omega, CH_3⟩
 omega
theorem fly_Fly5 (p c : Nat) (x y u v z : CB) (S : Nat → Prop) (w : World) (sl : SlR S w (Ki p) 5 1 ([x, y, u, v, z].map cxV)) :
  Calls prog 250 #[.slice (Ki p) 5 c] w (Ret (fun r w' => ∃ (q : Nat) (zs : List CB), r = .tuple #[.slice (Ki q) 5 5, .nilIface] ∧ zs.map cx = flyG ([x, y, u, v, z].map cx) ∧ SlR (Is q) w' (Ki q) 5 1 (zs.map cxV) ∧ w.heap.size ≤ q ∧ Ch No w w')) := by
 refine Ku func250 O ntmps250 O (Kb (Ww O O (Ww O O (Wz ?_))))
 refine Kb (Wu O O (Om (Cs υ31 O) O (Ka (Qt (Qe ?_)))))
 refine Qb (Om (Cg O O) O (Ww O O (Ka (Qj O (fun hc1 => ?_) (fun hc1 => ?_)))))
 · omega
 refine Kb (Om (Cg O O) O (Ww O O (Ka (Qj O (fun hc2 => ?_) (fun hc2 => ?_)))))
 · omega
 refine Kb (Om (Cg O O) O (Ww O O (Ka (Qj O (fun hc3 => ?_) (fun hc3 => ?_)))))
 · omega
 refine Kb (Om (Cg O O) O (Ww O O (Ka (Qj O (fun hc4 => ?_) (fun hc4 => ?_)))))
 ·
  refine Kb (Wu O O (Om (Rn.toArr υ292 O (by omega)) O (Om (Qz isAgg292 ς292 O O (sl.cells _ O)) O (Oq (Qi call280 O (fly_Five _ _ _ _ _ _)) O ?_))))
  rintro _ w1 ⟨u1, v1, x1, y1, z_1, rfl, F1, c1⟩
  have z1 := c1.size
  refine Km (Ck ζ292) O ?_
  intro p2 w2 b7 c2 e2 z2
  refine Ks (Cl ς292 O O O O b7) O ?_
  intro w3 c3 z3 b7_3
  refine Wy (Om (Rn.sliceAll υ292 ς33 O (by decide)) O (Ww O O (Ww O O (Qf ?_))))
  refine Qa (Qp (Cb (Qw (Ra O O O (Kx ?_)))))
  have cc_0_3 : Ch No w w3 := (Ch.then (E := No) (c1.and c2) c3)
  have CH_3 := cc_0_3
  have zz := CH_3.size
  exact ⟨_, [u1, v1, x1, y1, z_1], O, by rw [show List.map cx [u1, v1, x1, y1, z_1] = [cx u1, cx v1, cx x1, cx y1, cx z_1] from O, F1]; rfl, ⟨O, fun _ => ⟨_, O⟩, fun ad h => (by injection h with h; subst h; exact (b7_3).all' O), fun ad h => (by injection h with h; subst h; rfl)⟩, by omega, CH_3⟩
 omega
theorem fly_FlyG (p c : Nat) (zs : List CB) (n : Nat) (h2 : 2 ≤ n) (h5 : n ≤ 5) (S : Nat → Prop) (w : World) (sl : SlR S w (some ⟨p, 0, none⟩) n 1 (zs.map cxV)) : Calls prog 250 #[.slice (some ⟨p, 0, none⟩) n c] w (Ret fun r w' => ∃ (q : Nat) (ys : List CB), r = .tuple #[.slice (some ⟨q, 0, none⟩) n n, .nilIface] ∧ ys.map cx = flyG (zs.map cx) ∧ SlR (Is q) w' (some ⟨q, 0, none⟩) n 1 (ys.map cxV) ∧ w.heap.size ≤ q ∧ Ch No w w') := by
 have hl : zs.length = n := by have := sl.len; simpa using this
 match n, h2, h5 with
 | 2, _, _ => match zs, hl with
  | [x, y], _ => exact fly_Fly2 p c x y S w sl
 | 3, _, _ => match zs, hl with
  | [x, y, u], _ => exact fly_Fly3 p c x y u S w sl
 | 4, _, _ => match zs, hl with
  | [x, y, u, v], _ => exact fly_Fly4 p c x y u v S w sl
 | 5, _, _ => match zs, hl with
  | [x, y, u, v, z], _ => exact fly_Fly5 p c x y u v z S w sl
theorem roots_AllG (n : Nat) (hn : 1 ≤ n) (hn2 : n ≤ 16384) (w : World) :
  Calls prog 298 #[Kg n] w (Ret (fun v w' => ∃ q rs, v = .tuple #[.slice (Ki q) n n, .nilIface] ∧ w.heap.size ≤ q ∧ CR 33 w' (q + 1) (Ki q) n n rs ∧ RootsG n rs ∧ Ch No w w')) := by
 refine Ku func298 O ntmps298 O (Kb (Ww O O (Ww O O (Wz ?_))))
 refine Kb (Wu O O (Om (Co O O) O (Wu O O ?_)))
 refine Cz (b := _) 3 8 11 O (fun hc1 Jhc1 => by
   refine Oy O (Oy O (Om (Qr O O) O ?_))
   exact (Qo O (Qo O Jhc1))) (fun hc1 Jhc1 => by
   try simp only [bX] at hc1
   refine Wu O O (Om (Rb O O) O (Om (Qm O O) O ?_))
   exact (Qo O (Qo O Jhc1))) ?_
 refine Ka (Cq O (fun hc2 => ?_) (fun hc2 => ?_))
 ·
  try simp only [bX] at hc2
  omega
 try simp only [bX] at hc2
 refine Qn (Qa (Kb (Wu O O (Oq (Wn υ31 inf33w82 O O (by omega) (by omega) (by omega)) O ?_))))
 rintro _ w1 ⟨p1, rfl, o1, c1, e1, z1⟩
 refine Ww O O (Wz (Kb (Wu O O (Om (Cs υ31 O) O ?_))))
 refine Wu O O (Ka (Qt ?_))
 have CH_1 := c1
 refine Kf (σ := Nat × List CB) (fun (j, rs) => [(0, Kg n), (4, .slice (Ki p1) n n), (16, Kg n), (17, Kg j)]) (fun (j, rs) w' => j ≤ n ∧ (∀ i, i < j → cx (rs.getD i (0, 0)) = rootF n i) ∧ w1.heap.size ≤ w'.heap.size ∧ CR 33 w' (p1 + 1) (Ki p1) n n rs ∧ Ch (No) w w') (fun (j, rs) => n - j) (0, List.replicate n (0, 0)) ?_ ?_
 · exact ⟨(by omega), (fun i h => absurd h (by omega)), (Nat.le_refl _), o1, CH_1⟩
 rintro ⟨j, rs⟩ w2 ⟨hj, hr, hsz2, row_2, CH_2⟩
 have hrl := CR.len row_2
 have hjm : j < n → (j : Int) % (n : Int) = (j : Int) := fun h => Int.emod_eq_of_lt (by omega) (by omega)
 refine Kb (Om (Co O O) O (Wz (Qj O (fun hc3 => ?_) (fun hc3 => ?_))))
 ·
  refine Qn (Qa (Qe (Qt (Kb (Wu O O (Ww O O ?_))))))
  refine Ka (Qb (Wu O O (Wu O O (Wu O O (Wu O O (Oq (Qi call46 O (roots_RootG _ _ j (by omega) (by omega) ⟨by omega, by omega⟩ (hjm (by omega)) _)) O ?_))))))
  rintro _ w3 ⟨x3, y3, rfl, F3, c3⟩
  have z3 := c3.size
  refine Wu O O (Om (Qu O O) O (Om (Qu O O) O ?_))
  have row_3 := row_2.keep c3
  refine Om (Qs υ31 ς33 O O (row_3.sl.ne (by omega))) O (Oz (Rj ς33 O O (by omega) row_3) O ?_)
  rintro _ w4 ⟨o4, c4, z4⟩
  have y4 := o4.lt
  refine Qf (Ql (Qa (Qb ?_)))
  refine Om (Cd O O) O ?_
  refine Wu O O (Qf ?_)
  refine Ke (j + 1, rs.set j (x3, y3)) ?_
  have CH_3 := CH_2.and c3
  have CH_4 : Ch (No) w w4 := CH_3.then c4
  exact ⟨(by omega), (roots_step hr (by omega) F3), (by omega), o4, CH_4⟩
 refine Cn (Qk (Qk (Qy (Qa (Kb (Wu O O ?_))))))
 refine Ww O O (Ww O O (Ka (Qp (Ra O O O (Kx ?_)))))
 have e : j = n := by omega
 subst e
 exact ⟨_, _, O, by omega, row_2, hr, CH_2⟩
theorem direct_tableG (n : Nat) (hn : 1 ≤ n) (hn2 : n ≤ 64) (w : World) :
  Calls prog 281 #[Kg n] w (Ret (fun v w' => ∃ q rs, v = .tuple #[.slice (Ki q) n n, .nilIface] ∧ w.heap.size ≤ q ∧ CR 33 w' (q + 1) (Ki q) n n rs ∧ RootsG n rs ∧ Ch No w w')) := by
 refine Ku func281 O ntmps281 O (Kb (Ww O O (Ww O O (Wz ?_))))
 refine Kb (Wu O O (Om (Co O O) O (Wu O O ?_)))
 refine Cz (b := _) 3 6 9 O (fun hc1 Jhc1 => by
   refine Oy O (Oy O (Om (Qr O O) O ?_))
   exact (Qo O (Qo O Jhc1))) (fun hc1 Jhc1 => by
   try simp only [bX] at hc1
   refine Wu O O (Om (Rb O O) O (Om (Qm O O) O ?_))
   exact (Qo O (Qo O Jhc1))) ?_
 refine Ka (Cq O (fun hc2 => ?_) (fun hc2 => ?_))
 ·
  try simp only [bX] at hc2
  omega
 try simp only [bX] at hc2
 refine Qn (Qa (Kb (Wu O O (Oq (Qi call298 O (roots_AllG _ (by omega) (by omega) _)) O ?_))))
 rintro _ w1 ⟨q1, rs1, rfl, e1, ro1, hrs1, c1⟩
 have z1 := c1.size
 refine Om (Qu O O) O (Om (Qu O O) O (Ww O O (Ww O O (Ka (Qp (Ra O O O ?_))))))
 refine Kx ?_
 have CH_1 := c1
 exact ⟨_, _, O, by omega, ro1, hrs1, CH_1⟩
theorem direct_sumG (S : Nat → Prop) (w : World) (p5 p6 p7 : Nat) (A : Option Addr) (l c : Nat) (xs : List CB) (u v : Nat) (hl : l ≤ 1000000) (hu : u ≤ 1000000) (at_ : AtR S w p5 p6 p7 A l c xs u v) (n k : Nat) (hn : 1 ≤ n) (hn2 : n ≤ 64) (hk : k < n) (hb : ∀ j, j < n → u + j * v < l) (q : Nat) (rs : List CB) (ro : CR 33 w (q + 1) (Ki q) n n rs) (hrs : RootsG n rs) :
  Calls prog 282 #[.slice (Ki q) n n, Kg k, .func (.func 283) #[] #[Kh p5, Kh p6, Kh p7]] w (Ret (fun r w' => ∃ a b, r = .complex .f64 a b ∧ cx (a, b) = directG n k (XX xs u v) ∧ Ch No w w')) := by
 have hke : (((k : Int) % (n : Int) + (n : Int)) % (n : Int)) = (k : Int) := by rw [Int.add_emod_right, Int.emod_emod]; exact Int.emod_eq_of_lt (by omega) (by omega)
 have h1 := Int.emod_nonneg (k : Int) (show (n : Int) ≠ 0 by omega)
 have h2 := Int.emod_lt_of_pos (k : Int) (show (0 : Int) < n by omega)
 refine Ku func282 O ntmps282 O (Kb (Ww O O (Wy ?_)))
 refine Wu O O (Om (Cs υ31 O) O (Ww O O (Wy (Wu O O ?_))))
 refine Wu O O (Om (Rq O O) O (Wu O O ?_))
 refine Om (Cd O O) O ?_
 refine Wu O O (Om (Rq O O) O (Ww O O (Wy (Wu O O ?_))))
 refine Oq (Wk.callv call283 O O (by rfl) (direct_At1 _ _ _ _ _ _ _ _ _ _ _ hl hu at_ 0 (by omega) (hb 0 (by omega)))) O ?_
 rintro _ _ ⟨rfl, rfl⟩
 refine Ww O O (Wz (Kb (Ww O O (Qf ?_))))
 refine Qa (Qt (Kf (σ := Nat × Nat × Nat) (fun (j, a, b) => [(0, .slice (Ki q) n n), (1, Kg (((k : Int) % (n : Int) + (n : Int)) % (n : Int))), (2, .func (.func 283) #[] #[Kh p5, Kh p6, Kh p7]), (7, Kg n), (8, .complex .f64 a b), (9, Kg j)]) (fun (j, a, b) w' => (1 ≤ j ∧ j ≤ n) ∧ cx (a, b) = sumG n k (XX xs u v) (j - 1) ∧ w.heap.size ≤ w'.heap.size ∧ AtR S w' p5 p6 p7 A l c xs u v ∧ CR 33 w' (q + 1) (Ki q) n n rs ∧ Ch (No) w w') (fun (j, a, b) => n - j) (1, _, _) ?_ ?_))
 · exact ⟨⟨by omega, by omega⟩, (by rfl), (Nat.le_refl _), at_, ro, (Ch.refl (No) w)⟩
 rintro ⟨j, a, b⟩ w1 ⟨hj, hs, hsz1, at__1, ro_1, CH_1⟩
 have hjk : (j : Int) * (((k : Int) % (n : Int) + (n : Int)) % (n : Int)) = ((j * k : Nat) : Int) := by rw [hke]; push_cast; rfl
 have hjk2 : j * k ≤ 64 * 64 := Nat.mul_le_mul (by omega) (by omega)
 have he : (j : Int) * (((k : Int) % (n : Int) + (n : Int)) % (n : Int)) % (n : Int) = ((j * k % n : Nat) : Int) := by rw [hjk]; norm_cast
 have hlt := Nat.mod_lt (j * k) (show 0 < n by omega)
 refine Qe (Kb (Wu O O (Wu O O (Om (Co O O) O (Ka ?_)))))
 refine Qj O (fun hc1 => ?_) (fun hc1 => ?_)
 ·
  refine Qn (Qa (Qe (Qt (Kb (Wu O O (Wu O O ?_))))))
  refine Oq (Wk.callv call283 O O (by rfl) (direct_At1 _ _ _ _ _ _ _ _ _ _ _ hl hu at__1 j (by omega) (hb j (by omega)))) O ?_
  rintro _ _ ⟨rfl, rfl⟩
  refine Ww O O (Wz (Kb (Wu O O (Wu O O ?_))))
  refine Om (Cy O O) O ?_
  refine Wu O O (Om (Rq O O) O (Ww O O (Wy (Wu O O ?_))))
  refine Om (Wd O O) O (Ka (Qj O (fun hc2 => ?_) (fun hc2 => ?_)))
  ·
   refine Qb (Wu O O (Wu O O (Wu O O (Om (Qs υ31 ς33 O O (ro_1.sl.ne (by omega))) O (Om (Qg ι33 O (ro_1.sl.getC (by omega) (by omega))) O (Oq (Qi κ48 O (cplx_Mul _ _ _ _ _)) O ?_))))))
   rintro _ w2 ⟨p2, q2, rfl, F2, c2⟩
   have z2 := c2.size
   refine Ww O O (Ka (Qb (Wu O O (Om (Rh O) O (Wu O O (Om (Rh O) O ?_))))))
   refine Oq (Cw (.inl O) O O) O ?_
   rintro _ w3 ⟨r3, rfl, f3, c3⟩
   have z3 := c3.size
   refine Wu O O (Om (Ri O) O (Wu O O (Om (Ri O) O (Oq (Cw (.inl O) O O) O ?_))))
   rintro _ w4 ⟨r4, rfl, f4, c4⟩
   have z4 := c4.size
   refine Om (Rf O O) O (Ww O O (Qf (Ql (Qa (Qb (Wu O O ?_))))))
   refine Om (Cd O O) O ?_
   refine Ww O O (Qf ?_)
   refine Ke (j + 1, _, _) ?_
   have at__4 := at__1.keep (c2.trans (c3.trans c4))
   have ro_4 := ro_1.keep (c2.trans (c3.trans c4))
   have CH_4 := CH_1.and (c2.trans (c3.trans c4))
   exact ⟨⟨by omega, by omega⟩, sumG_next hj.1 hs f3 f4 (by rw [if_neg (by omega), F2, show ((j : Int) * (((k : Int) % (n : Int) + (n : Int)) % (n : Int)) % (n : Int)).toNat = j * k % n by omega, hrs _ hlt]), by omega, at__4, ro_4, CH_4⟩
  refine Qn (Qa (Qb (Wu O O (Om (Rh O) O (Wu O O (Om (Rh O) O (Oq (Cw (.inl O) O O) O ?_)))))))
  rintro _ w5 ⟨r5, rfl, f5, c5⟩
  have z5 := c5.size
  refine Wu O O (Om (Ri O) O (Wu O O (Om (Ri O) O (Oq (Cw (.inl O) O O) O ?_))))
  rintro _ w6 ⟨r6, rfl, f6, c6⟩
  have z6 := c6.size
  refine Om (Rf O O) O (Ww O O (Qf (Ql (Qa (Qb (Wu O O ?_))))))
  refine Om (Cd O O) O ?_
  refine Ww O O (Qf ?_)
  refine Ke (j + 1, _, _) ?_
  have at__6 := at__1.keep (c5.trans c6)
  have ro_6 := ro_1.keep (c5.trans c6)
  have CH_6 := CH_1.and (c5.trans c6)
  exact ⟨⟨by omega, by omega⟩, sumG_next hj.1 hs f5 f6 (by rw [if_pos (by omega)]), by omega, at__6, ro_6, CH_6⟩
 refine Cn (Qk (Qk (Qy (Qa (Kb (Wu O O ?_))))))
 refine Ww O O (Ka (Qp (Qx O O (Kx ?_))))
 have e : j = n := by omega
 subst e
 exact ⟨_, _, O, hs, CH_1⟩
theorem direct_AtG (S : Nat → Prop) (w : World) (A : Option Addr) (l c : Nat) (xs : List CB) (u v : Nat) (hl : l ≤ 1000000) (hu : u ≤ 1000000) (sl : SlR S w A l 1 (xs.map cxV)) (n k : Nat) (hn : 1 ≤ n) (hn2 : n ≤ 64) (hk : k < n) (hv : 1 ≤ v) (hv2 : v ≤ 1000000) (hb : ∀ j, j < n → u + j * v < l) :
  Calls prog 251 #[.slice A l c, Kg u, Kg v, Kg n, Kg k] w (Ret (fun r w' => ∃ a b, r = .tuple #[.complex .f64 a b, .nilIface] ∧ cx (a, b) = directG n k (XX xs u v) ∧ Ch No w w')) := by
 have hb0 := hb 0 (by omega); rw [Nat.zero_mul] at hb0
 have hq : 1 < n → (v : Int) ≤ ((l : Int) - 1 - u) / ((n : Int) - 1) := fun h => by
  have h9 := hb (n - 1) (by omega)
  have h8 : (((n - 1) * v : Nat) : Int) = (v : Int) * ((n : Int) - 1) := by rw [Nat.mul_comm]; push_cast [show 1 ≤ n by omega]; rfl
  exact Int.le_ediv_of_mul_le (by omega) (by omega)
 refine Ku func251 O ntmps251 O (Kb (Km (Cp O) O ?_))
 intro p1 w1 b5 c1 e1 z1
 refine Km (Cp O) O ?_
 intro p2 w2 b6 c2 e2 z2
 refine Km (Cp O) O ?_
 intro p3 w3 b7 c3 e3 z3
 refine Ww O O (Ww O O (Wy (Wu O O (Oq (Qi call281 O (direct_tableG _ (by omega) (by omega) _)) O ?_))))
 rintro _ w4 ⟨q4, rs4, rfl, e4, ro4, hrs4, c4⟩
 have hrs := hrs4
 have z4 := c4.size
 refine Wu O O (Om (Qu O O) O (Om (Qu O O) O (Ww O O (Ww O O (Wz ?_)))))
 refine Kb (Wu O O (Om (Cr υ28 O) O (Ka (Cc O (Qn ?_)))))
 refine Qa (Qe (Qe (Kj 28 [0, 2, 4, 6, 8, 10, 12, 14, 16, 18, 20, 22, 24, 26, 28, 30, 32, 34, 36, 38, 40, 42, 44, 46, 48, 50, 52, 54] (No) ?_)))
 intro w5 c5 z5
 have sl_5 := sl.keep (c1.trans (c2.trans (c3.trans (c4.trans c5))))
 have b5_5 := b5.keep (c2.trans (c3.trans (c4.trans c5)))
 have b6_5 := b6.keep (c3.trans (c4.trans c5))
 have b7_5 := b7.keep (c4.trans c5)
 have ro_5 := ro4.keep c5
 refine Wt (fun hS => Qg ι3 O ((b6_5.keep hS).cell O)) O (Ws (Co O O) O (Wv O O (Wq 24 O (fun hc1 => ?_) (fun hc1 => ?_))))
 · omega
 refine Wt (fun hS => Qg ι3 O ((b6_5.keep hS).cell O)) O (Wt (fun hS => Qg ι31 O ((b5_5.keep hS).cell O)) O (Ws (Cs υ31 O) O (Ws (Ry O O) O (Ws (Qm O O) O (Wv O O (Wq 30 O (fun hc2 => ?_) (fun hc2 => ?_)))))))
 · omega
 refine Wt (fun hS => Qg ι3 O ((b7_5.keep hS).cell O)) O (Ws (Co O O) O (Ws (Qm O O) O (Wv O O (Wq 34 O (fun hc3 => ?_) (fun hc3 => ?_)))))
 · omega
 refine Wv O O (Ws (Rb O O) O (Wv O O (Wq 37 O (fun hc4 => ?_) (fun hc4 => ?_))))
 ·
  have hq9 := hq (by omega)
  refine Wt (fun hS => Qg ι3 O ((b7_5.keep hS).cell O)) O (Wt (fun hS => Qg ι31 O ((b5_5.keep hS).cell O)) O (Ws (Cs υ31 O) O ?_))
  refine Ws (Rg O O) O ?_
  refine Wt (fun hS => Qg ι3 O ((b6_5.keep hS).cell O)) O ?_
  refine Ws (Rg O O) O ?_
  refine Wv O O ?_
  refine Ws (Rg O O) O ?_
  refine Ws (Wc O O (by omega) (by omega) (by omega)) O (Ws (Rb O O) O (Ws (Qr O O) O (Ws (Qm O O) O (Cj (Qf (Ca (Qa ?_)))))))
  refine Qj O (fun hc5 => ?_) (fun hc5 => ?_)
  · omega
  refine Qn (Qa (Qe ?_))
  have at9 := AtR.mk b5_5 b6_5 b7_5 sl_5
  refine Qb (Wu O O (Wu O O (Om (Rn.func O O) O (Oq (Qi call282 O (direct_sumG _ _ _ _ _ _ _ _ _ _ _ hl hu at9 _ _ hn hn2 hk hb _ _ ro_5 hrs)) O ?_))))
  rintro _ w6 ⟨p6, q6, rfl, F6, c6⟩
  have z6 := c6.size
  refine Ww O O (Ww O O (Ka (Qp (Ra O O O (Kx ?_)))))
  have CH_6 := (c1.trans (c2.trans (c3.trans (c4.trans (c5.trans c6)))))
  exact ⟨_, _, O, F6, CH_6⟩
 refine Hy O (Hy O (Hy O (Hy O (Hy O (Hy O (Hy O (Hy O ?_)))))))
 refine Hy O (Hy O (Ws (Qm O O) O (Ws (Qm O O) O (Cj (Qf (Ca (Qa ?_)))))))
 refine Cc O (Qn (Qa (Qe ?_)))
 have at9 := AtR.mk b5_5 b6_5 b7_5 sl_5
 refine Qb (Wu O O (Wu O O (Om (Rn.func O O) O (Oq (Qi call282 O (direct_sumG _ _ _ _ _ _ _ _ _ _ _ hl hu at9 _ _ hn hn2 hk hb _ _ ro_5 hrs)) O ?_))))
 rintro _ w7 ⟨p7, q7, rfl, F7, c7⟩
 have z7 := c7.size
 refine Ww O O (Ww O O (Ka (Qp (Ra O O O (Kx ?_)))))
 have CH_7 := (c1.trans (c2.trans (c3.trans (c4.trans (c5.trans c7)))))
 exact ⟨_, _, O, F7, CH_7⟩
theorem chirp_mod (a n : Nat) (hn : 0 < n) (ha : a ≤ 1000000000000) (hn2 : n ≤ 1000000000000) (w : World) :
  Calls prog 284 #[Kg a, Kg n] w (Ret (fun v w' => v = Kg ((a % n : Nat) : Int) ∧ w = w')) := by
 have h1 := Int.emod_nonneg (a : Int) (show (n : Int) ≠ 0 by omega)
 have h2 := Int.emod_lt_of_pos (a : Int) (show (0 : Int) < n by omega)
 refine Ku func284 O ntmps284 O (Kb (Ww O O (Wy ?_)))
 refine Wu O O (Wu O O (Om (Rq O O) O (Wu O O ?_)))
 refine Om (Cd O O) O ?_
 refine Wu O O (Om (Rq O O) O (Ww O O (Ka (Qp (Qx O O (Kx ?_))))))
 exact ⟨by rw [Int.add_emod_right, Int.emod_emod]; rfl, O⟩
theorem chirp_At (n j : Nat) (hn : 1 ≤ n) (hn2 : n ≤ 16384) (hj : j ≤ 1000000) (w : World) :
  Calls prog 252 #[Kg n, Kg j] w (Ret (fun v w' => ∃ x y, v = .tuple #[.complex .f64 x y, .nilIface] ∧ cx (x, y) = chirpF n j ∧ Ch No w w')) := by
 have hlt := Nat.mod_lt j (show 0 < 2 * n by omega)
 have hsq : j % (2 * n) * (j % (2 * n)) ≤ 32768 * 32768 := Nat.mul_le_mul (by omega) (by omega)
 have hsq2 : (((j % (2 * n) : Nat) : Int)) * (((j % (2 * n) : Nat) : Int)) = ((j % (2 * n) * (j % (2 * n)) : Nat) : Int) := by push_cast; rfl
 have hq9 : (((j % (2 * n) : Nat) : Int)) * (((j % (2 * n) : Nat) : Int)) % ((2 * n : Nat) : Int) = ((j % (2 * n) * (j % (2 * n)) % (2 * n) : Nat) : Int) := by rw [hsq2]; norm_cast
 refine Ku func252 O ntmps252 O (Kb (Ww O O (Ww O O (Wz ?_))))
 refine Kb (Wu O O (Om (Co O O) O (Wu O O ?_)))
 refine Cz (b := _) 3 9 12 O (fun hc1 Jhc1 => by
   refine Oy O (Oy O (Om (Qr O O) O ?_))
   exact (Qo O (Qo O Jhc1))) (fun hc1 Jhc1 => by
   try simp only [bX] at hc1
   refine Wu O O (Om (Rb O O) O (Om (Qm O O) O ?_))
   exact (Qo O (Qo O Jhc1))) ?_
 refine Ka (Cq O (fun hc2 => ?_) (fun hc2 => ?_))
 ·
  try simp only [bX] at hc2
  omega
 try simp only [bX] at hc2
 refine Qn (Qa (Kb (Wu O O (Wu O O ?_))))
 refine Om (Cy O O) O ?_
 refine Oq (Qi call284 O (chirp_mod j (2 * n) (by omega) (by omega) (by omega) _)) O ?_
 rintro _ _ ⟨rfl, rfl⟩
 refine Ww O O (Wy (Wu O O ?_))
 refine Om (Cy O O) O ?_
 refine Wu O O (Wu O O ?_)
 refine Om (Cy O O) O ?_
 refine Oq (Qi call46 O (roots_RootG (2 * n) _ (j % (2 * n) * (j % (2 * n)) % (2 * n)) (by omega) (by omega) ⟨by omega, by omega⟩ hq9 _)) O ?_
 rintro _ w1 ⟨x1, y1, rfl, F1, c1⟩
 have z1 := c1.size
 refine Om (Qu O O) O (Om (Qu O O) O (Ww O O (Ww O O (Ka (Qp (Ra O O O ?_))))))
 refine Kx ?_
 have CH_1 := c1
 exact ⟨_, _, O, F1, CH_1⟩
theorem chirp_Other (n m : Nat) (hn : 1 ≤ n) (hm : 2 * n ≤ m + 1) (hm2 : m ≤ 16384) (w : World) :
  Calls prog 285 #[Kg n, Kg m] w (Ret (fun v w' => ∃ q zs, v = .tuple #[.slice (Ki q) m m, .nilIface] ∧ CR 33 w' (q + 1) (Ki q) m m zs ∧ zs.map cx = otherL n m ∧ w.heap.size ≤ q ∧ Ch No w w')) := by
 refine Ku func285 O ntmps285 O (Kb (Ww O O (Ww O O (Wz ?_))))
 refine Kb (Wu O O (Om (Co O O) O (Wu O O ?_)))
 refine Cz (b := _) 3 12 15 O (fun hc1 Jhc1 => by
   refine Oy O (Oy O (Om (Qr O O) O ?_))
   exact (Qo O (Qo O Jhc1))) (fun hc1 Jhc1 => by
   try simp only [bX] at hc1
   refine Wu O O (Om (Rb O O) O (Om (Qm O O) O ?_))
   exact (Qo O (Qo O Jhc1))) ?_
 refine Wu O O ?_
 refine Cz (b := _) 4 16 20 O (fun hc2 Jhc2 => by
   refine Oy O (Oy O (Oy O (Om (Qr O O) O ?_)))
   exact (Qo O (Qo O (Qo O Jhc2)))) (fun hc2 Jhc2 => by
   try simp only [bX] at hc2
   refine Wu O O (Wu O O (Om (Rb O O) O (Om (Qm O O) O ?_)))
   exact (Qo O (Qo O (Qo O Jhc2)))) ?_
 refine Wu O O ?_
 refine Cz (b := _) 6 21 27 O (fun hc3 Jhc3 => by
   refine Oy O (Oy O (Oy O (Oy O (Oy O (Om (Qr O O) O ?_)))))
   exact (Qo O (Qo O (Qo O (Qo O (Qo O Jhc3)))))) (fun hc3 Jhc3 => by
   try simp only [bX] at hc3
   refine Wu O O (Wu O O ?_)
   refine Om (Cy O O) O ?_
   refine Om (Rg O O) O ?_
   refine Om (Co O O) O (Om (Qm O O) O ?_)
   exact (Qo O (Qo O (Qo O (Qo O (Qo O Jhc3)))))) ?_
 refine Ka (Cq O (fun hc4 => ?_) (fun hc4 => ?_))
 ·
  try simp only [bX] at hc4
  omega
 try simp only [bX] at hc4
 refine Qn (Qa (Kb (Wu O O (Oq (Wn υ31 inf33w82 O O (by omega) (by omega) (by omega)) O ?_))))
 rintro _ w1 ⟨p1, rfl, o1, c1, e1, z1⟩
 refine Ww O O (Wz (Kb (Wu O O (Wu O O ?_))))
 refine Ka (Qt ?_)
 have CH_1 := c1
 refine Kf (σ := Nat × List CB) (fun (j, zs) => [(0, Kg n), (1, Kg m), (6, .slice (Ki p1) m m), (31, Kg n), (32, Kg j)]) (fun (j, zs) w' => j ≤ n ∧ OthA n m j zs ∧ w1.heap.size ≤ w'.heap.size ∧ CR 33 w' (p1 + 1) (Ki p1) m m zs ∧ Ch (No) w w') (fun (j, zs) => n - j) (0, List.replicate m (0, 0)) ?_ ?_
 · exact ⟨(by omega), (OthA.zero _ _), (Nat.le_refl _), o1, CH_1⟩
 rintro ⟨j, zs⟩ w2 ⟨hj, ho, hsz2, row_2, CH_2⟩
 refine Kb (Om (Co O O) O (Wz (Qj O (fun hc5 => ?_) (fun hc5 => ?_))))
 ·
  refine Qn (Qa (Qe (Qt (Kb (Wu O O (Ww O O ?_))))))
  refine Wy (Wu O O (Wu O O (Oq (Qi call252 O (chirp_At _ _ (by omega) (by omega) (by omega) _)) O ?_)))
  rintro _ w3 ⟨x3, y3, rfl, F3, c3⟩
  have z3 := c3.size
  refine Wu O O (Om (Qu O O) O (Om (Qu O O) O (Ww O O (Ww O O (Wz ?_)))))
  refine Qb (Wu O O (Oq (Qi κ78 O (cplx_Conj _ _ _)) O ?_))
  rintro _ w4 ⟨p4, q4, rfl, F4, c4⟩
  have z4 := c4.size
  refine Ww O O (Wy (Wu O O (Wu O O (Wu O O ?_))))
  have row_4 := row_2.keep (c3.trans c4)
  refine Om (Qs υ31 ς33 O O (row_4.sl.ne (by omega))) O (Oz (Rj ς33 O O (by omega) row_4) O ?_)
  rintro _ w5 ⟨o5, c5, z5⟩
  have y5 := o5.lt
  refine Wy (Wu O O (Om (Rb O O) O (Ka ?_)))
  refine Qj O (fun hc6 => ?_) (fun hc6 => ?_)
  ·
   refine Qb (Wu O O (Wu O O (Wu O O ?_)))
   refine Om (Rg O O) O ?_
   refine Wu O O (Om (Qs υ31 ς33 O O (o5.sl.ne (by omega))) O (Oz (Rj ς33 O O (by omega) o5) O ?_))
   rintro _ w6 ⟨o6, c6, z6⟩
   have y6 := o6.lt
   refine Qf (Ql (Qa (Qb ?_)))
   refine Om (Cd O O) O ?_
   refine Wu O O (Qf ?_)
   refine Ke (j + 1, (zs.set j (p4, q4)).set (m - j) (p4, q4)) ?_
   have row9 := o6; rw [Int.toNat_natCast, show ((m : Int) - (j : Int)).toNat = m - j by omega] at row9
   have CH_4 := CH_2.and (c3.trans c4)
   have CH_5 : Ch (No) w w5 := CH_4.then c5
   have CH_6 : Ch (No) w w6 := CH_5.then c6
   exact ⟨by omega, ho.step (by omega) (by omega) (by rw [F4, F3]), by omega, row9, CH_6⟩
  refine Qn (Ql (Qa (Qb ?_)))
  refine Om (Cd O O) O ?_
  refine Wu O O (Qf ?_)
  refine Ke (j + 1, zs.set j (p4, q4)) ?_
  have CH_4 := CH_2.and (c3.trans c4)
  have CH_5 : Ch (No) w w5 := CH_4.then c5
  exact ⟨by omega, ho.first (by omega) (by omega) (by rw [F4, F3]), by omega, o5, CH_5⟩
 refine Cn (Qk (Qk (Qy (Qa (Kb (Wu O O ?_))))))
 refine Ww O O (Ww O O (Ka (Qp (Ra O O O (Kx ?_)))))
 obtain rfl : j = n := by omega
 exact ⟨_, _, O, row_2, ho.all, by omega, CH_2⟩
end Go.Tm
