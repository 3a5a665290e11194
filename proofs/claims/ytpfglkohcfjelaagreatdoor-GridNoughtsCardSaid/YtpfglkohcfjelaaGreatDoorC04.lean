/- Lemmas of this claim, joined by program. Walks of functions: an order's text. Steps of programs, in plain Lean: what form asks, and acts. Conditions: each lemma names its own. -/
import Derived.Test.YtpfglkohcfjelaaGreatDoorC03
set_option linter.all false
namespace Go.Tm
set_option maxRecDepth 100000
open Go.RowKit Go.Proofs
theorem appendIntZ (Bd r : Nat) (A : Option Addr) (l c : Nat) (cs : List Value) (i : Int) (w : World) (h0 : 0 ≤ i) (h1 : i ≤ 16384) (hown : Ow w r 5 1 A l c cs) (hr : r = 0 ∨ Bd < r) (hB : Bd ≤ w.heap.size) (hl : l + 21 ≤ 1000000) (ht : TabB Bd w) :
    Calls Tryz.prog 171 #[.slice A l c, .int .i64 i, .int .i64 10] w (Ret fun v w' => ∃ r' A' c', v = .slice A' (l + (Lib.itoa i).length) c' ∧ Ow w' r' 5 1 A' (l + (Lib.itoa i).length) c' (cs ++ Lib.byteCells (Lib.itoa i)) ∧ Ch (At r) w w' ∧ (r' = r ∨ w.heap.size < r')) := by
  obtain ⟨u, rfl⟩ := Int.eq_ofNat_of_zero_le h0
  rw [Lib.itoa_nonneg]
  exact appendInt Bd u r A l c cs w (by omega) hown hr hB hl ht
theorem inf5w11 : Inf Tryz.prog 5 (.int .u8 0) 1 1 := ⟨Tryz.t5, Tryz.type5, rfl, rfl, rfl⟩
theorem order_Check (o : Ord) (A : Option Addr) (c : Nat) (lo hi : Nat) (w : World) (kd : RdK (In lo hi) w A o.kids) (hh : hi ≤ w.heap.size) (hg : o.len ≠ 0) :
  Calls Tryz.prog 141 #[ordV o A c] w (Ret (fun v w' => v = .nilIface ∧ Ch No w w')) := by
 refine calls_of_VC (args := [ordV o A c]) Tryz.func141 rfl Tryz.ntmps141 rfl (Qe (Qb (Oq (Cj rfl) rfl ?_)))
 rintro _ w1 ⟨p1, rfl, N1⟩
 have c1 := N1.ch
 have e1 := N1.p; have z1 := N1.size
 have b1 := Bk.new N1
 refine Om (Qd rfl) rfl (Qf (Qa (Qe (Qe (Qb (Om (Qr ι53 ς53 rfl rfl (b1.all' rfl)) rfl ?_))))))
 have kd_1 := kd.keep c1
 refine Oq (Qi κ170 rfl (order_Length o _ _ _ _ _ kd_1 (by omega))) rfl ?_
 rintro _ w2 ⟨rfl, c2⟩
 have z2 := c2.size
 refine Om (Cm rfl rfl) rfl (Qf (Qa (Qj rfl (fun hc1 => ?_) (fun hc1 => ?_))))
 ·
  exact absurd hc1 hg
 ·
  refine Qn (Qa (Qe (Qb (Om (Qd rfl) rfl (Qf (Qa (Qp ?_)))))))
  refine Qy rfl rfl (Ret.mk ?_)
  have CH_2 := (Ch.refl (No) w).and (c1.trans c2)
  exact ⟨rfl, CH_2⟩
set_option maxHeartbeats 1000000 in
theorem order_text (m : Nat) : ∀ (o : Ord) (A : Option Addr) (c : Nat) (lo hi Bd r : Nat) (XA : Option Addr) (l xc : Nat) (cs : List Value) (w : World) (_ : SizeOf.sizeOf o < m) (_ : RdK (In lo hi) w A o.kids) (_ : hi ≤ Bd) (_ : Bd ≤ w.heap.size) (_ : Ow w r 5 1 XA l xc cs) (_ : r = 0 ∨ Bd < r) (_ : TabB Bd w) (_ : okO o) (_ : l + (tx o).length ≤ 900000), Calls Tryz.prog 142 #[.slice XA l xc, ordV o A c] w (Ret (fun v w' => ∃ r' A' c', v = .slice A' (l + (tx o).length) c' ∧ Ow w' r' 5 1 A' (l + (tx o).length) c' (cs ++ Lib.byteCells (tx o)) ∧ Ch (At r) w w' ∧ (r' = r ∨ w.heap.size < r'))) := by
 induction m with
 | zero => intros; omega
 | succ m ih =>
 intro o A c lo hi Bd r XA l xc cs w hs kd hh hB row hr tab hg hle
 refine calls_of_VC (args := [.slice XA l xc, ordV o A c]) Tryz.func142 rfl Tryz.ntmps142 rfl ?_
 have hn := okO_n hg; have hk0 := kids_lt o; have yr := row.lt
 refine Qe (Qb (Oq (Cj rfl) rfl ?_))
 rintro _ w1 ⟨p1, rfl, N1⟩
 have c1 := N1.ch
 have e1 := N1.p; have z1 := N1.size
 have b3 := Bk.new N1
 refine Om (Qd rfl) rfl (Qf (Qa (Qe (Qe (Qb (Om (Qg υ53 rfl ς3 rfl rfl rfl) rfl (Om (Qh ι3 rfl (b3.cell rfl)) rfl ?_)))))))
 refine Qf (Qa (Qw (Qe (Qb (Om (Cm rfl rfl) rfl (Om (Qd rfl) rfl (Qf ?_)))))))
 refine Qa (Qj rfl (fun hc1 => ?_) (fun hc1 => ?_))
 ·
  have htx := tx_one hc1
  rw [htx] at hle
  simp only [List.length_append, List.length_cons, List.length_nil] at hle
  refine Qe (Ci 6 [(0, true), (3, true), (4, true), (1, false), (2, false), (5, false)] (fun w1 w' => Ch (At r) w1 w') mixed (by kernel_rfl) (fun _ _ => Ch.refl _ _) ?_)
  intro w2 D2
  have c2 := Ch.of_drew D2; have z2 := c2.size
  have row_2 := row.keep (c1.trans c2)
  have b3_2 := b3.keep c2
  refine Hm (fun w' hS => Qc rfl) rfl (Hm (fun w' hS => Qg υ53 rfl ς3 rfl rfl rfl) rfl (Hm (fun w' hS => Qh ι3 rfl ((b3_2.to hS).cell rfl)) rfl (Hq (Cy υ172 inf5w11 (by decide) rfl rfl (by rfl) (by decide) (by decide) (by rfl)) rfl ?_)))
  rintro _ w3 ⟨p3, rfl, N3⟩
  have c3 := N3.ch
  have e3 := N3.p; have z3 := N3.size
  have l10 := SlR.of_new (sz := 1) (l := 1) N3 rfl
  have l10o := Ow.of_new (sz := 1) (l := 1) N3 rfl (by decide)
  have RD_3 := (Ch.refl (At r) w2).and c3
  refine ⟨RD_3, ?_⟩
  have row_3 := row_2.keep c3
  refine Hq (Cq (S := _) υ172 inf5w11 rfl (by decide) rfl rfl row_3 l10 (by rfl) (fun h => by simp at h) (by omega) (by simp only [maxLen]; omega)) rfl ?_
  rintro _ w4 ⟨r4, A4, k4, rfl, o4, c4, q4⟩
  have z4 := c4.size
  have y4 := o4.lt
  have RD_4 : Ch (At r) w2 w4 := RD_3.then c4
  refine ⟨RD_4, ?_⟩
  have tab_3 := tab.keep (c1.trans (c2.trans c3))
  have tab_4 := tab_3.to c4
  refine Hq (Qi Tryz.call171 rfl (appendIntZ Bd _ _ _ _ _ o.n _ hn.1 hn.2 o4 (by omega) (by omega) (by omega) tab_4)) rfl ?_
  rintro _ w5 ⟨r5, A5, k5, rfl, o5, c5, q5⟩
  have y5 := o5.lt
  have z5 := c5.size
  have RD_5 : Ch (At r) w2 w5 := RD_4.then c5
  refine ⟨RD_5, ?_⟩
  refine Cn (Om (Qd rfl) rfl (Qf (Qx (Qa (Qp (Cd (Qu ?_)))))))
  refine Qy rfl rfl (Ret.mk ?_)
  have CH_3 := (Ch.refl (At r) w).and (c1.trans (c2.trans c3))
  have CH_4 : Ch (At r) w w4 := CH_3.then c4
  have CH_5 : Ch (At r) w w5 := CH_4.then c5
  refine ⟨r5, A5, k5, slice_cast ?_, o5.cast ?_ (by rw [htx]; simp [flat, Value.cells, Lib.byteCells, Lib.strCells]), CH_5, by omega⟩
  all_goals (rw [htx]; simp [ByteArray.size]; omega)
 ·
  refine Qe (Qb (Om (Cm rfl rfl) rfl (Om (Qd rfl) rfl (Qf (Qa (Qj rfl (fun hc2 => ?_) (fun hc2 => ?_)))))))
  ·
   have htx := tx_two hc1 hc2
   rw [htx] at hle
   simp only [List.length_append, List.length_cons, List.length_nil] at hle
   refine Qe (Ci 6 [(0, true), (3, true), (4, true), (1, false), (2, false), (5, false)] (fun w1 w' => Ch (At r) w1 w') mixed (by kernel_rfl) (fun _ _ => Ch.refl _ _) ?_)
   intro w6 D6
   have c6 := Ch.of_drew D6; have z6 := c6.size
   have row_6 := row.keep (c1.trans c6)
   have b3_6 := b3.keep c6
   refine Hm (fun w' hS => Qc rfl) rfl (Hm (fun w' hS => Qg υ53 rfl ς3 rfl rfl rfl) rfl (Hm (fun w' hS => Qh ι3 rfl ((b3_6.to hS).cell rfl)) rfl (Hq (Cy υ172 inf5w11 (by decide) rfl rfl (by rfl) (by decide) (by decide) (by rfl)) rfl ?_)))
   rintro _ w7 ⟨p7, rfl, N7⟩
   have c7 := N7.ch
   have e7 := N7.p; have z7 := N7.size
   have l18 := SlR.of_new (sz := 1) (l := 1) N7 rfl
   have l18o := Ow.of_new (sz := 1) (l := 1) N7 rfl (by decide)
   have RD_7 := (Ch.refl (At r) w6).and c7
   refine ⟨RD_7, ?_⟩
   have row_7 := row_6.keep c7
   refine Hq (Cq (S := _) υ172 inf5w11 rfl (by decide) rfl rfl row_7 l18 (by rfl) (fun h => by simp at h) (by omega) (by simp only [maxLen]; omega)) rfl ?_
   rintro _ w8 ⟨r8, A8, k8, rfl, o8, c8, q8⟩
   have z8 := c8.size
   have y8 := o8.lt
   have RD_8 : Ch (At r) w6 w8 := RD_7.then c8
   refine ⟨RD_8, ?_⟩
   have tab_7 := tab.keep (c1.trans (c6.trans c7))
   have tab_8 := tab_7.to c8
   refine Hq (Qi Tryz.call171 rfl (appendIntZ Bd _ _ _ _ _ o.n _ hn.1 hn.2 o8 (by omega) (by omega) (by omega) tab_8)) rfl ?_
   rintro _ w9 ⟨r9, A9, k9, rfl, o9, c9, q9⟩
   have y9 := o9.lt
   have z9 := c9.size
   have RD_9 : Ch (At r) w6 w9 := RD_8.then c9
   refine ⟨RD_9, ?_⟩
   refine Cn (Om (Qd rfl) rfl (Qf (Qx (Qa (Qp (Cd (Qu ?_)))))))
   refine Qy rfl rfl (Ret.mk ?_)
   have CH_7 := (Ch.refl (At r) w).and (c1.trans (c6.trans c7))
   have CH_8 : Ch (At r) w w8 := CH_7.then c8
   have CH_9 : Ch (At r) w w9 := CH_8.then c9
   refine ⟨r9, A9, k9, slice_cast ?_, o9.cast ?_ (by rw [htx]; simp [flat, Value.cells, Lib.byteCells, Lib.strCells]), CH_9, by omega⟩
   all_goals (rw [htx]; simp [ByteArray.size]; omega)
  ·
   refine Qe (Qb (Om (Cm rfl rfl) rfl (Om (Qd rfl) rfl (Qf (Qa (Qj rfl (fun hc3 => ?_) (fun hc3 => ?_)))))))
   ·
    obtain ⟨a, b, ha, hb, hab, hga, hgb, htx⟩ := okO_three hg hc3
    rw [htx] at hle
    simp only [List.length_append, List.length_cons, List.length_nil] at hle
    have la := kid_lt ha; have lb := kid_lt hb; have hkl : o.kids.length = 2 := by rw [hab]; rfl
    refine Qe ?_
    have kd_1 := kd.keep c1
    obtain ⟨kA, kc, ka, kr⟩ := kd_1.kid ha
    refine Ci 8 [(0, true), (3, true), (4, true), (5, true), (6, true), (1, false), (2, false), (7, false)] (fun w1 w' => Ch (At r) w1 w') mixed (by kernel_rfl) (fun _ _ => Ch.refl _ _) ?_
    intro w10 D10
    have c10 := Ch.of_drew D10; have z10 := c10.size
    have row_10 := row.keep (c1.trans c10)
    have b3_10 := b3.keep c10
    have ka_10 := ka.keep c10
    refine Hm (fun w' hS => Qc rfl) rfl (Hm (fun w' hS => Qg υ53 rfl ς51 rfl rfl rfl) rfl (Hm (fun w' hS => Qh ι51 rfl ((b3_10.to hS).cell rfl)) rfl ?_))
    have kd_10 := kd_1.keep c10
    refine Hm (fun w' hS => Cb υ51 ς53 rfl rfl (kd_10.ne (by omega)) (by omega) (by omega)) rfl ?_
    refine Hm (fun w' hS => Qr ι53 ς53 rfl rfl (ka_10.to hS).1) rfl ?_
    refine Hq (Cy υ172 inf5w11 (by decide) rfl rfl (by rfl) (by decide) (by decide) (by rfl)) rfl ?_
    rintro _ w11 ⟨p11, rfl, N11⟩
    have c11 := N11.ch
    have e11 := N11.p; have z11 := N11.size
    have l26 := SlR.of_new (sz := 1) (l := 1) N11 rfl
    have l26o := Ow.of_new (sz := 1) (l := 1) N11 rfl (by decide)
    have RD_11 := (Ch.refl (At r) w10).and c11
    refine ⟨RD_11, ?_⟩
    have row_11 := row_10.keep c11
    refine Hq (Cq (S := _) υ172 inf5w11 rfl (by decide) rfl rfl row_11 l26 (by rfl) (fun h => by simp at h) (by omega) (by simp only [maxLen]; omega)) rfl ?_
    rintro _ w12 ⟨r12, A12, k12, rfl, o12, c12, q12⟩
    have z12 := c12.size
    have y12 := o12.lt
    have RD_12 : Ch (At r) w10 w12 := RD_11.then c12
    refine ⟨RD_12, ?_⟩
    have kr_11 := kr.keep (c10.trans c11)
    have kr_12 := kr_11.to c12
    have tab_11 := tab.keep (c1.trans (c10.trans c11))
    have tab_12 := tab_11.to c12
    refine Hq (Qi κ142 rfl (ih a _ _ _ _ Bd _ _ _ _ _ _ (by omega) kr_12 (by omega) (by omega) o12 (by omega) tab_12 hga (by omega))) rfl ?_
    rintro _ w13 ⟨r13, A13, k13, rfl, o13, c13, q13⟩
    have y13 := o13.lt
    have z13 := c13.size
    have RD_13 : Ch (At r) w10 w13 := RD_12.then c13
    refine ⟨RD_13, ?_⟩
    refine Cn (Om (Qd rfl) rfl (Qf (Qx (Qa (Qe ?_)))))
    have kd_11 := kd_10.keep c11
    have kd_12 := kd_11.to c12
    have kd_13 := kd_12.to c13
    obtain ⟨kB, kc2, kb, ks⟩ := kd_13.kid hb
    have hs3 : ByteArray.size { data := #[32, 120, 32] } = 3 := rfl
    refine Ci 7 [(0, true), (2, true), (3, true), (4, true), (5, true), (1, false), (6, false)] (fun w1 w' => Ch (At r13) w1 w') mixed (by kernel_rfl) (fun _ _ => Ch.refl _ _) ?_
    intro w14 D14
    have c14 := Ch.of_drew D14; have z14 := c14.size
    have row_14 := o13.keep c14
    have b3_11 := b3_10.keep c11
    have b3_12 := b3_11.to c12
    have b3_13 := b3_12.to c13
    have b3_14 := b3_13.keep c14
    have ka_11 := ka_10.keep c11
    have ka_12 := ka_11.to c12
    have ka_13 := ka_12.to c13
    have ka_14 := ka_13.keep c14
    have l26o_12 := l26o.to c12
    have l26o_13 := l26o_12.to c13
    have l26o_14 := l26o_13.keep c14
    have kb_14 := kb.keep c14
    refine Hm (fun w' hS => Qc rfl) rfl (Hm (fun w' hS => Qg υ53 rfl ς51 rfl rfl rfl) rfl (Hm (fun w' hS => Qh ι51 rfl ((b3_14.to hS).cell rfl)) rfl ?_))
    have kd_14 := kd_13.keep c14
    refine Hm (fun w' hS => Cb υ51 ς53 rfl rfl (kd_14.ne (by omega)) (by omega) (by omega)) rfl ?_
    refine Hm (fun w' hS => Qr ι53 ς53 rfl rfl (kb_14.to hS).1) rfl ?_
    refine Hq (Wk.appendX υ172 υ9 inf5w11 rfl rfl row_14 (by omega)) rfl ?_
    rintro _ w15 ⟨r15, A15, k15, rfl, o15, c15, q15⟩
    have z15 := c15.size
    have y15 := o15.lt
    have RD_15 : Ch (At r13) w14 w15 := (Ch.refl (At r13) w14).then c15
    refine ⟨RD_15, ?_⟩
    have ks_14 := ks.keep c14
    have ks_15 := ks_14.to c15
    have tab_13 := tab_12.to c13
    have tab_14 := tab_13.keep c14
    have tab_15 := tab_14.to c15
    refine Hq (Qi κ142 rfl (ih b _ _ _ _ Bd _ _ _ _ _ _ (by omega) ks_15 (by omega) (by omega) o15 (by omega) tab_15 hgb (by omega))) rfl ?_
    rintro _ w16 ⟨r16, A16, k16, rfl, o16, c16, q16⟩
    have y16 := o16.lt
    have z16 := c16.size
    have RD_16 : Ch (At r13) w14 w16 := RD_15.then c16
    refine ⟨RD_16, ?_⟩
    refine Cn (Om (Qd rfl) rfl (Qf (Qx (Qa (Qe (Qb (Om (Qc rfl) rfl ?_)))))))
    refine Oq (Cy υ172 inf5w11 (by decide) rfl rfl (by rfl) (by decide) (by decide) (by rfl)) rfl ?_
    rintro _ w17 ⟨p17, rfl, N17⟩
    have c17 := N17.ch
    have e17 := N17.p; have z17 := N17.size
    have l41 := SlR.of_new (sz := 1) (l := 1) N17 rfl
    have l41o := Ow.of_new (sz := 1) (l := 1) N17 rfl (by decide)
    have row_17 := o16.keep c17
    refine Oq (Cq (S := _) υ172 inf5w11 rfl (by decide) rfl rfl row_17 l41 (by rfl) (fun h => by simp at h) (by omega) (by simp only [maxLen]; omega)) rfl ?_
    rintro _ w18 ⟨r18, A18, k18, rfl, o18, c18, q18⟩
    have z18 := c18.size
    have y18 := o18.lt
    refine Om (Qd rfl) rfl (Qf (Qa (Qp (Cd (Qu (Qy rfl rfl (Ret.mk ?_)))))))
    have CH_11 := (Ch.refl (At r) w).and (c1.trans (c10.trans c11))
    have CH_12 : Ch (At r) w w12 := CH_11.then c12
    have CH_13 : Ch (At r) w w13 := CH_12.then c13
    have CH_14 := CH_13.and c14
    have CH_15 : Ch (At r) w w15 := CH_14.then c15
    have CH_16 : Ch (At r) w w16 := CH_15.then c16
    have CH_17 := CH_16.and c17
    have CH_18 : Ch (At r) w w18 := CH_17.then c18
    refine ⟨r18, A18, k18, slice_cast ?_, o18.cast ?_ (by rw [htx]; simp [flat, Value.cells, Lib.byteCells, Lib.strCells]), CH_18, by omega⟩
    all_goals (rw [htx]; simp [ByteArray.size]; omega)
   ·
    obtain ⟨a, ha, hab, hga, htx⟩ := okO_four hg hc1 hc2 hc3
    rw [htx] at hle
    simp only [List.length_append, List.length_cons, List.length_nil] at hle
    have la := kid_lt ha; have hkl : o.kids.length = 1 := by rw [hab]; rfl
    refine Qn (Qo (Qa (Qe (Ci 6 [(0, true), (3, true), (4, true), (1, false), (2, false), (5, false)] (fun w1 w' => Ch (At r) w1 w') mixed (by kernel_rfl) (fun _ _ => Ch.refl _ _) ?_))))
    intro w19 D19
    have c19 := Ch.of_drew D19; have z19 := c19.size
    have row_19 := row.keep (c1.trans c19)
    have b3_19 := b3.keep c19
    refine Hm (fun w' hS => Qc rfl) rfl (Hm (fun w' hS => Qg υ53 rfl ς3 rfl rfl rfl) rfl (Hm (fun w' hS => Qh ι3 rfl ((b3_19.to hS).cell rfl)) rfl (Hq (Cy υ172 inf5w11 (by decide) rfl rfl (by rfl) (by decide) (by decide) (by rfl)) rfl ?_)))
    rintro _ w20 ⟨p20, rfl, N20⟩
    have c20 := N20.ch
    have e20 := N20.p; have z20 := N20.size
    have l44 := SlR.of_new (sz := 1) (l := 1) N20 rfl
    have l44o := Ow.of_new (sz := 1) (l := 1) N20 rfl (by decide)
    have RD_20 := (Ch.refl (At r) w19).and c20
    refine ⟨RD_20, ?_⟩
    have row_20 := row_19.keep c20
    refine Hq (Cq (S := _) υ172 inf5w11 rfl (by decide) rfl rfl row_20 l44 (by rfl) (fun h => by simp at h) (by omega) (by simp only [maxLen]; omega)) rfl ?_
    rintro _ w21 ⟨r21, A21, k21, rfl, o21, c21, q21⟩
    have z21 := c21.size
    have y21 := o21.lt
    have RD_21 : Ch (At r) w19 w21 := RD_20.then c21
    refine ⟨RD_21, ?_⟩
    have tab_20 := tab.keep (c1.trans (c19.trans c20))
    have tab_21 := tab_20.to c21
    refine Hq (Qi Tryz.call171 rfl (appendIntZ Bd _ _ _ _ _ o.n _ hn.1 hn.2 o21 (by omega) (by omega) (by omega) tab_21)) rfl ?_
    rintro _ w22 ⟨r22, A22, k22, rfl, o22, c22, q22⟩
    have y22 := o22.lt
    have z22 := c22.size
    have RD_22 : Ch (At r) w19 w22 := RD_21.then c22
    refine ⟨RD_22, ?_⟩
    refine Cn (Om (Qd rfl) rfl (Qf (Qx (Qa (Qe ?_)))))
    have kd_20 := kd.keep (c1.trans (c19.trans c20))
    have kd_21 := kd_20.to c21
    have kd_22 := kd_21.to c22
    obtain ⟨kA, kc, ka, kr⟩ := kd_22.kid ha
    refine Rz 10 (.mv 0 (.mv 3 (.mv 4 (.mv 5 (.mv 6 (.two 1 (.two 2 (.two 7 (.wk 8 (.wk 9 .nil)) 8 (.wk 7 (.wk 9 .nil))) 8 (.wk 2 (.wk 7 (.wk 9 .nil)))) 8 (.wk 1 (.wk 2 (.wk 7 (.wk 9 .nil)))))))))) (fun w1 w' => Ch (At r22) w1 w') mixed (by kernel_rfl) (fun _ _ => Ch.refl _ _) ?_
    intro w23 D23
    have c23 := Ch.of_drew D23; have z23 := c23.size
    have row_23 := o22.keep c23
    have b3_20 := b3_19.keep c20
    have b3_21 := b3_20.to c21
    have b3_22 := b3_21.to c22
    have b3_23 := b3_22.keep c23
    have l44o_21 := l44o.to c21
    have l44o_22 := l44o_21.to c22
    have l44o_23 := l44o_22.keep c23
    have ka_23 := ka.keep c23
    refine Ct (fun w' hS => Qc rfl) rfl rfl rfl rfl (Ct (fun w' hS => Qg υ53 rfl ς51 rfl rfl rfl) rfl rfl rfl rfl (Ct (fun w' hS => Qh ι51 rfl ((b3_23.to hS).cell rfl)) rfl rfl rfl rfl ?_))
    have kd_23 := kd_22.keep c23
    refine Ct (fun w' hS => Cb υ51 ς53 rfl rfl (kd_23.ne (by omega)) (by omega) (by omega)) rfl rfl rfl rfl ?_
    refine Ct (fun w' hS => Qr ι53 ς53 rfl rfl (ka_23.to hS).1) rfl rfl rfl rfl ?_
    refine Wg ?_ ?_
    ·
     refine Rg (Cy υ172 inf5w11 (by decide) rfl rfl (by rfl) (by decide) (by decide) (by rfl)) rfl rfl rfl rfl ?_
     rintro _ w24 ⟨p24, rfl, N24⟩
     have c24 := N24.ch
     have e24 := N24.p; have z24 := N24.size
     have l50 := SlR.of_new (sz := 1) (l := 1) N24 rfl
     have l50o := Ow.of_new (sz := 1) (l := 1) N24 rfl (by decide)
     have RD_24 := (Ch.refl (At r22) w23).and c24
     refine ⟨RD_24, ?_⟩
     refine Wg ?_ ?_
     ·
      have row_24 := row_23.keep c24
      refine Rg (Cq (S := _) υ172 inf5w11 rfl (by decide) rfl rfl row_24 l50 (by rfl) (fun h => by simp at h) (by omega) (by simp only [maxLen]; omega)) rfl rfl rfl rfl ?_
      rintro _ w25 ⟨r25, A25, k25, rfl, o25, c25, q25⟩
      have z25 := c25.size
      have y25 := o25.lt
      have RD_25 : Ch (At r22) w23 w25 := RD_24.then c25
      refine ⟨RD_25, ?_⟩
      refine Wg ?_ ?_
      ·
       have kr_24 := kr.keep (c23.trans c24)
       have kr_25 := kr_24.to c25
       have tab_22 := tab_21.to c22
       have tab_24 := tab_22.keep (c23.trans c24)
       have tab_25 := tab_24.to c25
       refine Rg (Qi κ142 rfl (ih a _ _ _ _ Bd _ _ _ _ _ _ (by omega) kr_25 (by omega) (by omega) o25 (by omega) tab_25 hga (by omega))) rfl rfl rfl rfl ?_
       rintro _ w26 ⟨r26, A26, k26, rfl, o26, c26, q26⟩
       have y26 := o26.lt
       have z26 := c26.size
       have RD_26 : Ch (At r22) w23 w26 := RD_25.then c26
       refine ⟨RD_26, ?_⟩
       refine Rg (Cy υ172 inf5w11 (by decide) rfl rfl (by rfl) (by decide) (by decide) (by rfl)) rfl rfl rfl rfl ?_
       rintro _ w27 ⟨p27, rfl, N27⟩
       have c27 := N27.ch
       have e27 := N27.p; have z27 := N27.size
       have l57 := SlR.of_new (sz := 1) (l := 1) N27 rfl
       have l57o := Ow.of_new (sz := 1) (l := 1) N27 rfl (by decide)
       have RD_27 := RD_26.and c27
       refine ⟨RD_27, ?_⟩
       have row_27 := o26.keep c27
       refine Rg (Cq (S := _) υ172 inf5w11 rfl (by decide) rfl rfl row_27 l57 (by rfl) (fun h => by simp at h) (by omega) (by simp only [maxLen]; omega)) rfl rfl rfl rfl ?_
       rintro _ w28 ⟨r28, A28, k28, rfl, o28, c28, q28⟩
       have z28 := c28.size
       have y28 := o28.lt
       have RD_28 : Ch (At r22) w23 w28 := RD_27.then c28
       refine ⟨RD_28, ?_⟩
       refine Rj (Om (Qd rfl) rfl (Qf (Qx (Qa (Qp (Qy rfl rfl (Ret.mk ?_)))))))
       have CH_20 := (Ch.refl (At r) w).and (c1.trans (c19.trans c20))
       have CH_21 : Ch (At r) w w21 := CH_20.then c21
       have CH_22 : Ch (At r) w w22 := CH_21.then c22
       have CH_24 := CH_22.and (c23.trans c24)
       have CH_25 : Ch (At r) w w25 := CH_24.then c25
       have CH_26 : Ch (At r) w w26 := CH_25.then c26
       have CH_27 := CH_26.and c27
       have CH_28 : Ch (At r) w w28 := CH_27.then c28
       refine ⟨r28, A28, k28, slice_cast ?_, o28.cast ?_ (by rw [htx]; simp [flat, Value.cells, Lib.byteCells, Lib.strCells]), CH_28, by omega⟩
       all_goals (rw [htx]; simp [ByteArray.size]; omega)
      ·
       refine Rg (Cy υ172 inf5w11 (by decide) rfl rfl (by rfl) (by decide) (by decide) (by rfl)) rfl rfl rfl rfl ?_
       rintro _ w29 ⟨p29, rfl, N29⟩
       have c29 := N29.ch
       have e29 := N29.p; have z29 := N29.size
       have l57 := SlR.of_new (sz := 1) (l := 1) N29 rfl
       have l57o := Ow.of_new (sz := 1) (l := 1) N29 rfl (by decide)
       have RD_29 := RD_25.and c29
       refine ⟨RD_29, ?_⟩
       have kr_24 := kr.keep (c23.trans c24)
       have kr_25 := kr_24.to c25
       have kr_29 := kr_25.keep c29
       have row_29 := o25.keep c29
       have tab_22 := tab_21.to c22
       have tab_24 := tab_22.keep (c23.trans c24)
       have tab_25 := tab_24.to c25
       have tab_29 := tab_25.keep c29
       refine Rg (Qi κ142 rfl (ih a _ _ _ _ Bd _ _ _ _ _ _ (by omega) kr_29 (by omega) (by omega) row_29 (by omega) tab_29 hga (by omega))) rfl rfl rfl rfl ?_
       rintro _ w30 ⟨r30, A30, k30, rfl, o30, c30, q30⟩
       have y30 := o30.lt
       have z30 := c30.size
       have RD_30 : Ch (At r22) w23 w30 := RD_29.then c30
       refine ⟨RD_30, ?_⟩
       have l57_30 := l57.to c30
       refine Rg (Cq (S := _) υ172 inf5w11 rfl (by decide) rfl rfl o30 l57_30 (by rfl) (fun h => by simp at h) (by omega) (by simp only [maxLen]; omega)) rfl rfl rfl rfl ?_
       rintro _ w31 ⟨r31, A31, k31, rfl, o31, c31, q31⟩
       have z31 := c31.size
       have y31 := o31.lt
       have RD_31 : Ch (At r22) w23 w31 := RD_30.then c31
       refine ⟨RD_31, ?_⟩
       refine Rj (Om (Qd rfl) rfl (Qf (Qx (Qa (Qp (Qy rfl rfl (Ret.mk ?_)))))))
       have CH_20 := (Ch.refl (At r) w).and (c1.trans (c19.trans c20))
       have CH_21 : Ch (At r) w w21 := CH_20.then c21
       have CH_22 : Ch (At r) w w22 := CH_21.then c22
       have CH_24 := CH_22.and (c23.trans c24)
       have CH_25 : Ch (At r) w w25 := CH_24.then c25
       have CH_29 := CH_25.and c29
       have CH_30 : Ch (At r) w w30 := CH_29.then c30
       have CH_31 : Ch (At r) w w31 := CH_30.then c31
       refine ⟨r31, A31, k31, slice_cast ?_, o31.cast ?_ (by rw [htx]; simp [flat, Value.cells, Lib.byteCells, Lib.strCells]), CH_31, by omega⟩
       all_goals (rw [htx]; simp [ByteArray.size]; omega)
     ·
      refine Rg (Cy υ172 inf5w11 (by decide) rfl rfl (by rfl) (by decide) (by decide) (by rfl)) rfl rfl rfl rfl ?_
      rintro _ w32 ⟨p32, rfl, N32⟩
      have c32 := N32.ch
      have e32 := N32.p; have z32 := N32.size
      have l57 := SlR.of_new (sz := 1) (l := 1) N32 rfl
      have l57o := Ow.of_new (sz := 1) (l := 1) N32 rfl (by decide)
      have RD_32 := RD_24.and c32
      refine ⟨RD_32, ?_⟩
      have row_32 := row_23.keep (c24.trans c32)
      have l50_32 := l50.keep c32
      refine Rg (Cq (S := _) υ172 inf5w11 rfl (by decide) rfl rfl row_32 l50_32 (by rfl) (fun h => by simp at h) (by omega) (by simp only [maxLen]; omega)) rfl rfl rfl rfl ?_
      rintro _ w33 ⟨r33, A33, k33, rfl, o33, c33, q33⟩
      have z33 := c33.size
      have y33 := o33.lt
      have RD_33 : Ch (At r22) w23 w33 := RD_32.then c33
      refine ⟨RD_33, ?_⟩
      have kr_32 := kr.keep (c23.trans (c24.trans c32))
      have kr_33 := kr_32.to c33
      have tab_22 := tab_21.to c22
      have tab_32 := tab_22.keep (c23.trans (c24.trans c32))
      have tab_33 := tab_32.to c33
      refine Rg (Qi κ142 rfl (ih a _ _ _ _ Bd _ _ _ _ _ _ (by omega) kr_33 (by omega) (by omega) o33 (by omega) tab_33 hga (by omega))) rfl rfl rfl rfl ?_
      rintro _ w34 ⟨r34, A34, k34, rfl, o34, c34, q34⟩
      have y34 := o34.lt
      have z34 := c34.size
      have RD_34 : Ch (At r22) w23 w34 := RD_33.then c34
      refine ⟨RD_34, ?_⟩
      have l57_33 := l57.to c33
      have l57_34 := l57_33.to c34
      refine Rg (Cq (S := _) υ172 inf5w11 rfl (by decide) rfl rfl o34 l57_34 (by rfl) (fun h => by simp at h) (by omega) (by simp only [maxLen]; omega)) rfl rfl rfl rfl ?_
      rintro _ w35 ⟨r35, A35, k35, rfl, o35, c35, q35⟩
      have z35 := c35.size
      have y35 := o35.lt
      have RD_35 : Ch (At r22) w23 w35 := RD_34.then c35
      refine ⟨RD_35, ?_⟩
      refine Rj (Om (Qd rfl) rfl (Qf (Qx (Qa (Qp (Qy rfl rfl (Ret.mk ?_)))))))
      have CH_20 := (Ch.refl (At r) w).and (c1.trans (c19.trans c20))
      have CH_21 : Ch (At r) w w21 := CH_20.then c21
      have CH_22 : Ch (At r) w w22 := CH_21.then c22
      have CH_32 := CH_22.and (c23.trans (c24.trans c32))
      have CH_33 : Ch (At r) w w33 := CH_32.then c33
      have CH_34 : Ch (At r) w w34 := CH_33.then c34
      have CH_35 : Ch (At r) w w35 := CH_34.then c35
      refine ⟨r35, A35, k35, slice_cast ?_, o35.cast ?_ (by rw [htx]; simp [flat, Value.cells, Lib.byteCells, Lib.strCells]), CH_35, by omega⟩
      all_goals (rw [htx]; simp [ByteArray.size]; omega)
    ·
     refine Rg (Cy υ172 inf5w11 (by decide) rfl rfl (by rfl) (by decide) (by decide) (by rfl)) rfl rfl rfl rfl ?_
     rintro _ w36 ⟨p36, rfl, N36⟩
     have c36 := N36.ch
     have e36 := N36.p; have z36 := N36.size
     have l57 := SlR.of_new (sz := 1) (l := 1) N36 rfl
     have l57o := Ow.of_new (sz := 1) (l := 1) N36 rfl (by decide)
     have RD_36 := (Ch.refl (At r22) w23).and c36
     refine ⟨RD_36, ?_⟩
     refine Rg (Cy υ172 inf5w11 (by decide) rfl rfl (by rfl) (by decide) (by decide) (by rfl)) rfl rfl rfl rfl ?_
     rintro _ w37 ⟨p37, rfl, N37⟩
     have c37 := N37.ch
     have e37 := N37.p; have z37 := N37.size
     have l50 := SlR.of_new (sz := 1) (l := 1) N37 rfl
     have l50o := Ow.of_new (sz := 1) (l := 1) N37 rfl (by decide)
     have RD_37 := RD_36.and c37
     refine ⟨RD_37, ?_⟩
     have row_37 := row_23.keep (c36.trans c37)
     refine Rg (Cq (S := _) υ172 inf5w11 rfl (by decide) rfl rfl row_37 l50 (by rfl) (fun h => by simp at h) (by omega) (by simp only [maxLen]; omega)) rfl rfl rfl rfl ?_
     rintro _ w38 ⟨r38, A38, k38, rfl, o38, c38, q38⟩
     have z38 := c38.size
     have y38 := o38.lt
     have RD_38 : Ch (At r22) w23 w38 := RD_37.then c38
     refine ⟨RD_38, ?_⟩
     have kr_37 := kr.keep (c23.trans (c36.trans c37))
     have kr_38 := kr_37.to c38
     have tab_22 := tab_21.to c22
     have tab_37 := tab_22.keep (c23.trans (c36.trans c37))
     have tab_38 := tab_37.to c38
     refine Rg (Qi κ142 rfl (ih a _ _ _ _ Bd _ _ _ _ _ _ (by omega) kr_38 (by omega) (by omega) o38 (by omega) tab_38 hga (by omega))) rfl rfl rfl rfl ?_
     rintro _ w39 ⟨r39, A39, k39, rfl, o39, c39, q39⟩
     have y39 := o39.lt
     have z39 := c39.size
     have RD_39 : Ch (At r22) w23 w39 := RD_38.then c39
     refine ⟨RD_39, ?_⟩
     have l57_37 := l57.keep c37
     have l57_38 := l57_37.to c38
     have l57_39 := l57_38.to c39
     refine Rg (Cq (S := _) υ172 inf5w11 rfl (by decide) rfl rfl o39 l57_39 (by rfl) (fun h => by simp at h) (by omega) (by simp only [maxLen]; omega)) rfl rfl rfl rfl ?_
     rintro _ w40 ⟨r40, A40, k40, rfl, o40, c40, q40⟩
     have z40 := c40.size
     have y40 := o40.lt
     have RD_40 : Ch (At r22) w23 w40 := RD_39.then c40
     refine ⟨RD_40, ?_⟩
     refine Rj (Om (Qd rfl) rfl (Qf (Qx (Qa (Qp (Qy rfl rfl (Ret.mk ?_)))))))
     have CH_20 := (Ch.refl (At r) w).and (c1.trans (c19.trans c20))
     have CH_21 : Ch (At r) w w21 := CH_20.then c21
     have CH_22 : Ch (At r) w w22 := CH_21.then c22
     have CH_37 := CH_22.and (c23.trans (c36.trans c37))
     have CH_38 : Ch (At r) w w38 := CH_37.then c38
     have CH_39 : Ch (At r) w w39 := CH_38.then c39
     have CH_40 : Ch (At r) w w40 := CH_39.then c40
     refine ⟨r40, A40, k40, slice_cast ?_, o40.cast ?_ (by rw [htx]; simp [flat, Value.cells, Lib.byteCells, Lib.strCells]), CH_40, by omega⟩
     all_goals (rw [htx]; simp [ByteArray.size]; omega)
theorem order_Text (o : Ord) (A : Option Addr) (c : Nat) (lo hi : Nat) (w : World) (kd : RdK (In lo hi) w A o.kids) (hh : hi ≤ w.heap.size) (hg : okO o) (hg0 : o.len ≠ 0) (hx : 0 < (tx o).length) (hle : (tx o).length ≤ 900000) (tab : TabB w.heap.size w) :
  Calls Tryz.prog 106 #[ordV o A c] w (Ret (fun v w' => v = .tuple #[.string ⟨(tx o).toArray⟩, .nilIface] ∧ Ch No w w')) := by
 refine calls_of_VC (args := [ordV o A c]) Tryz.func106 rfl Tryz.ntmps106 rfl (Qe (Qb (Oq (Cj rfl) rfl ?_)))
 rintro _ w1 ⟨p1, rfl, N1⟩
 have c1 := N1.ch
 have e1 := N1.p; have z1 := N1.size
 have b1 := Bk.new N1
 refine Om (Qd rfl) rfl (Om (Qd rfl) rfl (Qf (Qa (Qe (Qe (Qb (Om (Qr ι53 ς53 rfl rfl (b1.all' rfl)) rfl ?_)))))))
 have kd_1 := kd.keep c1
 refine Oq (Qi Tryz.call141 rfl (order_Check _ _ _ _ _ _ kd_1 (by omega) hg0)) rfl ?_
 rintro _ w2 ⟨rfl, c2⟩
 have z2 := c2.size
 refine Om (Qd rfl) rfl (Qf (Qa (Qe (Qb (Om (Qc rfl) rfl (Om (Cg υ28 rfl) rfl (Qf ?_)))))))
 refine Qa (Ca rfl (Qn (Qa (Qe (Qb ?_)))))
 have b1_2 := b1.keep c2
 refine Om (Qr ι53 ς53 rfl rfl (b1_2.all' rfl)) rfl ?_
 have kd_2 := kd_1.keep c2
 have tab_2 := tab.keep (c1.trans c2)
 refine Oq (Qi κ142 rfl (order_text _ _ _ _ _ _ w.heap.size _ _ _ _ _ _ (Nat.lt_succ_self _) kd_2 (by omega) (by omega) (Ow.nil _ _ _) (.inl rfl) tab_2 hg (by omega))) rfl ?_
 rintro _ w3 ⟨r3, A3, k3, rfl, o3, c3, q3⟩
 have y3 := o3.lt
 have z3 := c3.size
 refine Om (Rn.bytes_string υ172 υ5 υ9 rfl (by omega) o3.sl) rfl (Om (Qd rfl) rfl (Om (Qd rfl) rfl (Qf (Qa (Qp (Cz rfl rfl rfl (Ret.mk ?_)))))))
 have CH_2 := (Ch.refl (No) w).and (c1.trans c2)
 have CH_3 : Ch (No) w w3 := CH_2.then c3
 exact ⟨by rfl, CH_3⟩
end Go.Tm
namespace Go.Tm
open Go.RowKit
structure Stp where
  op : Int
  dst : Int
  src : Int
  jump : Int
  count : Int
  n : Int
  k : Int
def Stp.cells (s : Stp) : List Value := [.int .i64 s.op, .int .i64 s.dst, .int .i64 s.src, .int .i64 s.jump, .int .i64 s.count, .int .i64 s.n, .int .i64 s.k]
def kSrc (i : Nat) : Bool := i == 1 || i == 2 || i == 6 || i == 9
def kJmp (i : Nat) : Bool := i == 1 || i == 2 || i == 5 || i == 6
def kK (i : Nat) : Bool := i == 4
def kN (i : Nat) : Int := if i = 5 then 5 else if i = 6 then 64 else if i = 4 ∨ i = 7 ∨ i = 8 ∨ i = 11 then 16384 else 0
def fromM (has : Bool) (x lo hi : Int) : Bool := if has = false then decide (x = 0) else decide (lo ≤ x) && decide (x ≤ hi)
def formM (s : Stp) : Bool :=
  if ¬ (1 ≤ s.op ∧ s.op ≤ 11) then false else
  let i := s.op.toNat
  let least : Int := if s.op = 5 then 2 else 1
  if (fromM true s.dst 0 262143 && fromM true s.count 1 262144 && fromM (kSrc i) s.src 0 262143 && fromM (kJmp i) s.jump 1 262144 && fromM (decide (kN i > 0)) s.n least (kN i) && fromM (kK i) s.k 0 (s.n - 1)) = false then false else
  if s.op = 5 then decide (s.count ≤ s.jump) else if s.op = 6 ∨ s.op = 7 then decide (s.count ≤ s.n) else if s.op = 8 then decide (s.count ≥ 2 * s.n - 1) && decide (s.count ≤ 16384) else true
def actsM (s : Stp) : Int := if formM s = true then s.count else 0
end Go.Tm
