/- Lemmas of this claim, joined by program. Walks of functions: compile, deep: one step. Walks of functions: compile whole; plans. Good orders: how long their texts are. Walks of functions: plans. Walks of functions: plans, by a policy; what a plan tells. Lengths from 1 to 24 have plans: the kernel reckons them. Walks of functions: pack (small), plans of the law. Walks of functions: bytes of numbers and texts. Conditions: each lemma names its own. -/
import Derived.Test.YtbmhbmlgndhpgaaGreatDoorA09
import Derived.Test.YtbmhbmlgndhpgaaGreatDoorA07
import Derived.Test.YtbmhbmlgndhpgaaGreatDoorA04
import Derived.KernelRfl
set_option linter.all false
namespace Go.Tm
open Go.RowKit Go.Proofs
theorem go_n {o : Ord} (h : GO o) (hk : o.kind = 1 ∨ o.kind = 2) : 1 ≤ o.n ∧ o.n ≤ 64 := by
  cases h with
  | direct h1 h2 => exact ⟨h1, h2⟩
  | fly h1 h2 => simp only [Ord.n]; omega
  | times _ _ _ _ _ => simp [Ord.kind] at hk
  | blue _ _ _ _ => simp [Ord.kind] at hk
theorem go_kind {o : Ord} (h : GO o) : o.kind = 1 ∨ o.kind = 2 ∨ o.kind = 3 ∨ o.kind = 4 := by cases h <;> simp [Ord.kind]
theorem go_times {o : Ord} (h : GO o) (hk : o.kind = 3) : ∃ a e, o.kids = [a, e] ∧ 2 ≤ a.len ∧ 2 ≤ e.len ∧ a.len * e.len ≤ 16384 := by
  cases h with
  | direct h1 h2 => simp [Ord.kind] at hk
  | fly h1 h2 => simp [Ord.kind] at hk
  | times _ _ h1 h2 h3 => exact ⟨_, _, rfl, h1, h2, h3⟩
  | blue _ _ _ _ => simp [Ord.kind] at hk
theorem go_blue {o : Ord} (h : GO o) (hk : o.kind = 4) : ∃ a, o.kids = [a] ∧ 2 ≤ o.n ∧ o.n ≤ 16384 := by
  cases h with
  | direct h1 h2 => simp [Ord.kind] at hk
  | fly h1 h2 => simp [Ord.kind] at hk
  | times _ _ h1 h2 h3 => simp [Ord.kind] at hk
  | blue h1 h2 _ _ => exact ⟨_, rfl, h1, h2⟩
theorem BB.fr {w w' : World} {q r : Nat} {b : Bld} (h : BB w q r b) (x : Int) (hw : ∀ A c, Bk w q (bldV b A c) 147 → ∃ D, Ch D w w' ∧ (∀ y, y < w.heap.size → y ≠ q → ¬ D y) ∧ Bk w' q ((bldV b A c).setIfInBounds 6 (.int .i64 x)) 147) : BB w' q r { b with fr := x } := by
  have hl := h.lt
  obtain ⟨A, c, h1, h2⟩ := h
  obtain ⟨D, h3, h4, h5⟩ := hw A c h1
  exact ⟨A, c, h5, h2.to h3 (fun y h6 h7 h8 => h4 y h6 (by omega))⟩
set_option maxHeartbeats 2000000 in
set_option maxRecDepth 100000 in
theorem deep_step (o : Ord) (hgo : GO o) (hkT : ∀ a ∈ o.kids, DeepOk a ∧ GO a ∧ a.len = sl a) (q r : Nat) (x : Inst) (b : Bld) (A : Option Addr) (c lo hi : Nat) (w : World) (kd : RdK (In lo hi) w A o.kids) (hh : hi ≤ w.heap.size) (hq2 : q < lo ∨ hi ≤ q) (hr2 : r ≤ lo ∨ hi < r) (hq : 24 ≤ q) (hr : r = 0 ∨ 24 < r) (bb : BB w q r b) (ok : BdOk b) (hx : XOk x (sl o)) (st : StT w) :
  Calls Tryz.prog 114 #[.pointer (some ⟨q, 0, none⟩), ordV o A c, instV x] w (Ret (fun v w' => ∃ r', v = .tuple #[] ∧ BB w' q r' (deepM o x b) ∧ (r' = r ∨ w.heap.size < r') ∧ Ch (QR q r) w w')) := by
 have lb := bb.lt
 have okb := ok.bd; have hkp := deepM_keeps hgo
 refine calls_of_VC (args := [.pointer (some ⟨q, 0, none⟩), ordV o A c, instV x]) Tryz.func114 rfl Tryz.ntmps114 rfl (VC.seq (VC.region (VO.wk (Wk.box rfl) rfl rfl rfl ?_)))
 rintro _ w1 ⟨p1, rfl, N1⟩
 have c1 := N1.ch
 have e1 := N1.p; have z1 := N1.size
 have b4 := Bk.new N1
 refine VO.wk (Wk.box rfl) rfl rfl rfl ?_
 rintro _ w2 ⟨p2, rfl, N2⟩
 have c2 := N2.ch
 have e2 := N2.p; have z2 := N2.size
 have b5 := Bk.new N2
 refine VO.nil (VQ.then_code (VC.seq (VC.seq (VC.region (VO.mv (Rn.move rfl) rfl rfl rfl ?_)))))
 have bb_2 := bb.keep (c1.trans c2)
 refine VO.wk (Wk.call Tryz.call116 rfl (bb_full _ _ _ _ bb_2)) rfl rfl rfl ?_
 rintro _ _ ⟨rfl, rfl⟩
 refine VO.nil (VQ.then_code (VC.cond rfl (fun hc1 => ?_) (fun hc1 => ?_)))
 ·
  try simp only [Bool.and_eq_true, Bool.or_eq_true, Bool.not_eq_true', Bool.not_eq_false', Bool.and_eq_false_iff, Bool.or_eq_false_iff, decide_eq_true_eq, decide_eq_false_iff_not] at hc1
  refine VC.ret (VQ.then_ret (VQ.ret0 rfl (Ret.mk ?_)))
  have CH_2 := (Ch.refl (QR q r) w).and (c1.trans c2)
  exact ⟨r, rfl, by rw [deepM_full hc1]; exact bb_2, .inl rfl, CH_2⟩
 ·
  try simp only [Bool.and_eq_true, Bool.or_eq_true, Bool.not_eq_true', Bool.not_eq_false', Bool.and_eq_false_iff, Bool.or_eq_false_iff, decide_eq_true_eq, decide_eq_false_iff_not] at hc1
  refine VC.skip (VQ.then_code (VC.seq ?_))
  obtain ⟨bA, bC, bk, row⟩ := id bb_2
  refine VC.region (VO.mv (Rn.move rfl) rfl rfl rfl (VO.mv (Rn.nilCheck rfl) rfl rfl rfl (VO.mv (Rn.field Tryz.underlying147 rfl Tryz.sizeOf3 rfl rfl rfl) rfl rfl rfl (VO.mv (Rn.load Tryz.isAgg3 rfl (bk.cell rfl)) rfl rfl rfl (VO.mv (Rn.assign rfl) rfl rfl rfl (VO.nil (VQ.then_code ?_)))))))
  refine VC.seq (VC.seq (VC.region (VO.mv (Rn.field Tryz.underlying84 rfl Tryz.sizeOf3 rfl rfl rfl) rfl rfl rfl ?_)))
  have b4_2 := b4.keep c2
  refine VO.mv (Rn.load Tryz.isAgg3 rfl (b4_2.cell rfl)) rfl rfl rfl (VO.nil (VQ.then_code (VC.block (VC.seq (VC.region (VO.mv (Rn.eql rfl rfl) rfl rfl rfl (VO.mv (Rn.assign rfl) rfl rfl rfl ?_)))))))
  refine VO.nil (VQ.then_code (VC.cond_if rfl (fun hc2 => ?_) (fun hc2 => ?_)))
  ·
   have hgn := go_n hgo (by omega)
   refine VC.region (VO.mv (Rn.move rfl) rfl rfl rfl (VO.mv (Rn.loads Tryz.isAgg168 Tryz.sizeOf168 rfl rfl (b5.all' rfl)) rfl rfl rfl (VO.mv (Rn.field Tryz.underlying84 rfl Tryz.sizeOf3 rfl rfl rfl) rfl rfl rfl (VO.mv (Rn.load Tryz.isAgg3 rfl (b4_2.cell rfl)) rfl rfl rfl (VO.wk (Wk.call Tryz.call130 rfl (c_direct x.src x.jump x.dst o.n _)) rfl rfl rfl ?_)))))
   rintro _ w3 ⟨rfl, c3⟩
   have z3 := c3.size
   have bb_3 := bb_2.keep c3
   have st_3 := st.keep (c1.trans (c2.trans c3))
   refine VO.wk (Wk.call Tryz.call129 rfl (bb_add _ _ (b) (directS x o.n) _ bb_3 (ok) st_3 (by simp only [directS]; omega) (by omega) (by omega))) rfl rfl rfl ?_
   rintro _ w4 ⟨r4, rfl, bb4, y4, c4⟩
   have lb4 := bb4.lt
   have z4 := c4.size
   refine VO.nil (VQ.block_normal (VQ.then_code ?_))
   obtain ⟨bA2, bC2, bk2, row2⟩ := id bb4
   refine VC.region (VO.mv (Rn.move rfl) rfl rfl rfl (VO.mv (Rn.move rfl) rfl rfl rfl (VO.mv (Rn.nilCheck rfl) rfl rfl rfl (VO.mv (Rn.field Tryz.underlying147 rfl Tryz.sizeOf3 rfl rfl rfl) rfl rfl rfl (VO.wk0 (Wk.put Tryz.sizeOf3 rfl rfl rfl rfl bk2 rfl) rfl rfl ?_)))))
   intro _ w5 Z5
   have c5 := Z5.ch; have z5 := Z5.size
   have bk_5 := Bk.put Z5
   refine VO.nil (VQ.end0 rfl (Ret.mk ?_))
   have row_5 := row2.to c5 (by first | exact fun _ _ _ _ => id | (intro q h1 h2 hx h3; omega))
   have rrow := row_5
   have CH_3 := (Ch.refl (QR q r) w).and (c1.trans (c2.trans c3))
   have CH_4 : Ch (QR q r) w w4 := CH_3.then c4 (by intro q h1 h2; rcases h2 with h2 | h2 <;> first | exact h2 | (exfalso; omega) | omega)
   have CH_5 : Ch (QR q r) w w5 := CH_4.then c5 (by intro q h1 h2; rcases h2 with h2 | h2 <;> first | exact h2 | (exfalso; omega) | omega)
   have rch := CH_5
   refine ⟨r4, rfl, ?_, by omega, rch⟩
   first | rw [deepM_direct hc1 hc2] | rw [deepM_fly hc1 hc3] | rw [deepM_times hc1 hc4 hab] | rw [deepM_blue hc1 hc5 hab]
   exact ⟨bA2, bC2, bk_5, rrow⟩
  ·
   refine VC.seq (VC.region (VO.mv (Rn.eql rfl rfl) rfl rfl rfl (VO.mv (Rn.assign rfl) rfl rfl rfl (VO.nil (VQ.then_code (VC.cond_if rfl (fun hc3 => ?_) (fun hc3 => ?_)))))))
   ·
    have hgn := go_n hgo (by omega)
    refine VC.seq (VC.region (VO.mv (Rn.move rfl) rfl rfl rfl (VO.mv (Rn.field Tryz.underlying168 rfl Tryz.sizeOf3 rfl rfl rfl) rfl rfl rfl (VO.mv (Rn.load Tryz.isAgg3 rfl (b5.cell rfl)) rfl rfl rfl (VO.mv (Rn.field Tryz.underlying168 rfl Tryz.sizeOf3 rfl rfl rfl) rfl rfl rfl (VO.mv (Rn.load Tryz.isAgg3 rfl (b5.cell rfl)) rfl rfl rfl (VO.mv (Rn.field Tryz.underlying168 rfl Tryz.sizeOf3 rfl rfl rfl) rfl rfl rfl ?_)))))))
    refine VO.mv (Rn.load Tryz.isAgg3 rfl (b5.cell rfl)) rfl rfl rfl (VO.mv (Rn.field Tryz.underlying84 rfl Tryz.sizeOf3 rfl rfl rfl) rfl rfl rfl (VO.mv (Rn.load Tryz.isAgg3 rfl (b4_2.cell rfl)) rfl rfl rfl (VO.wk (Wk.call Tryz.call131 rfl (c_gather x.dst x.src x.jump o.n _)) rfl rfl rfl ?_)))
    rintro _ w6 ⟨rfl, c6⟩
    have z6 := c6.size
    have bb_6 := bb_2.keep c6
    have st_6 := st.keep (c1.trans (c2.trans c6))
    refine VO.wk (Wk.call Tryz.call129 rfl (bb_add _ _ (b) (gatherS x.dst x.src x.jump o.n) _ bb_6 (ok) st_6 (by simp only [gatherS]; omega) (by omega) (by omega))) rfl rfl rfl ?_
    rintro _ w7 ⟨r7, rfl, bb7, y7, c7⟩
    have lb7 := bb7.lt
    have z7 := c7.size
    refine VO.nil (VQ.then_code (VC.region (VO.mv (Rn.move rfl) rfl rfl rfl (VO.mv (Rn.field Tryz.underlying168 rfl Tryz.sizeOf3 rfl rfl rfl) rfl rfl rfl ?_))))
    have b5_6 := b5.keep c6
    have b5_7 := b5_6.to c7 (by first | exact id | omega)
    refine VO.mv (Rn.load Tryz.isAgg3 rfl (b5_7.cell rfl)) rfl rfl rfl (VO.mv (Rn.field Tryz.underlying84 rfl Tryz.sizeOf3 rfl rfl rfl) rfl rfl rfl ?_)
    have b4_6 := b4_2.keep c6
    have b4_7 := b4_6.to c7 (by first | exact id | omega)
    refine VO.mv (Rn.load Tryz.isAgg3 rfl (b4_7.cell rfl)) rfl rfl rfl (VO.wk (Wk.call Tryz.call132 rfl (c_fly x.dst 1 1 o.n _)) rfl rfl rfl ?_)
    rintro _ w8 ⟨rfl, c8⟩
    have z8 := c8.size
    have bb_8 := bb7.keep c8
    have st_7 := st_6.to c7 (by first | exact fun _ _ _ _ => id | (intro q h1 h2 hx h3; omega))
    have st_8 := st_7.keep c8
    refine VO.wk (Wk.call Tryz.call129 rfl (bb_add _ _ (b.add (gatherS x.dst x.src x.jump o.n)) (flyS x.dst 1 1 o.n) _ bb_8 (ok.add _) st_8 (by simp only [flyS]; omega) (by omega) (by omega))) rfl rfl rfl ?_
    rintro _ w9 ⟨r9, rfl, bb9, y9, c9⟩
    have lb9 := bb9.lt
    have z9 := c9.size
    refine VO.nil (VQ.block_normal (VQ.then_code ?_))
    obtain ⟨bA2, bC2, bk2, row2⟩ := id bb9
    refine VC.region (VO.mv (Rn.move rfl) rfl rfl rfl (VO.mv (Rn.move rfl) rfl rfl rfl (VO.mv (Rn.nilCheck rfl) rfl rfl rfl (VO.mv (Rn.field Tryz.underlying147 rfl Tryz.sizeOf3 rfl rfl rfl) rfl rfl rfl (VO.wk0 (Wk.put Tryz.sizeOf3 rfl rfl rfl rfl bk2 rfl) rfl rfl ?_)))))
    intro _ w10 Z10
    have c10 := Z10.ch; have z10 := Z10.size
    have bk_10 := Bk.put Z10
    refine VO.nil (VQ.end0 rfl (Ret.mk ?_))
    have row_10 := row2.to c10 (by first | exact fun _ _ _ _ => id | (intro q h1 h2 hx h3; omega))
    have rrow := row_10
    have CH_6 := (Ch.refl (QR q r) w).and (c1.trans (c2.trans c6))
    have CH_7 : Ch (QR q r) w w7 := CH_6.then c7 (by intro q h1 h2; rcases h2 with h2 | h2 <;> first | exact h2 | (exfalso; omega) | omega)
    have CH_8 := CH_7.and c8
    have CH_9 : Ch (QR q r) w w9 := CH_8.then c9 (by intro q h1 h2; rcases h2 with h2 | h2 <;> first | exact h2 | (exfalso; omega) | omega)
    have CH_10 : Ch (QR q r) w w10 := CH_9.then c10 (by intro q h1 h2; rcases h2 with h2 | h2 <;> first | exact h2 | (exfalso; omega) | omega)
    have rch := CH_10
    refine ⟨r9, rfl, ?_, by omega, rch⟩
    first | rw [deepM_direct hc1 hc2] | rw [deepM_fly hc1 hc3] | rw [deepM_times hc1 hc4 hab] | rw [deepM_blue hc1 hc5 hab]
    exact ⟨bA2, bC2, bk_10, rrow⟩
   ·
    refine VC.seq (VC.region (VO.mv (Rn.eql rfl rfl) rfl rfl rfl (VO.mv (Rn.assign rfl) rfl rfl rfl (VO.nil (VQ.then_code (VC.cond_if rfl (fun hc4 => ?_) (fun hc4 => ?_)))))))
    ·
     obtain ⟨a, e, hab, g1, g2, g3⟩ := go_times hgo hc4
     have ha9 : a ∈ o.kids := by rw [hab]; simp
     have he9 : e ∈ o.kids := by rw [hab]; simp
     refine VC.region (VO.mv (Rn.move rfl) rfl rfl rfl (VO.mv (Rn.loads Tryz.isAgg84 Tryz.sizeOf84 rfl rfl (b4_2.all' rfl)) rfl rfl rfl (VO.mv (Rn.loads Tryz.isAgg168 Tryz.sizeOf168 rfl rfl (b5.all' rfl)) rfl rfl rfl ?_)))
     have kd_2 := kd.keep (c1.trans c2)
     have st_2 := st.keep (c1.trans c2)
     refine VO.wk (Wk.call Tryz.call133 rfl (deepTimes o a e hab hc4 (hkT a ha9).1 (hkT e he9).1 (hkT a ha9).2.1 (hkT e he9).2.1 g1 g2 g3 (hkT a ha9).2.2 (hkT e he9).2.2 _ _ x b _ _ _ _ _ kd_2 (by omega) (by omega) (by omega) (by omega) (by omega) bb_2 ok hc1 hx st_2)) rfl rfl rfl ?_
     rintro _ w11 ⟨r11, rfl, bb11, y11, c11⟩
     have lb11 := bb11.lt
     have z11 := c11.size
     refine VO.nil (VQ.block_normal (VQ.then_code ?_))
     obtain ⟨bA2, bC2, bk2, row2⟩ := id bb11
     refine VC.region (VO.mv (Rn.move rfl) rfl rfl rfl (VO.mv (Rn.move rfl) rfl rfl rfl (VO.mv (Rn.nilCheck rfl) rfl rfl rfl (VO.mv (Rn.field Tryz.underlying147 rfl Tryz.sizeOf3 rfl rfl rfl) rfl rfl rfl (VO.wk0 (Wk.put Tryz.sizeOf3 rfl rfl rfl rfl bk2 rfl) rfl rfl ?_)))))
     intro _ w12 Z12
     have c12 := Z12.ch; have z12 := Z12.size
     have bk_12 := Bk.put Z12
     refine VO.nil (VQ.end0 rfl (Ret.mk ?_))
     have row_12 := row2.to c12 (by first | exact fun _ _ _ _ => id | (intro q h1 h2 hx h3; omega))
     have rrow := row_12
     have CH_2 := (Ch.refl (QR q r) w).and (c1.trans c2)
     have CH_11 : Ch (QR q r) w w11 := CH_2.then c11 (by intro q h1 h2; rcases h2 with h2 | h2 <;> first | exact h2 | (exfalso; omega) | omega)
     have CH_12 : Ch (QR q r) w w12 := CH_11.then c12 (by intro q h1 h2; rcases h2 with h2 | h2 <;> first | exact h2 | (exfalso; omega) | omega)
     have rch := CH_12
     refine ⟨r11, rfl, ?_, by omega, rch⟩
     first | rw [deepM_direct hc1 hc2] | rw [deepM_fly hc1 hc3] | rw [deepM_times hc1 hc4 hab] | rw [deepM_blue hc1 hc5 hab]
     exact ⟨bA2, bC2, bk_12, rrow⟩
    ·
     refine VC.seq (VC.region (VO.mv (Rn.eql rfl rfl) rfl rfl rfl (VO.mv (Rn.assign rfl) rfl rfl rfl (VO.nil (VQ.then_code (VC.cond_if rfl (fun hc5 => ?_) (fun hc5 => ?_)))))))
     ·
      obtain ⟨a, hab, g1, g2⟩ := go_blue hgo hc5
      have ha9 : a ∈ o.kids := by rw [hab]; simp
      refine VC.region (VO.mv (Rn.move rfl) rfl rfl rfl (VO.mv (Rn.loads Tryz.isAgg84 Tryz.sizeOf84 rfl rfl (b4_2.all' rfl)) rfl rfl rfl (VO.mv (Rn.loads Tryz.isAgg168 Tryz.sizeOf168 rfl rfl (b5.all' rfl)) rfl rfl rfl ?_)))
      have kd_2 := kd.keep (c1.trans c2)
      have st_2 := st.keep (c1.trans c2)
      refine VO.wk (Wk.call Tryz.call134 rfl (deepBlue o a hab hc5 (hkT a ha9).1 (hkT a ha9).2.1 g1 g2 (hkT a ha9).2.2 _ _ x b _ _ _ _ _ kd_2 (by omega) (by omega) (by omega) (by omega) (by omega) bb_2 ok hc1 hx st_2)) rfl rfl rfl ?_
      rintro _ w13 ⟨r13, rfl, bb13, y13, c13⟩
      have lb13 := bb13.lt
      have z13 := c13.size
      refine VO.nil (VQ.block_normal (VQ.then_code ?_))
      obtain ⟨bA2, bC2, bk2, row2⟩ := id bb13
      refine VC.region (VO.mv (Rn.move rfl) rfl rfl rfl (VO.mv (Rn.move rfl) rfl rfl rfl (VO.mv (Rn.nilCheck rfl) rfl rfl rfl (VO.mv (Rn.field Tryz.underlying147 rfl Tryz.sizeOf3 rfl rfl rfl) rfl rfl rfl (VO.wk0 (Wk.put Tryz.sizeOf3 rfl rfl rfl rfl bk2 rfl) rfl rfl ?_)))))
      intro _ w14 Z14
      have c14 := Z14.ch; have z14 := Z14.size
      have bk_14 := Bk.put Z14
      refine VO.nil (VQ.end0 rfl (Ret.mk ?_))
      have row_14 := row2.to c14 (by first | exact fun _ _ _ _ => id | (intro q h1 h2 hx h3; omega))
      have rrow := row_14
      have CH_2 := (Ch.refl (QR q r) w).and (c1.trans c2)
      have CH_13 : Ch (QR q r) w w13 := CH_2.then c13 (by intro q h1 h2; rcases h2 with h2 | h2 <;> first | exact h2 | (exfalso; omega) | omega)
      have CH_14 : Ch (QR q r) w w14 := CH_13.then c14 (by intro q h1 h2; rcases h2 with h2 | h2 <;> first | exact h2 | (exfalso; omega) | omega)
      have rch := CH_14
      refine ⟨r13, rfl, ?_, by omega, rch⟩
      first | rw [deepM_direct hc1 hc2] | rw [deepM_fly hc1 hc3] | rw [deepM_times hc1 hc4 hab] | rw [deepM_blue hc1 hc5 hab]
      exact ⟨bA2, bC2, bk_14, rrow⟩
     ·
      exact absurd (go_kind hgo) (by omega)
end Go.Tm
namespace Go.Tm
open Go.RowKit Go.Proofs
theorem deep_all {o : Ord} (h : GO o) : DeepOk o := by
  have st : ∀ {o : Ord}, GO o → (∀ a ∈ o.kids, DeepOk a ∧ GO a ∧ a.len = sl a) → DeepOk o := fun {o} h hk A c lo hi q r x b w kd hh hq2 hr2 hq hr bb ok hx st => deep_step o h hk q r x b A c lo hi w kd hh hq2 hr2 hq hr bb ok hx st
  induction h with
  | direct h1 h2 => exact st (.direct h1 h2) (fun a ha => by cases ha)
  | fly h1 h2 => exact st (.fly h1 h2) (fun a ha => by cases ha)
  | @times a b ga gb h1 h2 h3 ia ib =>
    refine st (.times ga gb h1 h2 h3) (fun x hx => ?_)
    simp only [Ord.kids, List.mem_cons, List.not_mem_nil, or_false] at hx
    rcases hx with rfl | rfl
    · exact ⟨ia, ga, len_sl (by omega)⟩
    · exact ⟨ib, gb, len_sl (by omega)⟩
  | @blue n a h1 h2 ga h3 ia =>
    refine st (.blue h1 h2 ga h3) (fun x hx => ?_)
    simp only [Ord.kids, List.mem_cons, List.not_mem_nil, or_false] at hx
    subst hx
    exact ⟨ia, ga, len_sl (by omega)⟩
def bld0 (n : Int) : Bld := ({ ln := n, cl := 0, i0 := 0, ou := n, steps := [], acts := 0, fr := 0 } : Bld).region (2 * n)
def buildM (o : Ord) : Bld := deepM o ⟨0, 1, o.len⟩ (bld0 o.len)
theorem bld0_ok {n : Int} (h1 : 1 ≤ n) (h2 : n ≤ 16384) : BdOk (bld0 n) := by
  unfold bld0
  refine BdOk.region ⟨?_, ?_, ?_, ?_, ?_, ?_⟩ ?_ ?_ <;> (try simp only) <;> first | omega | (simp; done)
theorem xok_top {n : Int} (h1 : 1 ≤ n) (h2 : n ≤ 16384) : XOk ⟨0, 1, n⟩ n := ⟨by simp, by simp, by simp only; omega, by simp only; omega, by simp only; omega, by simp only; omega⟩
theorem build147w18 {ps : List (Nat × Value)} {cs : Array Value} (h : Instr.fill (fun i => ([(0, 5), (5, 1), (6, 1)] : List (Nat × Nat))[i]?) #[.int .i64 0, .int .i64 0, .int .i64 0, .int .i64 0, .slice none 0 0, .int .i64 0, .int .i64 0] ps = some cs) (w : World) : (Instr.build 147 ps.toArray).run Tryz.prog w = .ok (.agg cs) w := by
  simp [Instr.build, Tryz.runUnderlying147, Tryz.zeroValue147, Tryz.sizeOf3, Tryz.sizeOf93, Value.cells, h]
theorem bld168_0_1_2w18 {v0 v1 v2 : Value} (h : [v0, v1, v2].all Value.oneCell' = true) (w : World) : (Instr.build 168 ([(0, v0), (1, v1), (2, v2)] : List (Nat × Value)).toArray).run Tryz.prog w = .ok (.agg #[v0, v1, v2]) w := by
  simp only [List.all_cons, Bool.and_eq_true, List.all_nil, and_true] at h
  have hv0 := oneCell_cells (v := v0) (by simp_all)
  have hv1 := oneCell_cells (v := v1) (by simp_all)
  have hv2 := oneCell_cells (v := v2) (by simp_all)
  have h1 := fill_set (fun i => ([(0, 1), (1, 1), (2, 1)] : List (Nat × Nat))[i]?) [(0, v0), (1, v1), (2, v2)] [.int .i64 0, .int .i64 0, .int .i64 0] (by simp [okF, agg_cells, hv0, hv1, hv2, Nat.beq, Nat.ble])
  simp [setF, agg_cells, hv0, hv1, hv2] at h1
  simp [Instr.build, Tryz.runUnderlying168, Tryz.zeroValue168, Tryz.sizeOf3, agg_cells, h1]
set_option maxHeartbeats 1000000 in
set_option maxRecDepth 100000 in
theorem c_build (o : Ord) (A : Option Addr) (c lo hi : Nat) (w : World) (kd : RdK (In lo hi) w A o.kids) (hh : hi ≤ w.heap.size) (hl : o.len ≠ 0) (hf : (buildM o).full = false) (st : StT w) (hG : 24 ≤ w.heap.size) :
  Calls Tryz.prog 82 #[ordV o A c, .int .i64 0] w (Ret (fun v w' => ∃ q r, v = .tuple #[.pointer (some ⟨q, 0, none⟩), .nilIface] ∧ BB w' q r (buildM o) ∧ w.heap.size ≤ q ∧ (r = 0 ∨ w.heap.size < r) ∧ Ch No w w')) := by
 have ll := len_bd o; have go := GO.of_len hl; have hsl := len_sl hl
 refine calls_of_VC (args := [ordV o A c, .int .i64 0]) Tryz.func82 rfl Tryz.ntmps82 rfl (VC.seq (VC.region (VO.wk (Wk.box rfl) rfl rfl rfl ?_)))
 rintro _ w1 ⟨p1, rfl, N1⟩
 have c1 := N1.ch
 have e1 := N1.p; have z1 := N1.size
 have b2 := Bk.new N1
 refine VO.mv (Rn.assign rfl) rfl rfl rfl (VO.mv (Rn.assign rfl) rfl rfl rfl (VO.nil (VQ.then_code (VC.seq (VC.seq (VC.region (VO.mv (Rn.move rfl) rfl rfl rfl ?_)))))))
 refine VO.mv (Rn.neq rfl rfl) rfl rfl rfl (VO.mv (Rn.move rfl) rfl rfl rfl ?_)
 refine VO.andJoin (b := _) 3 11 14 rfl (fun hc1 Jhc1 => by
   try simp only [Bool.and_eq_true, Bool.or_eq_true, Bool.not_eq_true', Bool.not_eq_false', Bool.and_eq_false_iff, Bool.or_eq_false_iff, decide_eq_true_eq, decide_eq_false_iff_not] at hc1
   refine VO.mv (Rn.move rfl) rfl rfl rfl (VO.mv (Rn.neq rfl rfl) rfl rfl rfl (VO.mv (Rn.pick_true rfl rfl) rfl rfl rfl ?_))
   exact (VO.fg rfl (VO.fg rfl Jhc1))) (fun hc1 Jhc1 => by
   refine VO.skip rfl rfl rfl (VO.skip rfl rfl rfl (VO.mv (Rn.pick_false rfl rfl) rfl rfl rfl ?_))
   exact (VO.fg rfl (VO.fg rfl Jhc1))) ?_
 refine VO.nil (VQ.then_code (VC.cond rfl (fun hc2 => ?_) (fun hc2 => ?_)))
 ·
  try simp only [Bool.and_eq_true, Bool.or_eq_true, Bool.not_eq_true', Bool.not_eq_false', Bool.and_eq_false_iff, Bool.or_eq_false_iff, decide_eq_true_eq, decide_eq_false_iff_not] at hc2
  exact absurd hc2 (by simp)
 ·
  try simp only [Bool.and_eq_true, Bool.or_eq_true, Bool.not_eq_true', Bool.not_eq_false', Bool.and_eq_false_iff, Bool.or_eq_false_iff, decide_eq_true_eq, decide_eq_false_iff_not] at hc2
  refine VC.skip (VQ.then_code (VC.seq (VC.region (VO.mv (Rn.loads Tryz.isAgg84 Tryz.sizeOf84 rfl rfl (b2.all' rfl)) rfl rfl rfl ?_))))
  have kd_1 := kd.keep c1
  refine VO.wk (Wk.call Tryz.call105 rfl (order_Length _ _ _ _ _ _ kd_1 (by omega))) rfl rfl rfl ?_
  rintro _ w2 ⟨rfl, c2⟩
  have z2 := c2.size
  refine VO.mv (Rn.assign rfl) rfl rfl rfl (VO.nil (VQ.then_code (VC.seq (VC.seq (VC.region (VO.mv (Rn.move rfl) rfl rfl rfl (VO.mv (Rn.eql rfl rfl) rfl rfl rfl ?_)))))))
  refine VO.nil (VQ.then_code (VC.cond_if rfl (fun hc3 => ?_) (fun hc3 => ?_)))
  ·
   omega
  ·
   refine VC.skip (VQ.then_code (VC.seq (VC.region (VO.mv (Rn.build rfl (build147w18 rfl)) rfl rfl rfl (VO.wk (Wk.box rfl) rfl rfl rfl ?_)))))
   rintro _ w3 ⟨p3, rfl, N3⟩
   have c3 := N3.ch
   have e3 := N3.p; have z3 := N3.size
   have b22 := Bk.new N3
   refine VO.mv (Rn.assign rfl) rfl rfl rfl (VO.nil (VQ.then_code (VC.seq (VC.region (VO.mv (Rn.move rfl) rfl rfl rfl (VO.mv (Rn.move rfl) rfl rfl rfl (VO.mv (Rn.move rfl) rfl rfl rfl ?_)))))))
   refine VO.mv (Rn.move rfl) rfl rfl rfl (VO.mv (Rn.nilCheck rfl) rfl rfl rfl (VO.mv (Rn.field Tryz.underlying147 rfl Tryz.sizeOf93 rfl rfl rfl) rfl rfl rfl (VO.mv (Rn.field Tryz.underlying93 rfl Tryz.sizeOf3 rfl rfl rfl) rfl rfl rfl (VO.wk0 (Wk.put Tryz.sizeOf3 rfl rfl rfl rfl b22 rfl) rfl rfl ?_))))
   intro _ w4 Z4
   have c4 := Z4.ch; have z4 := Z4.size
   have b22_4 := Bk.put Z4
   refine VO.mv (Rn.nilCheck rfl) rfl rfl rfl (VO.mv (Rn.field Tryz.underlying147 rfl Tryz.sizeOf93 rfl rfl rfl) rfl rfl rfl (VO.mv (Rn.field Tryz.underlying93 rfl Tryz.sizeOf3 rfl rfl rfl) rfl rfl rfl (VO.wk0 (Wk.put Tryz.sizeOf3 rfl rfl rfl rfl b22_4 rfl) rfl rfl ?_)))
   intro _ w5 Z5
   have c5 := Z5.ch; have z5 := Z5.size
   have b22_5 := Bk.put Z5
   refine VO.nil (VQ.then_code (VC.seq ?_))
   have bbs : BB w5 p3 0 ({ ln := o.len, cl := 0, i0 := 0, ou := o.len, steps := [], acts := 0, fr := 0 } : Bld) := ⟨none, 0, b22_5, Ow.nil _ _ _⟩
   refine VC.region (VO.mv (Rn.move rfl) rfl rfl rfl (VO.mv (Rn.move rfl) rfl rfl rfl ?_))
   refine VO.mv (Rn.mul rfl rfl (by rw [IntKind.wrap_i64]; omega)) rfl rfl rfl ?_
   refine VO.wk (Wk.call Tryz.call113 rfl (bb_region _ _ ({ ln := o.len, cl := 0, i0 := 0, ou := o.len, steps := [], acts := 0, fr := 0 } : Bld) _ _ bbs ⟨by simp, by simp, by simp, by simp, by simp, by simp⟩ (by omega) (by omega))) rfl rfl rfl ?_
   rintro _ w6 ⟨rfl, bb6, c6⟩
   have z6 := c6.size
   refine VO.nil (VQ.then_code (VC.seq (VC.region (VO.mv (Rn.move rfl) rfl rfl rfl (VO.mv (Rn.build rfl (bld168_0_1_2w18 rfl)) rfl rfl rfl (VO.wk (Wk.alloc Tryz.zeroValue168) rfl rfl rfl ?_))))))
   rintro _ w7 ⟨p7, rfl, N7⟩
   have c7 := N7.ch
   have e7 := N7.p; have z7 := N7.size
   have b8 := Bk.new N7
   refine VO.wk0 (Wk.puts Tryz.sizeOf168 rfl rfl rfl rfl b8 (Nat.le_of_ble_eq_true rfl)) rfl rfl ?_
   intro _ w8 Z8
   have c8 := Z8.ch; have z8 := Z8.size
   have b8_8 := Bk.put Z8
   refine VO.nil (VQ.then_code (VC.seq (VC.seq (VC.region (VO.mv (Rn.move rfl) rfl rfl rfl (VO.mv (Rn.eql rfl rfl) rfl rfl rfl (VO.nil ?_)))))))
   refine VQ.then_code (VC.cond_if rfl (fun hc4 => ?_) (fun hc4 => ?_))
   ·
    refine VC.region (VO.mv (Rn.move rfl) rfl rfl rfl ?_)
    have cc_1_5 : Ch No w1 w5 := (Ch.then (E := No) (Ch.then (E := No) (c2.and c3) c4 (by intro q h1 h2; rcases h2 with h2 | h2 <;> first | exact h2 | (exfalso; omega))) c5 (by intro q h1 h2; rcases h2 with h2 | h2 <;> first | exact h2 | (exfalso; omega)))
    have b2_5 := b2.keep cc_1_5
    have b2_6 := b2_5.to c6 (by first | exact id | omega)
    have cc_6_8 : Ch No w6 w8 := (Ch.then (E := No) c7 c8 (by intro q h1 h2; rcases h2 with h2 | h2 <;> first | exact h2 | (exfalso; omega)))
    have b2_8 := b2_6.keep cc_6_8
    refine VO.mv (Rn.loads Tryz.isAgg84 Tryz.sizeOf84 rfl rfl (b2_8.all' rfl)) rfl rfl rfl (VO.mv (Rn.loads Tryz.isAgg168 Tryz.sizeOf168 rfl rfl (b8_8.all' rfl)) rfl rfl rfl ?_)
    have kd_5 := kd_1.keep cc_1_5
    have kd_6 := kd_5.to c6 (by first | exact fun _ _ _ _ => id | (intro q h1 h2 hx h3; omega))
    have kd_8 := kd_6.keep cc_6_8
    have bb_8 := bb6.keep cc_6_8
    have cc_0_5 : Ch No w w5 := (Ch.then (E := No) (Ch.then (E := No) ((c1.and c2).and c3) c4 (by intro q h1 h2; rcases h2 with h2 | h2 <;> first | exact h2 | (exfalso; omega))) c5 (by intro q h1 h2; rcases h2 with h2 | h2 <;> first | exact h2 | (exfalso; omega)))
    have st_5 := st.keep cc_0_5
    have st_6 := st_5.to c6 (by first | exact fun _ _ _ _ => id | (intro q h1 h2 hx h3; omega))
    have st_8 := st_6.keep cc_6_8
    refine VO.wk (Wk.call Tryz.call114 rfl (deep_all go _ _ _ _ _ _ (⟨0, 1, o.len⟩) (bld0 o.len) _ kd_8 (by omega) (by omega) (by omega) (by omega) (by omega) bb_8 (bld0_ok (by omega) (by omega)) (by rw [← hsl]; exact xok_top (by omega) (by omega)) st_8)) rfl rfl rfl ?_
    rintro _ w9 ⟨r9, rfl, bb9, y9, c9⟩
    have lb9 := bb9.lt
    have z9 := c9.size
    refine VO.nil (VQ.then_code (VC.seq (VC.seq (VC.region (VO.mv (Rn.move rfl) rfl rfl rfl (VO.wk (Wk.call Tryz.call116 rfl (bb_full _ _ (buildM o) _ bb9)) rfl rfl rfl ?_))))))
    rintro _ _ ⟨rfl, rfl⟩
    refine VO.nil (VQ.then_code (VC.cond rfl (fun hc5 => ?_) (fun hc5 => ?_)))
    ·
     try simp only [Bool.and_eq_true, Bool.or_eq_true, Bool.not_eq_true', Bool.not_eq_false', Bool.and_eq_false_iff, Bool.or_eq_false_iff, decide_eq_true_eq, decide_eq_false_iff_not] at hc5
     exact absurd hc5 (by rw [hf]; simp)
    ·
     try simp only [Bool.and_eq_true, Bool.or_eq_true, Bool.not_eq_true', Bool.not_eq_false', Bool.and_eq_false_iff, Bool.or_eq_false_iff, decide_eq_true_eq, decide_eq_false_iff_not] at hc5
     refine VC.skip (VQ.then_code (VC.seq (VC.region (VO.mv (Rn.move rfl) rfl rfl rfl (VO.mv (Rn.assign rfl) rfl rfl rfl (VO.mv (Rn.assign rfl) rfl rfl rfl (VO.nil ?_)))))))
     refine VQ.then_code (VC.ret (VQ.ret2 rfl rfl rfl (Ret.mk ?_)))
     have CH_5 := (Ch.refl (No) w).and cc_0_5
     have CH_6 : Ch (No) w w6 := CH_5.then c6 (by intro q h1 h2; rcases h2 with h2 | h2 <;> first | exact h2 | (exfalso; omega) | omega)
     have CH_8 := CH_6.and cc_6_8
     have CH_9 : Ch (No) w w9 := CH_8.then c9 (by intro q h1 h2; rcases h2 with h2 | h2 <;> first | exact h2 | (exfalso; omega) | omega)
     exact ⟨_, r9, rfl, bb9, by omega, by omega, CH_9⟩
   ·
    exact absurd rfl hc4
end Go.Tm
namespace Go.Tm
open Go.RowKit
theorem GO.okO {o : Ord} (h : GO o) : okO o := by
  induction h with
  | direct h1 h2 => unfold Tm.okO; exact ⟨by omega, by omega, .inl ⟨.inl rfl, rfl⟩⟩
  | fly h1 h2 => unfold Tm.okO; exact ⟨by omega, by omega, .inl ⟨.inr rfl, rfl⟩⟩
  | times _ _ _ _ _ ia ib => unfold Tm.okO; exact ⟨by omega, by omega, .inr (.inl ⟨rfl, ia, ib⟩)⟩
  | blue h1 h2 _ _ ia => unfold Tm.okO; exact ⟨by omega, by omega, .inr (.inr ⟨rfl, ia⟩)⟩
theorem itoa_le {n : Int} (h0 : 0 ≤ n) (h1 : n ≤ 16384) : (Lib.itoa n).length ≤ 21 := Lib.itoa_length_le n (by omega) (by omega)
theorem tx_len : ∀ (m : Nat) (o : Ord) (p d : Int), SizeOf.sizeOf o < m → GO o → (wl o p d).2 ≠ 0 → 0 ≤ p → p ≤ 4096 → 1 ≤ d → ((tx o).length : Int) ≤ 30 * ((wl o p d).1 - p)
  | 0, _, _, _, h, _, _, _, _, _ => by omega
  | m + 1, o, p, d, h, hg, hz, h0, h1, h2 => by
    by_cases hf : p + 1 > 4096 ∨ d > 16
    · rw [wl_full hf] at hz; exact absurd rfl hz
    have hk := kids_lt o
    have hon := okO_n hg.okO
    have hit := itoa_le hon.1 hon.2
    cases hg with
    | @direct n h3 h4 =>
      rw [wl_leaf hf rfl, tx_one rfl]
      simp only [Ord.n] at hit
      rw [if_pos ⟨rfl, h3, h4⟩]
      simp only [List.length_cons, Ord.n]; omega
    | @fly n h3 h4 =>
      rw [wl_leaf hf rfl, tx_two (by simp [Ord.kind]) rfl]
      simp only [Ord.n] at hit
      rw [if_neg (by simp [Ord.kind]), if_pos ⟨rfl, h3, h4⟩]
      simp only [List.length_cons, Ord.n]; omega
    | @times a b ga gb h3 h4 h5 =>
      have la : SizeOf.sizeOf a < m := by simp only [Ord.mk.sizeOf_spec, List.cons.sizeOf_spec] at h; omega
      have lb : SizeOf.sizeOf b < m := by simp only [Ord.mk.sizeOf_spec, List.cons.sizeOf_spec] at h; omega
      rw [wl_two hf rfl, if_pos ⟨rfl, rfl⟩] at hz ⊢
      by_cases h6 : (wl a (p + 1) (d + 1)).2 < 2
      · rw [if_pos h6] at hz; exact absurd rfl hz
      rw [if_neg h6] at hz ⊢
      by_cases h7 : (wl b (wl a (p + 1) (d + 1)).1 (d + 1)).2 < 2 ∨ (wl a (p + 1) (d + 1)).2 * (wl b (wl a (p + 1) (d + 1)).1 (d + 1)).2 > 16384
      · rw [if_pos h7] at hz; exact absurd rfl hz
      rw [if_neg h7]
      have ba := wl_bd _ a (p + 1) (d + 1) (Nat.lt_succ_self _) (by omega) (by omega)
      have ia := tx_len m a (p + 1) (d + 1) la ga (by omega) (by omega) (by omega) (by omega)
      have ib := tx_len m b (wl a (p + 1) (d + 1)).1 (d + 1) lb gb (by omega) (by omega) (by omega) (by omega)
      obtain ⟨x, y, _, _, hxy, _, _, htx⟩ := okO_three (GO.times ga gb h3 h4 h5).okO rfl
      simp only [Ord.kids, List.cons.injEq, and_true] at hxy
      obtain ⟨rfl, rfl⟩ := hxy
      rw [htx]
      simp only [List.length_append, List.length_cons, List.length_nil]
      omega
    | @blue n a h3 h4 ga h5 =>
      have la : SizeOf.sizeOf a < m := by simp only [Ord.mk.sizeOf_spec, List.cons.sizeOf_spec] at h; omega
      rw [wl_one hf rfl, if_pos ⟨rfl, h3, h4⟩] at hz ⊢
      by_cases h6 : (wl a (p + 1) (d + 1)).2 < 2 * (Ord.mk 4 n [a]).n - 1
      · rw [if_pos h6] at hz; exact absurd rfl hz
      rw [if_neg h6]
      simp only [Ord.n] at h6
      have ia := tx_len m a (p + 1) (d + 1) la ga (by omega) (by omega) (by omega) (by omega)
      obtain ⟨x, _, hxy, _, htx⟩ := okO_four (GO.blue h3 h4 ga h5).okO (by simp [Ord.kind]) (by simp [Ord.kind]) (by simp [Ord.kind])
      simp only [Ord.kids, List.cons.injEq, and_true] at hxy
      subst hxy
      rw [htx]
      simp only [List.length_append, List.length_cons, List.length_nil, Ord.n] at hit ⊢
      omega
theorem tx_bd {o : Ord} (h : o.len ≠ 0) : 0 < (tx o).length ∧ (tx o).length ≤ 130000 := by
  have hg := GO.of_len h
  have h1 := tx_len _ o 0 1 (Nat.lt_succ_self _) hg h (by omega) (by omega) (by omega)
  have h2 := wl_bd _ o 0 1 (Nat.lt_succ_self _) (by omega) (by omega)
  refine ⟨?_, by omega⟩
  cases hg with
  | direct h3 h4 => rw [tx_one rfl]; simp
  | fly h3 h4 => rw [tx_two (by simp [Ord.kind]) rfl]; simp
  | times ga gb h3 h4 h5 =>
    obtain ⟨x, y, _, _, hxy, _, _, htx⟩ := okO_three (GO.times ga gb h3 h4 h5).okO rfl
    rw [htx]; simp
  | blue h3 h4 ga h5 =>
    obtain ⟨x, _, hxy, _, htx⟩ := okO_four (GO.blue h3 h4 ga h5).okO (by simp [Ord.kind]) (by simp [Ord.kind]) (by simp [Ord.kind])
    rw [htx]; simp
end Go.Tm
namespace Go.Tm
open Go.RowKit Go.Proofs
theorem Rn.str_cat {P : Program} {n : Fr} {k : K} {w : World} {d : Option Nat} {ty : TypeId} {pos : String} {aft : Array Edge} {g : Option (Nat × Bool)} {t t' : TypeId} {x y : Operand} {a b : ByteArray} (hx : ev k x = some (.string a)) (hy : ev k y = some (.string b)) (hl : a.size + b.size ≤ 1000000000000) :
    Rn P n k w { dst := d, op := .binOp .add t x y t', type := ty, pos := pos, after := aft, guard := g } (.string (a ++ b)) :=
  Rn.bin hx hy (fun x y => by
    have h1 : ¬ (((a.size + b.size : Nat) : Int) > IntKind.i64.max) := by
      have : IntKind.i64.max = 9223372036854775807 := rfl
      omega
    simp only [eqGuard_add]
    rw [Sem.run_bind]
    simp only [Sem.run_pure, binOp, Op.stringOp]
    rw [if_neg h1]
    rfl)
structure Pln where
  o : Ord
  way : Int
  b : Bld
  t : ByteArray
abbrev plnV (P : Pln) (A : Option Addr) (c : Nat) (SA : Option Addr) (sc : Nat) : Array Value := #[.int .i64 P.o.kind, .int .i64 P.o.n, .slice A P.o.kids.length c, .int .i64 P.way, .int .i64 P.b.ln, .int .i64 P.b.cl, .int .i64 P.b.i0, .int .i64 P.b.ou, .slice SA P.b.steps.length sc, .string P.t]
structure PlnR (lo hi : Nat) (w : World) (p : Nat) (P : Pln) : Prop where
  ex : ∃ A c SA sc, Bk w p (plnV P A c SA sc) 113 ∧ RdK (In lo hi) w A P.o.kids ∧ SlR (In lo hi) w SA P.b.steps.length 7 (flatS P.b.steps)
  at_ : lo ≤ p ∧ p < hi
theorem PlnR.to {lo hi : Nat} {w w' : World} {p : Nat} {P : Pln} (h : PlnR lo hi w p P) {D : Nat → Prop} (c : Ch D w w') (hd : ∀ x, x < w.heap.size → In lo hi x → isC w x → ¬ D x) : PlnR lo hi w' p P := by
  obtain ⟨A, k, SA, sc, h1, h2, h3⟩ := h.ex
  exact ⟨⟨A, k, SA, sc, h1.to c (hd p h1.lt h.at_ ⟨_, _, _, h1.blk⟩), h2.to c hd, h3.to c hd⟩, h.at_⟩
theorem PlnR.keep {lo hi : Nat} {w w' : World} {p : Nat} {P : Pln} (h : PlnR lo hi w p P) (c : Ch No w w') : PlnR lo hi w' p P := h.to c fun _ _ _ _ => id
theorem PlnR.weak {lo hi lo' hi' : Nat} {w : World} {p : Nat} {P : Pln} (h : PlnR lo hi w p P) (h1 : lo' ≤ lo) (h2 : hi ≤ hi') : PlnR lo' hi' w p P := by
  obtain ⟨A, k, SA, sc, e1, e2, e3⟩ := h.ex
  have := h.at_
  exact ⟨⟨A, k, SA, sc, e1, e2.weak (fun x h => ⟨by have := h.1; omega, by have := h.2; omega⟩), e3.weak (fun x h => ⟨by have := h.1; omega, by have := h.2; omega⟩)⟩, by omega, by omega⟩
def deepT (o : Ord) : ByteArray := (ByteArray.mk #[100, 101, 101, 112] ++ ByteArray.mk #[32]) ++ ByteArray.mk (tx o).toArray
def plnM (o : Ord) : Pln := ⟨o, 0, buildM o, deepT o⟩
set_option maxRecDepth 100000 in
theorem inf84w19 : Inf Tryz.prog 84 (.agg #[.int .i64 0, .int .i64 0, .slice none 0 0]) 3 40 := ⟨Tryz.t84, Tryz.type84, rfl, rfl, rfl⟩
theorem bld113_0_1_2_3w19 {v0_0 v0_1 v0_2 v1 v2_0 v2_1 v2_2 v2_3 v2_4 v3 : Value} (h : [v1, v3].all Value.oneCell' = true) (w : World) : (Instr.build 113 ([(0, .agg #[v0_0, v0_1, v0_2]), (1, v1), (2, .agg #[v2_0, v2_1, v2_2, v2_3, v2_4]), (3, v3)] : List (Nat × Value)).toArray).run Tryz.prog w = .ok (.agg #[v0_0, v0_1, v0_2, v1, v2_0, v2_1, v2_2, v2_3, v2_4, v3]) w := by
  simp only [List.all_cons, Bool.and_eq_true, List.all_nil, and_true] at h
  have hv1 := oneCell_cells (v := v1) (by simp_all)
  have hv3 := oneCell_cells (v := v3) (by simp_all)
  have h1 := fill_set (fun i => ([(0, 3), (3, 1), (4, 5), (9, 1)] : List (Nat × Nat))[i]?) [(0, .agg #[v0_0, v0_1, v0_2]), (1, v1), (2, .agg #[v2_0, v2_1, v2_2, v2_3, v2_4]), (3, v3)] [.int .i64 0, .int .i64 0, .slice none 0 0, .int .i64 0, .int .i64 0, .int .i64 0, .int .i64 0, .int .i64 0, .slice none 0 0, .string ⟨#[]⟩] (by simp [okF, agg_cells, hv1, hv3, Nat.beq, Nat.ble])
  simp [setF, agg_cells, hv1, hv3] at h1
  simp [Instr.build, Tryz.runUnderlying113, Tryz.zeroValue113, Tryz.sizeOf3, Tryz.sizeOf9, Tryz.sizeOf84, Tryz.sizeOf93, agg_cells, h1]
set_option maxHeartbeats 1000000 in
set_option maxRecDepth 100000 in
theorem c_Program (o : Ord) (A : Option Addr) (c lo hi : Nat) (w : World) (kd : RdK (In lo hi) w A o.kids) (hh : hi ≤ w.heap.size) (hl : o.len ≠ 0) (hf : (buildM o).full = false) (st : StT w) (hG : 24 ≤ w.heap.size) :
  Calls Tryz.prog 63 #[ordV o A c, .int .i64 0] w (Ret (fun v w' => ∃ SA sc, v = .tuple #[.agg #[.int .i64 (buildM o).ln, .int .i64 (buildM o).cl, .int .i64 (buildM o).i0, .int .i64 (buildM o).ou, .slice SA (buildM o).steps.length sc], .nilIface] ∧ SlR (In w.heap.size w'.heap.size) w' SA (buildM o).steps.length 7 (flatS (buildM o).steps) ∧ Ch No w w')) := by
 refine calls_of_VC (args := [ordV o A c, .int .i64 0]) Tryz.func63 rfl Tryz.ntmps63 rfl (VC.seq (VC.region (VO.wk (Wk.box rfl) rfl rfl rfl ?_)))
 rintro _ w1 ⟨p1, rfl, N1⟩
 have c1 := N1.ch
 have e1 := N1.p; have z1 := N1.size
 have b2 := Bk.new N1
 refine VO.wk (Wk.alloc Tryz.zeroValue93) rfl rfl rfl ?_
 rintro _ w2 ⟨p2, rfl, N2⟩
 have c2 := N2.ch
 have e2 := N2.p; have z2 := N2.size
 have b4 := Bk.new N2
 refine VO.mv (Rn.assign rfl) rfl rfl rfl (VO.nil (VQ.then_code (VC.seq (VC.region ?_))))
 have b2_2 := b2.keep c2
 refine VO.mv (Rn.loads Tryz.isAgg84 Tryz.sizeOf84 rfl rfl (b2_2.all' rfl)) rfl rfl rfl (VO.mv (Rn.move rfl) rfl rfl rfl ?_)
 have kd_2 := kd.keep (c1.trans c2)
 have st_2 := st.keep (c1.trans c2)
 refine VO.wk (Wk.call Tryz.call82 rfl (c_build _ _ _ _ _ _ kd_2 (by omega) hl hf st_2 (by omega))) rfl rfl rfl ?_
 rintro _ w3 ⟨q3, r3, rfl, bb3, yq3, yr3, c3⟩
 have lb3 := bb3.lt
 obtain ⟨bA3, bC3, bk3, rw3⟩ := id bb3
 have z3 := c3.size
 refine VO.mv (Rn.move rfl) rfl rfl rfl (VO.mv (Rn.extract rfl rfl) rfl rfl rfl (VO.mv (Rn.extract rfl rfl) rfl rfl rfl (VO.mv (Rn.assign rfl) rfl rfl rfl (VO.mv (Rn.assign rfl) rfl rfl rfl (VO.nil (VQ.then_code (VC.seq ?_)))))))
 refine VC.seq (VC.region (VO.mv (Rn.move rfl) rfl rfl rfl (VO.mv (Rn.nil_neq_nil Tryz.underlying29 rfl) rfl rfl rfl (VO.nil (VQ.then_code (VC.cond_false rfl (VC.skip ?_)))))))
 refine VQ.then_code (VC.seq (VC.region (VO.mv (Rn.move rfl) rfl rfl rfl (VO.mv (Rn.nilCheck rfl) rfl rfl rfl (VO.mv (Rn.field Tryz.underlying147 rfl Tryz.sizeOf93 rfl rfl rfl) rfl rfl rfl (VO.mv (Rn.loads Tryz.isAgg93 Tryz.sizeOf93 rfl rfl (bk3.part 5 rfl)) rfl rfl rfl ?_))))))
 have b4_3 := b4.keep c3
 refine VO.wk0 (Wk.puts Tryz.sizeOf93 rfl rfl rfl rfl b4_3 (Nat.le_of_ble_eq_true rfl)) rfl rfl ?_
 intro _ w4 Z4
 have c4 := Z4.ch; have z4 := Z4.size
 have b4_4 := Bk.put Z4
 refine VO.mv (Rn.assign rfl) rfl rfl rfl (VO.nil (VQ.then_code (VC.ret (VQ.retct rfl rfl Tryz.isAgg93 Tryz.sizeOf93 rfl (b4_4.all' rfl) rfl (Ret.mk ?_)))))
 have cc_0_4 : Ch No w w4 := (Ch.then (E := No) ((c1.and c2).and c3) c4 (by intro q h1 h2; rcases h2 with h2 | h2 <;> first | exact h2 | (exfalso; omega)))
 have CH_4 := (Ch.refl (No) w).and cc_0_4
 have row_4 := rw3.to c4 (by first | exact fun _ _ _ _ => id | (intro q h1 h2 hx h3; omega))
 have zz := CH_4.size; have yl := row_4.lt
 exact ⟨_, _, rfl, row_4.sl.weak (fun y h => ⟨by omega, by omega⟩), CH_4⟩
set_option maxRecDepth 100000 in
theorem plan_copied (m : Nat) : ∀ (o : Ord) (A : Option Addr) (c : Nat) (lo hi : Nat) (w : World) (_ : SizeOf.sizeOf o < m) (_ : RdK (In lo hi) w A o.kids) (_ : hi ≤ w.heap.size), Calls Tryz.prog 64 #[ordV o A c] w (Ret (fun v w' => ∃ A' c', v = ordV o A' c' ∧ RdK (In w.heap.size w'.heap.size) w' A' o.kids ∧ Ch No w w')) := by
 induction m with
 | zero => intros; omega
 | succ m ih =>
 intro o A c lo hi w hs kd hh
 refine calls_of_VC (args := [ordV o A c]) Tryz.func64 rfl Tryz.ntmps64 rfl ?_
 have kmax := kd.max
 refine VC.seq (VC.region (VO.wk (Wk.box rfl) rfl rfl rfl ?_))
 rintro _ w1 ⟨p1, rfl, N1⟩
 have c1 := N1.ch
 have e1 := N1.p; have z1 := N1.size
 have b1 := Bk.new N1
 refine VO.wk (Wk.alloc Tryz.zeroValue84) rfl rfl rfl ?_
 rintro _ w2 ⟨p2, rfl, N2⟩
 have c2 := N2.ch
 have e2 := N2.p; have z2 := N2.size
 have b2 := Bk.new N2
 refine VO.nil (VQ.then_code (VC.seq (VC.region (VO.mv (Rn.field Tryz.underlying84 rfl Tryz.sizeOf82 rfl rfl rfl) rfl rfl rfl ?_))))
 have b1_2 := b1.keep c2
 refine VO.mv (Rn.load Tryz.isAgg82 rfl (b1_2.cell rfl)) rfl rfl rfl (VO.mv (Rn.assign rfl) rfl rfl rfl (VO.nil (VQ.then_code (VC.seq (VC.region (VO.mv (Rn.field Tryz.underlying84 rfl Tryz.sizeOf82 rfl rfl rfl) rfl rfl rfl (VO.wk0 (Wk.put Tryz.sizeOf82 rfl rfl rfl rfl b1_2 rfl) rfl rfl ?_)))))))
 intro _ w3 Z3
 have c3 := Z3.ch; have z3 := Z3.size
 have b1_3 := Bk.put Z3
 refine VO.nil (VQ.then_code (VC.seq (VC.seq (VC.region (VO.mv (Rn.move rfl) rfl rfl rfl (VO.mv (Rn.len Tryz.underlying82 rfl) rfl rfl rfl (VO.mv (Rn.move rfl) rfl rfl rfl ?_)))))))
 refine VO.nil (VQ.then_code (VC.block ?_))
 have b2_3 := b2.to c3 (by first | exact id | omega)
 have cc_0_3 : Ch No w w3 := (Ch.then (E := No) (c1.and c2) c3 (by intro q h1 h2; rcases h2 with h2 | h2 <;> first | exact h2 | (exfalso; omega)))
 have kd_3 := kd.keep cc_0_3
 have CH_3 := (Ch.refl (No) w).and cc_0_3
 refine VC.loopS (σ := Nat) (fun i => [(1, .pointer (some ⟨p1, 0, none⟩)), (2, .pointer (some ⟨p2, 0, none⟩)), (9, .slice A o.kids.length c), (10, .int .i64 o.kids.length), (11, .int .i64 i)]) (fun i w' => ∃ r A1 c1 cs, i ≤ o.kids.length ∧ Bk w' p1 #[.int .i64 o.kind, .int .i64 o.n, .slice A1 i c1] 84 ∧ Bk w' p2 #[.int .i64 0, .int .i64 0, .slice none 0 0] 84 ∧ Ow w' r 84 3 A1 i c1 cs ∧ (r = 0 ∨ p2 + 1 < r) ∧ KidRow (fun q => p2 < q ∧ q < w'.heap.size ∧ r ≠ q + 1) w' cs (o.kids.take i) ∧ RdK (In lo hi) w' A o.kids ∧ Ch No w w') (fun i => o.kids.length - i) 0 ?_ ⟨rfl, rfl, rfl, rfl, rfl, trivial⟩ ?_
 · exact ⟨0, none, 0, [], Nat.zero_le _, b1_3, b2_3, Ow.nil _ _ _, .inl rfl, KidRow.nil _ _, kd_3, CH_3⟩
 rintro i w4 ⟨r, A1, c1, cs, hi_4, b1_4, b2_4, ow_4, hr_4, kw_4, kd_4, CH_4⟩
 show VC _ _ _ _ [(1, .pointer (some ⟨p1, 0, none⟩)), (2, .pointer (some ⟨p2, 0, none⟩)), (9, .slice A o.kids.length c), (10, .int .i64 o.kids.length), (11, .int .i64 i)] _
 have hln := ow_4.len; have y0 := ow_4.lt; have zc := CH_4.size; have l2 := b2_4.lt
 refine VC.seq (VC.region (VO.mv (Rn.lss rfl rfl) rfl rfl rfl (VO.nil (VQ.then_code (VC.seq (VC.cond_if rfl (fun hc1 => ?_) (fun hc1 => ?_)))))))
 ·
  refine VC.skip (VQ.then_code (VC.seq (VC.block (VC.seq ?_))))
  obtain ⟨ko, hko⟩ : ∃ ko, o.kids[i]? = some ko := ⟨_, List.getElem?_eq_getElem (by omega)⟩
  obtain ⟨kA, kc, ka, kr⟩ := kd_4.kid hko
  have hlt := kid_lt hko; have hlt2 := kids_lt o
  refine VC.region (VO.mv (Rn.indexS Tryz.underlying82 Tryz.sizeOf84 rfl rfl (kd_4.ne (by omega)) (by omega) (by omega)) rfl rfl rfl (VO.mv (Rn.loads Tryz.isAgg84 Tryz.sizeOf84 rfl rfl ka.1) rfl rfl rfl (VO.wk (Wk.alloc Tryz.zeroValue84) rfl rfl rfl ?_)))
  rintro _ w5 ⟨p5, rfl, N5⟩
  have c5 := N5.ch
  have e5 := N5.p; have z5 := N5.size
  have b5 := Bk.new N5
  refine VO.wk0 (Wk.puts Tryz.sizeOf84 rfl rfl rfl rfl b5 (Nat.le_of_ble_eq_true rfl)) rfl rfl ?_
  intro _ w6 Z6
  have c6 := Z6.ch; have z6 := Z6.size
  have b5_6 := Bk.put Z6
  refine VO.nil (VQ.then_code (VC.draws 7 [(0, true), (1, true), (2, true), (3, false), (4, false), (5, false), (6, true)] (fun w1 w' => Ch (At r) w1 w') mixed (by kernel_rfl) (fun _ _ => Ch.refl _ _) ?_))
  intro w7 D7
  have c7 := Ch.of_drew D7; have z7 := c7.size
  have cc_4_7 : Ch No w4 w7 := ((Ch.then (E := No) c5 c6 (by intro q h1 h2; rcases h2 with h2 | h2 <;> first | exact h2 | (exfalso; omega))).and c7)
  have b1_7 := b1_4.keep cc_4_7
  have b2_7 := b2_4.keep cc_4_7
  have ow_7 := ow_4.keep cc_4_7
  have ka_7 := ka.keep cc_4_7
  have b5_7 := b5_6.keep c7
  refine VH.mv (fun w' hS => Rn.field Tryz.underlying84 rfl Tryz.sizeOf82 rfl rfl rfl) rfl rfl rfl rfl (VH.mv (fun w' hS => Rn.load Tryz.isAgg82 rfl ((b1_7.to hS (by first | exact id | omega)).cell rfl)) rfl rfl rfl rfl (VH.mv (fun w' hS => Rn.loads Tryz.isAgg84 Tryz.sizeOf84 rfl rfl ((b5_7.to hS (by first | exact id | omega)).all' rfl)) rfl rfl rfl rfl ?_))
  have kr_7 := kr.keep cc_4_7
  refine VH.wk (Wk.call Tryz.call64 rfl (ih ko _ _ _ _ _ (by omega) kr_7 (by omega))) rfl rfl rfl rfl ?_
  rintro _ w8 ⟨nA8, nc8, rfl, kn8, c8⟩
  have z8 := c8.size
  have RD_8 := (Ch.refl (At r) w7).and c8
  refine ⟨RD_8, ?_⟩
  refine VH.wk (Wk.lit Tryz.underlying82 inf84w19 (by decide) rfl rfl (by rfl) (by decide) (by decide) (by rfl)) rfl rfl rfl rfl ?_
  rintro _ w9 ⟨p9, rfl, N9⟩
  have c9 := N9.ch
  have e9 := N9.p; have z9 := N9.size
  have l19 := SlR.of_new (sz := 3) (l := 1) N9 rfl
  have l19o := Ow.of_new (sz := 3) (l := 1) N9 rfl (by decide)
  have RD_9 := RD_8.and c9
  refine ⟨RD_9, ?_⟩
  have ow_9 := ow_7.keep (c8.trans c9)
  refine VH.wk (Wk.append (S := _) Tryz.underlying82 inf84w19 rfl (by decide) rfl rfl ow_9 l19 (by rfl) (fun h => by simp at h) (by omega) (by simp only [maxLen]; omega)) rfl rfl rfl rfl ?_
  rintro _ w10 ⟨r10, A10, k10, rfl, o10, c10, q10⟩
  have z10 := c10.size
  have y10 := o10.lt
  have RD_10 : Ch (At r) w7 w10 := RD_9.then c10 (by intro q h1 h2; rcases h2 with h2 | h2 <;> first | exact h2 | (exfalso; omega) | omega)
  refine ⟨RD_10, ?_⟩
  refine VH.mv (fun w' hS => Rn.field Tryz.underlying84 rfl Tryz.sizeOf82 rfl rfl rfl) rfl rfl rfl rfl (VH.done ?_)
  have b1_9 := b1_7.keep (c8.trans c9)
  have b1_10 := b1_9.to c10 (by first | exact id | omega)
  refine VO.wk0 (Wk.put Tryz.sizeOf82 rfl rfl rfl rfl b1_10 rfl) rfl rfl ?_
  intro _ w11 Z11
  have c11 := Z11.ch; have z11 := Z11.size
  have b1_11 := Bk.put Z11
  refine VO.nil (VQ.noPanic (VQ.block_normal (VQ.then_code (VC.region ?_))))
  refine VO.mv (Rn.add rfl rfl (by rw [IntKind.wrap_i64]; omega)) rfl rfl rfl ?_
  refine VO.mv (Rn.move rfl) rfl rfl rfl (VO.nil ?_)
  refine VQ.round (i + 1) (by first | omega | (dsimp only; omega)) ?_ ⟨rfl, rfl, rfl, rfl, rfl, trivial⟩
  have e : (o.kids.take (i + 1)) = o.kids.take i ++ [ko] := by rw [List.take_add_one, hko]; rfl
  have b2_9 := b2_7.keep (c8.trans c9)
  have b2_10 := b2_9.to c10 (by first | exact id | omega)
  have b2_11 := b2_10.to c11 (by first | exact id | omega)
  have ow_11 := o10.to c11 (by first | exact fun _ _ _ _ => id | (intro q h1 h2 hx h3; omega))
  have cc_4_9 : Ch No w4 w9 := ((((Ch.then (E := No) c5 c6 (by intro q h1 h2; rcases h2 with h2 | h2 <;> first | exact h2 | (exfalso; omega))).and c7).and c8).and c9)
  have kd_9 := kd_4.keep cc_4_9
  have kd_10 := kd_9.to c10 (by first | exact fun _ _ _ _ => id | (intro q h1 h2 hx h3; omega))
  have kd_11 := kd_10.to c11 (by first | exact fun _ _ _ _ => id | (intro q h1 h2 hx h3; omega))
  have CH_9 := CH_4.and cc_4_9
  have CH_10 : Ch (No) w w10 := CH_9.then c10 (by intro q h1 h2; rcases h2 with h2 | h2 <;> first | exact h2 | (exfalso; omega) | omega)
  have CH_11 : Ch (No) w w11 := CH_10.then c11 (by intro q h1 h2; rcases h2 with h2 | h2 <;> first | exact h2 | (exfalso; omega) | omega)
  refine ⟨_, _, _, _, by omega, b1_11, b2_11, ow_11, by omega, ?_, kd_11, CH_11⟩
  have kw_9 := kw_4.keep cc_4_9
  have kw_10 := kw_9.to c10 (by first | exact fun _ _ _ _ => id | (intro q h1 h2 hx h3; omega))
  have kw_11 := kw_10.to c11 (by first | exact fun _ _ _ _ => id | (intro q h1 h2 hx h3; omega))
  have hl := kw_11
  rw [e]
  have hlen : cs.length = (o.kids.take i).length * 3 := by rw [List.length_take, Nat.min_eq_left (by omega)]; exact hln
  have kn_9 := kn8.keep c9
  have kn_10 := kn_9.to c10 (by first | exact fun _ _ _ _ => id | (intro q h1 h2 hx h3; omega))
  have kn_11 := kn_10.to c11 (by first | exact fun _ _ _ _ => id | (intro q h1 h2 hx h3; omega))
  exact ((hl.weak (fun q h => ⟨h.1, by omega, by omega⟩)).snoc hlen ((kn_11).weak (fun q h => ⟨by omega, by omega, by omega⟩)))
 ·
  refine VC.exit (VQ.then_exit (VQ.then_exit (VQ.block_exit (VQ.then_code (VC.seq (VC.region (VO.mv (Rn.loads Tryz.isAgg84 Tryz.sizeOf84 rfl rfl (b1_4.all' rfl)) rfl rfl rfl ?_)))))))
  refine VO.wk0 (Wk.puts Tryz.sizeOf84 rfl rfl rfl rfl b2_4 (Nat.le_of_ble_eq_true rfl)) rfl rfl ?_
  intro _ w12 Z12
  have c12 := Z12.ch; have z12 := Z12.size
  have b2_12 := Bk.put Z12
  refine VO.nil (VQ.then_code (VC.ret (VQ.retc rfl rfl Tryz.isAgg84 Tryz.sizeOf84 rfl (b2_12.all' rfl) (Ret.mk ?_))))
  have hi' : i = o.kids.length := by omega
  subst hi'
  have kw_12 := kw_4.to c12 (by first | exact fun _ _ _ _ => id | (intro q h1 h2 hx h3; omega))
  have hk := kw_12
  rw [List.take_length] at hk
  have ow_12 := ow_4.to c12 (by first | exact fun _ _ _ _ => id | (intro q h1 h2 hx h3; omega))
  have CH_12 : Ch (No) w w12 := CH_4.then c12 (by intro q h1 h2; rcases h2 with h2 | h2 <;> first | exact h2 | (exfalso; omega) | omega)
  have yl := ow_12.lt; have zz := CH_12.size
  exact ⟨_, _, rfl, ((hk.weak (fun q h => ⟨by omega, by omega⟩)).rd (ow_12.sl.weak (fun q h => ⟨by omega, by omega⟩)) kmax), CH_12⟩
set_option maxRecDepth 100000 in
theorem word_deep (w : World) :
  Calls Tryz.prog 47 #[.int .i64 0] w (Ret (fun v w' => v = .string ⟨#[100, 101, 101, 112]⟩ ∧ w = w')) := by
 refine calls_of_VC (args := [.int .i64 0]) Tryz.func47 rfl Tryz.ntmps47 rfl (VC.seq (VC.region (VO.mv (Rn.assign rfl) rfl rfl rfl (VO.nil (VQ.then_code (VC.seq (VC.seq ?_)))))))
 refine VC.region (VO.mv (Rn.move rfl) rfl rfl rfl (VO.nil (VQ.then_code (VC.block (VC.seq (VC.region (VO.mv (Rn.eql rfl rfl) rfl rfl rfl ?_)))))))
 refine VO.mv (Rn.assign rfl) rfl rfl rfl (VO.nil (VQ.then_code (VC.cond_if rfl (fun hc1 => ?_) (fun hc1 => ?_))))
 ·
  refine VC.seq (VC.region (VO.mv (Rn.assign rfl) rfl rfl rfl (VO.nil (VQ.then_code (VC.ret (VQ.block_ret (VQ.then_ret ?_)))))))
  refine VQ.ret1 rfl rfl (Ret.mk ?_)
  exact ⟨rfl, rfl⟩
 ·
  exact absurd rfl hc1
set_option maxHeartbeats 1000000 in
set_option maxRecDepth 100000 in
theorem plan_Of (o : Ord) (A : Option Addr) (c lo hi : Nat) (w : World) (kd : RdK (In lo hi) w A o.kids) (hh : hi ≤ w.heap.size) (hl : o.len ≠ 0) (hf : (buildM o).full = false) (st : StT w) (tab : TabB w.heap.size w) (hG : 24 ≤ w.heap.size) :
  Calls Tryz.prog 49 #[ordV o A c, .int .i64 0] w (Ret (fun v w' => ∃ p, v = .tuple #[.pointer (some ⟨p, 0, none⟩), .nilIface] ∧ PlnR w.heap.size w'.heap.size w' p (plnM o) ∧ Ch No w w')) := by
 have hg := (GO.of_len hl).okO
 have hg0 := hl
 have htb := tx_bd hl
 have hx := htb.1
 have hle : (tx o).length ≤ 900000 := by omega
 refine calls_of_VC (args := [ordV o A c, .int .i64 0]) Tryz.func49 rfl Tryz.ntmps49 rfl (VC.seq (VC.region (VO.wk (Wk.box rfl) rfl rfl rfl ?_)))
 rintro _ w1 ⟨p1, rfl, N1⟩
 have c1 := N1.ch
 have e1 := N1.p; have z1 := N1.size
 have b2 := Bk.new N1
 refine VO.mv (Rn.assign rfl) rfl rfl rfl (VO.mv (Rn.assign rfl) rfl rfl rfl (VO.nil (VQ.then_code (VC.seq (VC.seq (VC.region (VO.mv (Rn.move rfl) rfl rfl rfl ?_)))))))
 refine VO.wk (Wk.call Tryz.call47 rfl (word_deep _)) rfl rfl rfl ?_
 rintro _ _ ⟨rfl, rfl⟩
 refine VO.mv (Rn.str_eql rfl rfl) rfl rfl rfl (VO.nil (VQ.then_code (VC.cond rfl (fun hc1 => ?_) (fun hc1 => ?_))))
 ·
  try simp only [Bool.and_eq_true, Bool.or_eq_true, Bool.not_eq_true', Bool.not_eq_false', Bool.and_eq_false_iff, Bool.or_eq_false_iff, decide_eq_true_eq, decide_eq_false_iff_not] at hc1
  cases (hc1.symm.trans (show _ = false by kernel_rfl))
 ·
  try simp only [Bool.and_eq_true, Bool.or_eq_true, Bool.not_eq_true', Bool.not_eq_false', Bool.and_eq_false_iff, Bool.or_eq_false_iff, decide_eq_true_eq, decide_eq_false_iff_not] at hc1
  refine VC.skip (VQ.then_code (VC.seq (VC.region (VO.mv (Rn.loads Tryz.isAgg84 Tryz.sizeOf84 rfl rfl (b2.all' rfl)) rfl rfl rfl ?_))))
  have kd_1 := kd.keep c1
  have tab_1 := tab.keep c1
  refine VO.wk (Wk.call Tryz.call62 rfl (order_Text _ _ _ _ _ _ kd_1 (by omega) hg hg0 hx hle ((tab_1).up (by omega)))) rfl rfl rfl ?_
  rintro _ w2 ⟨rfl, c2⟩
  have z2 := c2.size
  refine VO.mv (Rn.move rfl) rfl rfl rfl (VO.mv (Rn.extract rfl rfl) rfl rfl rfl (VO.mv (Rn.extract rfl rfl) rfl rfl rfl (VO.mv (Rn.assign rfl) rfl rfl rfl (VO.mv (Rn.assign rfl) rfl rfl rfl (VO.nil (VQ.then_code (VC.seq ?_)))))))
  refine VC.seq (VC.region (VO.mv (Rn.move rfl) rfl rfl rfl (VO.mv (Rn.nil_neq_nil Tryz.underlying29 rfl) rfl rfl rfl (VO.nil (VQ.then_code (VC.cond_false rfl (VC.skip ?_)))))))
  refine VQ.then_code (VC.seq (VC.region ?_))
  have b2_2 := b2.keep c2
  refine VO.mv (Rn.loads Tryz.isAgg84 Tryz.sizeOf84 rfl rfl (b2_2.all' rfl)) rfl rfl rfl (VO.mv (Rn.move rfl) rfl rfl rfl ?_)
  have kd_2 := kd_1.keep c2
  have st_2 := st.keep (c1.trans c2)
  refine VO.wk (Wk.call Tryz.call63 rfl (c_Program _ _ _ _ _ _ kd_2 (by omega) hl hf st_2 (by omega))) rfl rfl rfl ?_
  rintro _ w3 ⟨sA3, sC3, rfl, ss3, c3⟩
  have z3 := c3.size
  refine VO.mv (Rn.move rfl) rfl rfl rfl (VO.mv (Rn.extract rfl rfl) rfl rfl rfl (VO.mv (Rn.extract rfl rfl) rfl rfl rfl (VO.wk (Wk.alloc Tryz.zeroValue93) rfl rfl rfl ?_)))
  rintro _ w4 ⟨p4, rfl, N4⟩
  have c4 := N4.ch
  have e4 := N4.p; have z4 := N4.size
  have b8 := Bk.new N4
  refine VO.wk0 (Wk.puts Tryz.sizeOf93 rfl rfl rfl rfl b8 (Nat.le_of_ble_eq_true rfl)) rfl rfl ?_
  intro _ w5 Z5
  have c5 := Z5.ch; have z5 := Z5.size
  have b8_5 := Bk.put Z5
  refine VO.mv (Rn.assign rfl) rfl rfl rfl (VO.nil (VQ.then_code (VC.seq (VC.seq (VC.region (VO.mv (Rn.move rfl) rfl rfl rfl (VO.mv (Rn.nil_neq_nil Tryz.underlying29 rfl) rfl rfl rfl ?_)))))))
  refine VO.nil (VQ.then_code (VC.cond_false rfl (VC.skip (VQ.then_code (VC.seq (VC.draws 12 [(0, true), (2, true), (3, true), (4, true), (7, true), (1, false), (5, false), (6, true), (8, true), (9, true), (10, false), (11, true)] (fun w1 w' => Ch (No) w1 w') mixed (by kernel_rfl) (fun _ _ => Ch.refl _ _) ?_))))))
  intro w6 D6
  have c6 := Ch.of_drew D6; have z6 := c6.size
  have cc_2_6 : Ch No w2 w6 := ((Ch.then (E := No) (c3.and c4) c5 (by intro q h1 h2; rcases h2 with h2 | h2 <;> first | exact h2 | (exfalso; omega))).and c6)
  have b2_6 := b2_2.keep cc_2_6
  have cc_3_6 : Ch No w3 w6 := ((Ch.then (E := No) c4 c5 (by intro q h1 h2; rcases h2 with h2 | h2 <;> first | exact h2 | (exfalso; omega))).and c6)
  have ss_6 := ss3.keep cc_3_6
  have b8_6 := b8_5.keep c6
  refine VH.mv (fun w' hS => Rn.loads Tryz.isAgg84 Tryz.sizeOf84 rfl rfl ((b2_6.keep hS).all' rfl)) rfl rfl rfl rfl (VH.mv (fun w' hS => Rn.move rfl) rfl rfl rfl rfl (VH.mv (fun w' hS => Rn.loads Tryz.isAgg93 Tryz.sizeOf93 rfl rfl ((b8_6.keep hS).all' rfl)) rfl rfl rfl rfl (VH.mv (fun w' hS => Rn.move rfl) rfl rfl rfl rfl (VH.mv (fun w' hS => Rn.move rfl) rfl rfl rfl rfl ?_))))
  have kd_6 := kd_2.keep cc_2_6
  refine VH.wk (Wk.call Tryz.call64 rfl (plan_copied _ _ _ _ _ _ _ (Nat.lt_succ_self _) kd_6 (by omega))) rfl rfl rfl rfl ?_
  rintro _ w7 ⟨nA7, nc7, rfl, kn7, c7⟩
  have z7 := c7.size
  have RD_7 := (Ch.refl (No) w6).and c7
  refine ⟨RD_7, ?_⟩
  refine VH.wk (Wk.call Tryz.call47 rfl (word_deep _)) rfl rfl rfl rfl ?_
  rintro _ _ ⟨rfl, rfl⟩
  refine ⟨RD_7, ?_⟩
  refine VH.mv (fun w' hS => Rn.str_cat rfl rfl (by decide)) rfl rfl rfl rfl ?_
  refine VH.mv (fun w' hS => Rn.str_cat rfl rfl (by simp [ByteArray.size]; omega)) rfl rfl rfl rfl ?_
  refine VH.mv (fun w' hS => Rn.build (v := .agg #[.int .i64 o.kind, .int .i64 o.n, .slice nA7 o.kids.length nc7, .int .i64 0, .int .i64 (buildM o).ln, .int .i64 (buildM o).cl, .int .i64 (buildM o).i0, .int .i64 (buildM o).ou, .slice sA3 (buildM o).steps.length sC3, .string (deepT o)]) rfl (bld113_0_1_2_3w19 rfl)) rfl rfl rfl rfl (VH.wk (Wk.box rfl) rfl rfl rfl rfl ?_)
  rintro _ w8 ⟨p8, rfl, N8⟩
  have c8 := N8.ch
  have e8 := N8.p; have z8 := N8.size
  have b40 := Bk.new N8
  have RD_8 := RD_7.and c8
  refine ⟨RD_8, ?_⟩
  refine VH.mv (fun w' hS => Rn.assign rfl) rfl rfl rfl rfl (VH.done (VO.mv (Rn.assign rfl) rfl rfl rfl (VO.nil (VQ.noPanic (VQ.then_code (VC.ret (VQ.ret2 rfl rfl rfl ?_)))))))
  refine Ret.mk ?_
  have cc_0_8 : Ch No w w8 := ((((Ch.then (E := No) (((c1.and c2).and c3).and c4) c5 (by intro q h1 h2; rcases h2 with h2 | h2 <;> first | exact h2 | (exfalso; omega))).and c6).and c7).and c8)
  have CH_8 := (Ch.refl (No) w).and cc_0_8
  have zz := CH_8.size
  have kn_8 := kn7.keep c8
  have ss_8 := ss_6.keep (c7.trans c8)
  exact ⟨_, rfl, ⟨⟨_, _, _, _, b40, (kn_8).weak (fun y h => ⟨by omega, by omega⟩), (ss_8).weak (fun y h => ⟨by omega, by omega⟩)⟩, by omega, by omega⟩, CH_8⟩
end Go.Tm
namespace Go.Tm
open Go.RowKit Go.Proofs
def PU : Pol := ⟨16, [2, 3, 4, 5], 13⟩
def HasP (P : Pol) (n : Int) : Prop := ∀ r, Best P n r → r.1.len = n ∧ (buildM r.1).full = false
set_option maxRecDepth 100000 in
theorem plan_With (P : Pol) (hp : PolOk P) (hlen : P.flies.length ≤ 100) (n : Int) (hn : 1 ≤ n) (hn2 : n ≤ 4096) (hc : HasP P n) (FA : Option Addr) (fc lo hi : Nat) (w : World) (sl : SlR (In lo hi) w FA P.flies.length 1 (P.flies.map (.int .i64 ·))) (hh : hi ≤ w.heap.size) (st : StT w) (tab : TabB w.heap.size w) (hG : 24 ≤ w.heap.size) :
  Calls Tryz.prog 38 #[.int .i64 n, .agg #[.int .i64 P.direct, .slice FA P.flies.length fc, .int .i64 P.prime], .int .i64 0] w (Ret (fun v w' => ∃ p r, v = .tuple #[.pointer (some ⟨p, 0, none⟩), .nilIface] ∧ Best P n r ∧ PlnR w.heap.size w'.heap.size w' p (plnM r.1) ∧ Ch No w w')) := by
 refine calls_of_VC (args := [.int .i64 n, .agg #[.int .i64 P.direct, .slice FA P.flies.length fc, .int .i64 P.prime], .int .i64 0]) Tryz.func38 rfl Tryz.ntmps38 rfl (VC.seq (VC.region (VO.wk (Wk.box rfl) rfl rfl rfl ?_)))
 rintro _ w1 ⟨p1, rfl, N1⟩
 have c1 := N1.ch
 have e1 := N1.p; have z1 := N1.size
 have b4 := Bk.new N1
 refine VO.mv (Rn.assign rfl) rfl rfl rfl (VO.mv (Rn.assign rfl) rfl rfl rfl (VO.nil (VQ.then_code (VC.seq (VC.seq (VC.region (VO.mv (Rn.move rfl) rfl rfl rfl ?_)))))))
 refine VO.wk (Wk.call Tryz.call47 rfl (word_deep _)) rfl rfl rfl ?_
 rintro _ _ ⟨rfl, rfl⟩
 refine VO.mv (Rn.str_eql rfl rfl) rfl rfl rfl (VO.nil (VQ.then_code (VC.cond rfl (fun hc1 => ?_) (fun hc1 => ?_))))
 ·
  try simp only [Bool.and_eq_true, Bool.or_eq_true, Bool.not_eq_true', Bool.not_eq_false', Bool.and_eq_false_iff, Bool.or_eq_false_iff, decide_eq_true_eq, decide_eq_false_iff_not] at hc1
  cases (hc1.symm.trans (show _ = false by kernel_rfl))
 ·
  try simp only [Bool.and_eq_true, Bool.or_eq_true, Bool.not_eq_true', Bool.not_eq_false', Bool.and_eq_false_iff, Bool.or_eq_false_iff, decide_eq_true_eq, decide_eq_false_iff_not] at hc1
  refine VC.skip (VQ.then_code (VC.seq (VC.region (VO.mv (Rn.move rfl) rfl rfl rfl (VO.mv (Rn.loads Tryz.isAgg71 Tryz.sizeOf71 rfl rfl (b4.all' rfl)) rfl rfl rfl ?_)))))
  have sl_1 := sl.keep c1
  refine VO.wk (Wk.call Tryz.call48 rfl (planner_Choose P hp (by omega) _ (by omega) (by omega) _ _ _ _ _ sl_1 (by omega))) rfl rfl rfl ?_
  rintro _ w2 ⟨r, rA, rc, rfl, hr1, rk, c2⟩
  have z2 := c2.size
  have hl : r.1.len ≠ 0 := by rw [(hc r hr1).1]; omega
  have hf := (hc r hr1).2
  refine VO.mv (Rn.move rfl) rfl rfl rfl (VO.mv (Rn.extract rfl rfl) rfl rfl rfl (VO.mv (Rn.extract rfl rfl) rfl rfl rfl (VO.wk (Wk.alloc Tryz.zeroValue84) rfl rfl rfl ?_)))
  rintro _ w3 ⟨p3, rfl, N3⟩
  have c3 := N3.ch
  have e3 := N3.p; have z3 := N3.size
  have b8 := Bk.new N3
  refine VO.wk0 (Wk.puts Tryz.sizeOf84 rfl rfl rfl rfl b8 (Nat.le_of_ble_eq_true rfl)) rfl rfl ?_
  intro _ w4 Z4
  have c4 := Z4.ch; have z4 := Z4.size
  have b8_4 := Bk.put Z4
  refine VO.mv (Rn.assign rfl) rfl rfl rfl (VO.nil (VQ.then_code (VC.seq (VC.seq (VC.region (VO.mv (Rn.move rfl) rfl rfl rfl (VO.mv (Rn.nil_neq_nil Tryz.underlying29 rfl) rfl rfl rfl ?_)))))))
  refine VO.nil (VQ.then_code (VC.cond_false rfl (VC.skip (VQ.then_code (VC.seq (VC.region (VO.mv (Rn.loads Tryz.isAgg84 Tryz.sizeOf84 rfl rfl (b8_4.all' rfl)) rfl rfl rfl ?_)))))))
  refine VO.mv (Rn.move rfl) rfl rfl rfl ?_
  have cc_2_4 : Ch No w2 w4 := (Ch.then (E := No) c3 c4 (by intro q h1 h2; rcases h2 with h2 | h2 <;> first | exact h2 | (exfalso; omega)))
  have rk_4 := rk.keep cc_2_4
  have cc_0_4 : Ch No w w4 := (Ch.then (E := No) ((c1.and c2).and c3) c4 (by intro q h1 h2; rcases h2 with h2 | h2 <;> first | exact h2 | (exfalso; omega)))
  have st_4 := st.keep cc_0_4
  have tab_4 := tab.keep cc_0_4
  refine VO.wk (Wk.call Tryz.call49 rfl (plan_Of _ _ _ _ _ _ rk_4 (by omega) hl hf st_4 ((tab_4).up (by omega)) (by omega))) rfl rfl rfl ?_
  rintro _ w5 ⟨p5, rfl, pl5, c5⟩
  have z5 := c5.size
  refine VO.mv (Rn.extract rfl rfl) rfl rfl rfl (VO.mv (Rn.extract rfl rfl) rfl rfl rfl (VO.mv (Rn.assign rfl) rfl rfl rfl (VO.mv (Rn.assign rfl) rfl rfl rfl (VO.nil (VQ.then_code (VC.ret (VQ.ret2 rfl rfl rfl ?_)))))))
  refine Ret.mk ?_
  have cc_0_5 : Ch No w w5 := ((Ch.then (E := No) ((c1.and c2).and c3) c4 (by intro q h1 h2; rcases h2 with h2 | h2 <;> first | exact h2 | (exfalso; omega))).and c5)
  have CH_5 := (Ch.refl (No) w).and cc_0_5
  have zz := CH_5.size
  exact ⟨_, r, rfl, hr1, (pl5).weak (by omega) (by omega), CH_5⟩
set_option maxRecDepth 100000 in
theorem plan_New (n : Int) (hn : 1 ≤ n) (hn2 : n ≤ 4096) (hc : HasP PU n) (w : World) (st : StT w) (tab : TabB w.heap.size w) (hG : 24 ≤ w.heap.size) :
  Calls Tryz.prog 28 #[.int .i64 n] w (Ret (fun v w' => ∃ p r, v = .tuple #[.pointer (some ⟨p, 0, none⟩), .nilIface] ∧ Best PU n r ∧ PlnR w.heap.size w'.heap.size w' p (plnM r.1) ∧ Ch No w w')) := by
 refine calls_of_VC (args := [.int .i64 n]) Tryz.func28 rfl Tryz.ntmps28 rfl (VC.seq (VC.region (VO.mv (Rn.assign rfl) rfl rfl rfl (VO.mv (Rn.assign rfl) rfl rfl rfl (VO.nil (VQ.then_code (VC.seq ?_)))))))
 refine VC.region (VO.mv (Rn.move rfl) rfl rfl rfl (VO.wk (Wk.call Tryz.call39 rfl (planner_Usual _)) rfl rfl rfl ?_))
 rintro _ w1 ⟨FA, fc, rfl, sl, c1⟩
 have z1 := c1.size
 have st_1 := st.keep c1
 have tab_1 := tab.keep c1
 refine VO.wk (Wk.call Tryz.call38 rfl (plan_With PU (by refine ⟨by decide, by decide, by decide, by decide, ?_⟩; intro i r h; match i, h with | 0, h => (simp [PU] at h; subst h; decide) | 1, h => (simp [PU] at h; subst h; decide) | 2, h => (simp [PU] at h; subst h; decide) | 3, h => (simp [PU] at h; subst h; decide) | (i + 4), h => simp [PU] at h) (by decide) n hn hn2 hc _ _ _ _ _ sl (by omega) st_1 ((tab_1).up (by omega)) (by omega))) rfl rfl rfl ?_
 rintro _ w2 ⟨p2, r, rfl, hr1, pl2, c2⟩
 have z2 := c2.size
 refine VO.mv (Rn.extract rfl rfl) rfl rfl rfl (VO.mv (Rn.extract rfl rfl) rfl rfl rfl (VO.mv (Rn.assign rfl) rfl rfl rfl (VO.mv (Rn.assign rfl) rfl rfl rfl (VO.nil (VQ.then_code (VC.ret (VQ.ret2 rfl rfl rfl ?_)))))))
 refine Ret.mk ?_
 have CH_2 := (Ch.refl (No) w).and (c1.trans c2)
 have zz := CH_2.size
 exact ⟨_, r, rfl, hr1, (pl2).weak (by omega) (by omega), CH_2⟩
end Go.Tm
namespace Go.Tm
def chkB (n : Int) : Bool := match bestF PU 30 n with
  | some r => decide (r.1.len = n) && !(buildM r.1).full
  | none => false
theorem HasP.of_chk {n : Int} (h : chkB n = true) : HasP PU n := by
  intro r hr
  unfold chkB at h
  cases hb : bestF PU 30 n with
  | none => rw [hb] at h; cases h
  | some r' =>
    rw [hb] at h
    have : r = r' := hr.unique ⟨30, hb⟩
    subst this
    simpa using h
set_option maxRecDepth 100000 in
theorem chk24 : ((List.range 24).all fun k : Nat => chkB ((k : Int) + 1)) = true := by kernel_rfl
theorem hasP24 (n : Int) (h1 : 1 ≤ n) (h2 : n ≤ 24) : HasP PU n := by
  refine HasP.of_chk ?_
  have h := List.all_eq_true.1 chk24 (n - 1).toNat (by simp; omega)
  rwa [show (((n - 1).toNat : Nat) : Int) + 1 = n by omega] at h
end Go.Tm
namespace Go.Tm
open Go.RowKit Go.Proofs
structure WrR (w : World) (q r : Nat) (bs : List UInt8) : Prop where
  ex : ∃ A c, Bk w q #[.slice A bs.length c] 174 ∧ Ow w r 5 1 A bs.length c (Lib.byteCells bs)
theorem WrR.to {D : Nat → Prop} {w w' : World} {q r : Nat} {bs : List UInt8} (h : WrR w q r bs) (c : Ch D w w') (hd : ∀ x, x < w.heap.size → QR q r x → x = x → ¬ D x) : WrR w' q r bs := by
  obtain ⟨A, k, h1, h2⟩ := h
  exact ⟨A, k, h1.to c (hd q h1.lt (.inl rfl) rfl), h2.to c (fun x h3 h4 h5 => hd x h3 (.inr h4) rfl)⟩
theorem WrR.keep {w w' : World} {q r : Nat} {bs : List UInt8} (h : WrR w q r bs) (c : Ch No w w') : WrR w' q r bs := h.to c fun _ _ _ _ => id
theorem WrR.lt {w : World} {q r : Nat} {bs : List UInt8} (h : WrR w q r bs) : q < w.heap.size ∧ r ≤ w.heap.size ∧ r ≠ q + 1 := by
  obtain ⟨A, k, h1, h2⟩ := h
  refine ⟨h1.lt, h2.lt, fun e => ?_⟩
  rcases h2.2 with ⟨_, _, _, h⟩ | ⟨g, cur, _, h3, h4, _⟩
  · omega
  · have : g = q := by omega
    subst this
    rw [h1.blk] at h4
    injection h4 with h4
    injection h4 with _ h5
    exact absurd h5 (by decide)
theorem byte_one (bs : List UInt8) : (Lib.byteCells bs).all Value.oneCell' = true := by
  simp [Lib.byteCells, Value.oneCell']
def planN (N : Int) : Int := 1 + (IntKind.u64.wrap N) % 24
theorem Ow.nilc {w : World} {r : Nat} {e : TypeId} {sz : Nat} {A : Option Addr} {l c : Nat} {cs : List Value} (h : Ow w r e sz A l c cs) (hA : A = none) : c = 0 := by
  rcases h.2 with ⟨_, _, h, _⟩ | ⟨g, cur, h, _⟩
  · exact h
  · rw [hA] at h; cases h
set_option maxRecDepth 100000 in
theorem inf5w28 : Inf Tryz.prog 5 (.int .u8 0) 1 1 := ⟨Tryz.t5, Tryz.type5, rfl, rfl, rfl⟩
theorem build174w28 {ps : List (Nat × Value)} {cs : Array Value} (h : Instr.fill (fun i => ([(0, 1)] : List (Nat × Nat))[i]?) #[.slice none 0 0] ps = some cs) (w : World) : (Instr.build 174 ps.toArray).run Tryz.prog w = .ok (.agg cs) w := by
  simp [Instr.build, Tryz.runUnderlying174, Tryz.zeroValue174, Tryz.sizeOf115, Value.cells, h]
set_option maxRecDepth 100000 in
theorem pack_New (w : World) :
  Calls Tryz.prog 84 #[] w (Ret (fun v w' => ∃ q, v = .pointer (some ⟨q, 0, none⟩) ∧ WrR w' q 0 [] ∧ w.heap.size ≤ q ∧ Ch No w w')) := by
 refine calls_of_VC (args := []) Tryz.func84 rfl Tryz.ntmps84 rfl (VC.seq (VC.region (VO.mv (Rn.assign rfl) rfl rfl rfl (VO.nil (VQ.then_code (VC.seq (VC.region ?_)))))))
 refine VO.mv (Rn.build rfl (build174w28 rfl)) rfl rfl rfl (VO.wk (Wk.box rfl) rfl rfl rfl ?_)
 rintro _ w1 ⟨p1, rfl, N1⟩
 have c1 := N1.ch
 have e1 := N1.p; have z1 := N1.size
 have b2 := Bk.new N1
 refine VO.mv (Rn.assign rfl) rfl rfl rfl (VO.nil (VQ.then_code (VC.ret (VQ.ret1 rfl rfl (Ret.mk ?_)))))
 have CH_1 := (Ch.refl (No) w).and c1
 exact ⟨_, rfl, ⟨none, 0, b2, Ow.nil _ _ _⟩, by omega, CH_1⟩
set_option maxRecDepth 100000 in
theorem pack_Out (q r : Nat) (bs : List UInt8) (w : World) (wr : WrR w q r bs) (hl : bs.length ≤ 1000000000000) :
  Calls Tryz.prog 89 #[.pointer (some ⟨q, 0, none⟩)] w (Ret (fun v w' => ∃ r' A' c', v = .slice A' bs.length c' ∧ Ow w' r' 5 1 A' bs.length c' (Lib.byteCells bs) ∧ (r' = 0 ∨ w.heap.size < r') ∧ Ch No w w')) := by
 obtain ⟨A, c, bk, row⟩ := id wr
 have lw := wr.lt; have lrow := row.lt
 refine calls_of_VC (args := [.pointer (some ⟨q, 0, none⟩)]) Tryz.func89 rfl Tryz.ntmps89 rfl (VC.seq (VC.region (VO.mv (Rn.assign rfl) rfl rfl rfl (VO.nil (VQ.then_code (VC.seq (VC.region ?_)))))))
 refine VO.mv (Rn.move rfl) rfl rfl rfl (VO.mv (Rn.nilCheck rfl) rfl rfl rfl (VO.mv (Rn.field Tryz.underlying174 rfl Tryz.sizeOf115 rfl rfl rfl) rfl rfl rfl (VO.mv (Rn.load Tryz.isAgg115 rfl (bk.cell rfl)) rfl rfl rfl ?_)))
 refine VO.wk (Wk.append (S := _) Tryz.underlying115 inf5w28 rfl (by decide) rfl rfl (Ow.nil _ _ _) row.sl (byte_one _) (fun _ h => row.nilc h) (by omega) (by simp only [maxLen]; omega)) rfl rfl rfl ?_
 rintro _ w1 ⟨r1, A1, k1, rfl, o1, c1, q1⟩
 have z1 := c1.size
 have y1 := o1.lt
 refine VO.mv (Rn.assign rfl) rfl rfl rfl (VO.nil (VQ.then_code (VC.ret (VQ.ret1 rfl rfl (Ret.mk ?_)))))
 have yo := o1.lt
 have CH_1 : Ch (No) w w1 := (Ch.refl (No) w).then c1 (by intro q h1 h2; rcases h2 with h2 | h2 <;> first | exact h2 | (exfalso; omega) | omega)
 exact ⟨r1, A1, k1, by rw [Nat.zero_add], (o1).to' (by omega) (by simp), by omega, CH_1⟩
end Go.Tm
namespace Go.Tm
open Go.RowKit Go.Proofs
def uintB (n : Nat) : List UInt8 := if 127 < n then UInt8.ofNat (n % 128 + 128) :: uintB (n / 128) else [UInt8.ofNat n]
termination_by n
decreasing_by omega
theorem uintB_big {n : Nat} (h : 127 < n) : uintB n = UInt8.ofNat (n % 128 + 128) :: uintB (n / 128) := by rw [uintB, if_pos h]
theorem uintB_small {n : Nat} (h : ¬ 127 < n) : uintB n = [UInt8.ofNat n] := by rw [uintB, if_neg h]
theorem uintB_len_aux : ∀ (k n : Nat), n < 128 ^ (k + 1) → (uintB n).length ≤ k + 1
  | 0, n, h => by rw [uintB_small (by omega)]; simp
  | k + 1, n, h => by
    by_cases hn : 127 < n
    · rw [uintB_big hn, List.length_cons]
      have := uintB_len_aux k (n / 128) (by rw [Nat.pow_succ] at h; omega)
      omega
    · rw [uintB_small hn]; simp
theorem uintB_len {n : Nat} (h : n ≤ 18446744073709551615) : (uintB n).length ≤ 10 := uintB_len_aux 9 n (Nat.lt_of_le_of_lt h (by decide))
theorem uintB_ne (n : Nat) : 0 < (uintB n).length := by
  by_cases h : 127 < n
  · rw [uintB_big h]; simp
  · rw [uintB_small h]; simp
theorem byte_add (o : List UInt8) {m : Nat} (h : m < 256) : Lib.byteCells o ++ flat [Value.int IntKind.u8 (m : Int)] = Lib.byteCells (o ++ [UInt8.ofNat m]) := by
  have : (UInt8.ofNat m).toNat = m := by rw [UInt8.toNat_ofNat']; omega
  simp [Lib.byteCells, flat, Value.cells, this]
theorem byte_last (o : List UInt8) {m : Nat} (h : m < 256) : Lib.byteCells o ++ flat [Value.int IntKind.u8 (IntKind.u8.wrap (m : Int))] = Lib.byteCells (o ++ [UInt8.ofNat m]) := by
  rw [show IntKind.u8.wrap (m : Int) = (m : Int) by rw [IntKind.wrap_u8]; omega]
  exact byte_add o h
theorem or128 : ∀ y : Fin 256, IntKind.u8.wrap ((BitVec.ofInt 8 (y.1 : Int) ||| BitVec.ofInt 8 128).toNat) = (y.1 % 128 + 128 : Nat) := by decide +kernel
section
variable {P : Program} {n : Fr} {k : K} {w : World} {d : Option Tmp} {ty : TypeId} {pos : String} {aft : Array Edge} {g : Option (Nat × Bool)} {t t' : TypeId} {x y : Operand} {a b : Int}
theorem Rn.or128 {m : Nat} (hx : ev k x = some (.int .u8 (IntKind.u8.wrap (m : Int)))) (hy : ev k y = some (.int .u8 128)) : Rn P n k w { dst := d, op := .binOp .or t x y t', type := ty, pos := pos, after := aft, guard := g } (.int .u8 ((m % 128 + 128 : Nat) : Int)) :=
  Rn.bin hx hy (fun x y => by
    have h1 : IntKind.u8.wrap (m : Int) = ((m % 256 : Nat) : Int) := by rw [IntKind.wrap_u8]; omega
    have h := Go.Tm.or128 ⟨m % 256, by omega⟩
    have h2 : m % 256 % 128 = m % 128 := by omega
    rw [h1]
    simp only [h2] at h
    simp only [eqGuard_or, binOp_or, Op.intBits]
    rw [← h]; rfl)
theorem Rn.shr64 {c : Int} {q : IntKind} (hx : ev k x = some (.int .u64 a)) (hy : ev k y = some (.int q c)) (h0 : 0 ≤ c) (h1 : c ≤ 64) : Rn P n k w { dst := d, op := .binOp .shr t x y t', type := ty, pos := pos, after := aft, guard := g } (.int .u64 (a / 2 ^ c.toNat)) :=
  Rn.bin hx hy (fun x y => by simp [eqGuard_shr, binOp_shr, shift_shr_u64 (h₀ := h0) (h₁ := h1)])
end
set_option maxRecDepth 100000 in
theorem inf5w32 : Inf Tryz.prog 5 (.int .u8 0) 1 1 := ⟨Tryz.t5, Tryz.type5, rfl, rfl, rfl⟩
set_option maxRecDepth 100000 in
theorem pack_Uint (q r : Nat) (bs : List UInt8) (x0 : Nat) (hx0 : x0 ≤ 18446744073709551615) (w : World) (wr : WrR w q r bs) (hl : bs.length ≤ 1000000000000) :
  Calls Tryz.prog 86 #[.pointer (some ⟨q, 0, none⟩), .int .u64 x0] w (Ret (fun v w' => ∃ r', v = .tuple #[] ∧ WrR w' q r' (bs ++ uintB x0) ∧ (r' = r ∨ w.heap.size < r') ∧ Ch (QR q r) w w')) := by
 obtain ⟨A, c, bk, row⟩ := id wr
 have lw := wr.lt; have lrow := row.lt
 have hul := uintB_len hx0
 refine calls_of_VC (args := [.pointer (some ⟨q, 0, none⟩), .int .u64 x0]) Tryz.func86 rfl Tryz.ntmps86 rfl (VC.seq (VC.block (VC.loopS (σ := Nat × List UInt8 × Nat × Option Addr × Nat) (fun (x, o, r2, A2, c2) => [(0, .pointer (some ⟨q, 0, none⟩)), (1, .int .u64 x)]) (fun (x, o, r2, A2, c2) w' => x ≤ 18446744073709551615 ∧ bs ++ uintB x0 = o ++ uintB x ∧ (r2 = r ∨ w.heap.size < r2) ∧ w.heap.size ≤ w'.heap.size ∧ Bk w' q #[.slice A2 o.length c2] 174 ∧ Ow w' r2 5 1 A2 o.length c2 (Lib.byteCells o) ∧ Ch (QR q r) w w') (fun (x, o, r2, A2, c2) => x) (x0, bs, r, A, c) ?_ ⟨rfl, rfl, trivial⟩ ?_)))
 · exact ⟨(by omega), rfl, (.inl rfl), (Nat.le_refl _), bk, row, (Ch.refl (QR q r) w)⟩
 rintro ⟨x, o, r2, A2, c2⟩ w1 ⟨hx, hu, hr2, hsz1, bk_1, row_1, CH_1⟩
 show VC _ _ _ _ [(0, .pointer (some ⟨q, 0, none⟩)), (1, .int .u64 x)] _
 have hpl := congrArg List.length hu; rw [List.length_append, List.length_append] at hpl
 refine VC.seq (VC.seq (VC.region (VO.mv (Rn.move rfl) rfl rfl rfl (VO.mv (Rn.gtr rfl rfl) rfl rfl rfl (VO.nil (VQ.then_code (VC.cond_if rfl (fun hc1 => ?_) (fun hc1 => ?_))))))))
 ·
  refine VC.skip (VQ.then_code (VC.seq (VC.block (VC.region (VO.mv (Rn.move rfl) rfl rfl rfl (VO.mv (Rn.move rfl) rfl rfl rfl (VO.mv (Rn.nilCheck rfl) rfl rfl rfl ?_)))))))
  refine VO.mv (Rn.field Tryz.underlying174 rfl Tryz.sizeOf115 rfl rfl rfl) rfl rfl rfl (VO.mv (Rn.load Tryz.isAgg115 rfl (bk_1.cell rfl)) rfl rfl rfl (VO.mv (Rn.move rfl) rfl rfl rfl (VO.mv (Rn.conv Tryz.underlying38 Tryz.underlying5 rfl) rfl rfl rfl (VO.mv (Rn.or128 rfl rfl) rfl rfl rfl (VO.wk (Wk.lit Tryz.underlying115 inf5w32 (by decide) rfl rfl (by rfl) (by decide) (by decide) (by rfl)) rfl rfl rfl ?_)))))
  rintro _ w2 ⟨p2, rfl, N2⟩
  have c2 := N2.ch
  have e2 := N2.p; have z2 := N2.size
  have l16 := SlR.of_new (sz := 1) (l := 1) N2 rfl
  have l16o := Ow.of_new (sz := 1) (l := 1) N2 rfl (by decide)
  have row_2 := row_1.keep c2
  refine VO.wk (Wk.append (S := _) Tryz.underlying115 inf5w32 rfl (by decide) rfl rfl row_2 l16 (by rfl) (fun h => by simp at h) (by omega) (by simp only [maxLen]; omega)) rfl rfl rfl ?_
  rintro _ w3 ⟨r3, A3, k3, rfl, o3, c3, q3⟩
  have z3 := c3.size
  have y3 := o3.lt
  refine VO.mv (Rn.nilCheck rfl) rfl rfl rfl (VO.mv (Rn.field Tryz.underlying174 rfl Tryz.sizeOf115 rfl rfl rfl) rfl rfl rfl ?_)
  have bk_2 := bk_1.keep c2
  have bk_3 := bk_2.to c3 (by first | exact id | omega)
  refine VO.wk0 (Wk.put Tryz.sizeOf115 rfl rfl rfl rfl bk_3 rfl) rfl rfl ?_
  intro _ w4 Z4
  have c4 := Z4.ch; have z4 := Z4.size
  have bk_4 := Bk.put Z4
  refine VO.nil (VQ.block_normal (VQ.then_code (VC.region (VO.mv (Rn.move rfl) rfl rfl rfl (VO.mv (Rn.shr64 rfl rfl (by omega) (by omega)) rfl rfl rfl (VO.mv (Rn.assign rfl) rfl rfl rfl (VO.nil ?_)))))))
  refine VQ.round (x / 128, o ++ [UInt8.ofNat (x % 128 + 128)], r3, A3, k3) (by (dsimp only; omega)) ?_ ⟨rfl, rfl, trivial⟩
  have row_4 := o3.to c4 (by first | exact fun _ _ _ _ => id | (intro q h1 h2 hx h3; omega))
  have CH_2 := CH_1.and c2
  have CH_3 : Ch (QR q r) w w3 := CH_2.then c3 (by intro q h1 h2; rcases h2 with h2 | h2 <;> first | exact h2 | (exfalso; omega) | omega)
  have CH_4 : Ch (QR q r) w w4 := CH_3.then c4 (by intro q h1 h2; rcases h2 with h2 | h2 <;> first | exact h2 | (exfalso; omega) | omega)
  exact ⟨(by omega), (by rw [hu, uintB_big (by omega)]; simp), (by omega), (by omega), (by show Bk _ _ #[.slice _ (o ++ [_]).length _] _; rw [List.length_append]; exact bk_4), ((row_4).to' (by simp) (byte_add o (by omega))), CH_4⟩
 ·
  refine VC.exit (VQ.then_exit (VQ.then_exit (VQ.block_exit (VQ.then_code (VC.region (VO.mv (Rn.move rfl) rfl rfl rfl (VO.mv (Rn.move rfl) rfl rfl rfl ?_)))))))
  refine VO.mv (Rn.nilCheck rfl) rfl rfl rfl (VO.mv (Rn.field Tryz.underlying174 rfl Tryz.sizeOf115 rfl rfl rfl) rfl rfl rfl (VO.mv (Rn.load Tryz.isAgg115 rfl (bk_1.cell rfl)) rfl rfl rfl (VO.mv (Rn.move rfl) rfl rfl rfl (VO.mv (Rn.conv Tryz.underlying38 Tryz.underlying5 rfl) rfl rfl rfl (VO.wk (Wk.lit Tryz.underlying115 inf5w32 (by decide) rfl rfl (by rfl) (by decide) (by decide) (by rfl)) rfl rfl rfl ?_)))))
  rintro _ w5 ⟨p5, rfl, N5⟩
  have c5 := N5.ch
  have e5 := N5.p; have z5 := N5.size
  have l27 := SlR.of_new (sz := 1) (l := 1) N5 rfl
  have l27o := Ow.of_new (sz := 1) (l := 1) N5 rfl (by decide)
  have row_5 := row_1.keep c5
  refine VO.wk (Wk.append (S := _) Tryz.underlying115 inf5w32 rfl (by decide) rfl rfl row_5 l27 (by rfl) (fun h => by simp at h) (by omega) (by simp only [maxLen]; omega)) rfl rfl rfl ?_
  rintro _ w6 ⟨r6, A6, k6, rfl, o6, c6, q6⟩
  have z6 := c6.size
  have y6 := o6.lt
  refine VO.mv (Rn.nilCheck rfl) rfl rfl rfl (VO.mv (Rn.field Tryz.underlying174 rfl Tryz.sizeOf115 rfl rfl rfl) rfl rfl rfl ?_)
  have bk_5 := bk_1.keep c5
  have bk_6 := bk_5.to c6 (by first | exact id | omega)
  refine VO.wk0 (Wk.put Tryz.sizeOf115 rfl rfl rfl rfl bk_6 rfl) rfl rfl ?_
  intro _ w7 Z7
  have c7 := Z7.ch; have z7 := Z7.size
  have bk_7 := Bk.put Z7
  refine VO.nil (VQ.end0 rfl (Ret.mk ?_))
  rw [uintB_small (n := x) (by omega)] at hu
  rw [hu]
  have row_7 := o6.to c7 (by first | exact fun _ _ _ _ => id | (intro q h1 h2 hx h3; omega))
  have CH_5 := CH_1.and c5
  have CH_6 : Ch (QR q r) w w6 := CH_5.then c6 (by intro q h1 h2; rcases h2 with h2 | h2 <;> first | exact h2 | (exfalso; omega) | omega)
  have CH_7 : Ch (QR q r) w w7 := CH_6.then c7 (by intro q h1 h2; rcases h2 with h2 | h2 <;> first | exact h2 | (exfalso; omega) | omega)
  exact ⟨_, rfl, ⟨A6, k6, (by show Bk _ _ #[.slice _ (o ++ [_]).length _] _; rw [List.length_append]; exact bk_7), (row_7).to' (by simp) (byte_last o (by omega))⟩, by omega, CH_7⟩
end Go.Tm
