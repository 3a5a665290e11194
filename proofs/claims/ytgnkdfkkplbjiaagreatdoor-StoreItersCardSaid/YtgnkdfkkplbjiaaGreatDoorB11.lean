/- Lemmas of this claim, joined by program. Walks of functions: compile, deep: one step. Walks of functions: compile whole; plans. Good orders: how long their texts are. Walks of functions: plans. Walks of functions: plans, by a policy; what a plan tells. Walks of functions: slices.Insert and DeleteFunc at texts. Owned rows written into, cleared, resliced; copies. Texts as lists of bytes. Walks of functions: slices.DeleteFunc at texts. Conditions: each lemma names its own. -/
import Derived.Test.YtgnkdfkkplbjiaaGreatDoorB10
import Derived.Test.YtgnkdfkkplbjiaaGreatDoorB08
import Derived.Test.YtgnkdfkkplbjiaaGreatDoorB05
import Derived.Shelf.Spec.SlicesInsert
import Derived.Shelf.Spec.SlicesInsertGrow
import Derived.Test.YtgnkdfkkplbjiaaGreatDoorB01
import Derived.Test.YtgnkdfkkplbjiaaGreatDoorB03
set_option linter.all false
namespace Go.Tm
open Go.RowKit Go.Proofs
theorem go_n {o : Ord} (h : GO o) (hk : o.kind = 1 ∨ o.kind = 2) : 1 ≤ o.n ∧ o.n ≤ 64 := by
  cases h with
  | direct h1 h2 => exact ⟨h1, h2⟩
  | fly h1 h2 => simp only [Ord.n]; omega
  | times _ _ _ _ _ => simp [Ord.kind] at hk
  | blue _ _ _ _ => simp [Ord.kind] at hk
theorem go_kind {o : Ord} (h : GO o) : o.kind = 1 ∨ o.kind = 2 ∨ o.kind = 3 ∨ o.kind = 4 := by cases h <;> simp [Ord.kind]
theorem go_times {o : Ord} (h : GO o) (hk : o.kind = 3) : ∃ a e, o.kids = [a, e] ∧ 2 ≤ a.len ∧ 2 ≤ e.len ∧ a.len * e.len ≤ 16384 := by
  cases h with
  | direct h1 h2 => simp [Ord.kind] at hk
  | fly h1 h2 => simp [Ord.kind] at hk
  | times _ _ h1 h2 h3 => exact ⟨_, _, rfl, h1, h2, h3⟩
  | blue _ _ _ _ => simp [Ord.kind] at hk
theorem go_blue {o : Ord} (h : GO o) (hk : o.kind = 4) : ∃ a, o.kids = [a] ∧ 2 ≤ o.n ∧ o.n ≤ 16384 := by
  cases h with
  | direct h1 h2 => simp [Ord.kind] at hk
  | fly h1 h2 => simp [Ord.kind] at hk
  | times _ _ h1 h2 h3 => simp [Ord.kind] at hk
  | blue h1 h2 _ _ => exact ⟨_, rfl, h1, h2⟩


theorem BB.fr {w w' : World} {q r : Nat} {b : Bld} (h : BB w q r b) (x : Int) (hw : ∀ A c, Bk w q (bldV b A c) 109 → ∃ D, Ch D w w' ∧ (∀ y, y < w.heap.size → y ≠ q → ¬ D y) ∧ Bk w' q ((bldV b A c).setIfInBounds 6 (.int .i64 x)) 109) : BB w' q r { b with fr := x } := by
  have hl := h.lt
  obtain ⟨A, c, h1, h2⟩ := h
  obtain ⟨D, h3, h4, h5⟩ := hw A c h1
  exact ⟨A, c, h5, h2.to h3 (fun y h6 h7 h8 => h4 y h6 (by omega))⟩
set_option maxHeartbeats 2000000 in
set_option maxRecDepth 100000 in
theorem deep_step (o : Ord) (hgo : GO o) (hkT : ∀ a ∈ o.kids, DeepOk a ∧ GO a ∧ a.len = sl a) (q r : Nat) (x : Inst) (b : Bld) (A : Option Addr) (c lo hi : Nat) (w : World) (kd : RdK (In lo hi) w A o.kids) (hh : hi ≤ w.heap.size) (hq2 : q < lo ∨ hi ≤ q) (hr2 : r ≤ lo ∨ hi < r) (hq : 23 ≤ q) (hr : r = 0 ∨ 23 < r) (bb : BB w q r b) (ok : BdOk b) (hx : XOk x (sl o)) (st : StT w) :
    Calls Tryz.prog 71 #[.pointer (some ⟨q, 0, none⟩), ordV o A c, instV x] w (Ret (fun v w' => ∃ r', v = .tuple #[] ∧ BB w' q r' (deepM o x b) ∧ (r' = r ∨ w.heap.size < r') ∧ Ch (QR q r) w w')) := by
  have lb := bb.lt
  have okb := ok.bd; have hkp := deepM_keeps hgo
  refine calls_of_VC (args := [.pointer (some ⟨q, 0, none⟩), ordV o A c, instV x]) Tryz.func71 rfl Tryz.ntmps71 rfl ?_
  refine VC.seq ?_
  refine VC.region ?_
  refine VO.wk (Wk.box rfl) rfl rfl rfl ?_
  rintro _ w1 ⟨p1, rfl, N1⟩
  have c1 := N1.ch
  have e1 := N1.p; have z1 := N1.size
  have b4 := Bk.new N1
  refine VO.wk (Wk.box rfl) rfl rfl rfl ?_
  rintro _ w2 ⟨p2, rfl, N2⟩
  have c2 := N2.ch
  have e2 := N2.p; have z2 := N2.size
  have b5 := Bk.new N2
  refine VO.nil ?_
  refine VQ.then_code ?_
  refine VC.seq ?_
  refine VC.seq ?_
  refine VC.region ?_
  refine VO.mv (Rn.move rfl) rfl rfl rfl ?_
  have bb_2 := bb.keep (c1.trans c2)
  refine VO.wk (Wk.call Tryz.call73 rfl (bb_full _ _ _ _ bb_2)) rfl rfl rfl ?_
  rintro _ _ ⟨rfl, rfl⟩
  refine VO.nil ?_
  refine VQ.then_code ?_
  refine VC.cond rfl (fun hc1 => ?_) (fun hc1 => ?_)
  · skip
    try simp only [Bool.and_eq_true, Bool.or_eq_true, Bool.not_eq_true', Bool.not_eq_false', Bool.and_eq_false_iff, Bool.or_eq_false_iff, decide_eq_true_eq, decide_eq_false_iff_not] at hc1
    refine VC.ret ?_
    refine VQ.then_ret ?_
    refine VQ.ret0 rfl ?_
    refine Ret.mk ?_
    have CH_2 := (Ch.refl (QR q r) w).and (c1.trans c2)
    exact ⟨r, rfl, by rw [deepM_full hc1]; exact bb_2, .inl rfl, CH_2⟩
  · skip
    try simp only [Bool.and_eq_true, Bool.or_eq_true, Bool.not_eq_true', Bool.not_eq_false', Bool.and_eq_false_iff, Bool.or_eq_false_iff, decide_eq_true_eq, decide_eq_false_iff_not] at hc1
    refine VC.skip ?_
    refine VQ.then_code ?_
    refine VC.seq ?_
    obtain ⟨bA, bC, bk, row⟩ := id bb_2
    refine VC.region ?_
    refine VO.mv (Rn.move rfl) rfl rfl rfl ?_
    refine VO.mv (Rn.nilCheck rfl) rfl rfl rfl ?_
    refine VO.mv (Rn.field Tryz.underlying109 rfl Tryz.sizeOf3 rfl rfl rfl) rfl rfl rfl ?_
    refine VO.mv (Rn.load Tryz.isAgg3 rfl (bk.cell rfl)) rfl rfl rfl ?_
    refine VO.mv (Rn.assign rfl) rfl rfl rfl ?_
    refine VO.nil ?_
    refine VQ.then_code ?_
    refine VC.seq ?_
    refine VC.seq ?_
    refine VC.region ?_
    refine VO.mv (Rn.field Tryz.underlying67 rfl Tryz.sizeOf3 rfl rfl rfl) rfl rfl rfl ?_
    have b4_2 := b4.keep c2
    refine VO.mv (Rn.load Tryz.isAgg3 rfl (b4_2.cell rfl)) rfl rfl rfl ?_
    refine VO.nil ?_
    refine VQ.then_code ?_
    refine VC.block ?_
    refine VC.seq ?_
    refine VC.region ?_
    refine VO.mv (Rn.eql rfl rfl) rfl rfl rfl ?_
    refine VO.mv (Rn.assign rfl) rfl rfl rfl ?_
    refine VO.nil ?_
    refine VQ.then_code ?_
    refine VC.cond_if rfl (fun hc2 => ?_) (fun hc2 => ?_)
    · skip
      have hgn := go_n hgo (by omega)
      refine VC.region ?_
      refine VO.mv (Rn.move rfl) rfl rfl rfl ?_
      refine VO.mv (Rn.loads Tryz.isAgg138 Tryz.sizeOf138 rfl rfl (b5.all' rfl)) rfl rfl rfl ?_
      refine VO.mv (Rn.field Tryz.underlying67 rfl Tryz.sizeOf3 rfl rfl rfl) rfl rfl rfl ?_
      refine VO.mv (Rn.load Tryz.isAgg3 rfl (b4_2.cell rfl)) rfl rfl rfl ?_
      refine VO.wk (Wk.call Tryz.call97 rfl (c_direct x.src x.jump x.dst o.n _)) rfl rfl rfl ?_
      rintro _ w3 ⟨rfl, c3⟩
      have z3 := c3.size
      have bb_3 := bb_2.keep c3
      have st_3 := st.keep (c1.trans (c2.trans c3))
      refine VO.wk (Wk.call Tryz.call96 rfl (bb_add _ _ (b) (directS x o.n) _ bb_3 (ok) st_3 (by simp only [directS]; omega) (by omega) (by omega))) rfl rfl rfl ?_
      rintro _ w4 ⟨r4, rfl, bb4, y4, c4⟩
      have lb4 := bb4.lt
      have z4 := c4.size
      refine VO.nil ?_
      refine VQ.block_normal ?_
      refine VQ.then_code ?_
      obtain ⟨bA2, bC2, bk2, row2⟩ := id bb4
      refine VC.region ?_
      refine VO.mv (Rn.move rfl) rfl rfl rfl ?_
      refine VO.mv (Rn.move rfl) rfl rfl rfl ?_
      refine VO.mv (Rn.nilCheck rfl) rfl rfl rfl ?_
      refine VO.mv (Rn.field Tryz.underlying109 rfl Tryz.sizeOf3 rfl rfl rfl) rfl rfl rfl ?_
      refine VO.wk0 (Wk.put Tryz.sizeOf3 rfl rfl rfl rfl bk2 rfl) rfl rfl ?_
      intro _ w5 Z5
      have c5 := Z5.ch; have z5 := Z5.size
      have bk_5 := Bk.put Z5
      refine VO.nil ?_
      refine VQ.end0 rfl ?_
      refine Ret.mk ?_
      have row_5 := row2.to c5 (by first | exact fun _ _ _ _ => id | (intro q h1 h2 hx h3; omega))
      have rrow := row_5
      have CH_3 := (Ch.refl (QR q r) w).and (c1.trans (c2.trans c3))
      have CH_4 : Ch (QR q r) w w4 := CH_3.then c4 (by intro q h1 h2; rcases h2 with h2 | h2 <;> first | exact h2 | (exfalso; omega) | omega)
      have CH_5 : Ch (QR q r) w w5 := CH_4.then c5 (by intro q h1 h2; rcases h2 with h2 | h2 <;> first | exact h2 | (exfalso; omega) | omega)
      have rch := CH_5
      refine ⟨r4, rfl, ?_, by omega, rch⟩
      first | rw [deepM_direct hc1 hc2] | rw [deepM_fly hc1 hc3] | rw [deepM_times hc1 hc4 hab] | rw [deepM_blue hc1 hc5 hab]
      exact ⟨bA2, bC2, bk_5, rrow⟩
    · skip
      refine VC.seq ?_
      refine VC.region ?_
      refine VO.mv (Rn.eql rfl rfl) rfl rfl rfl ?_
      refine VO.mv (Rn.assign rfl) rfl rfl rfl ?_
      refine VO.nil ?_
      refine VQ.then_code ?_
      refine VC.cond_if rfl (fun hc3 => ?_) (fun hc3 => ?_)
      · skip
        have hgn := go_n hgo (by omega)
        refine VC.seq ?_
        refine VC.region ?_
        refine VO.mv (Rn.move rfl) rfl rfl rfl ?_
        refine VO.mv (Rn.field Tryz.underlying138 rfl Tryz.sizeOf3 rfl rfl rfl) rfl rfl rfl ?_
        refine VO.mv (Rn.load Tryz.isAgg3 rfl (b5.cell rfl)) rfl rfl rfl ?_
        refine VO.mv (Rn.field Tryz.underlying138 rfl Tryz.sizeOf3 rfl rfl rfl) rfl rfl rfl ?_
        refine VO.mv (Rn.load Tryz.isAgg3 rfl (b5.cell rfl)) rfl rfl rfl ?_
        refine VO.mv (Rn.field Tryz.underlying138 rfl Tryz.sizeOf3 rfl rfl rfl) rfl rfl rfl ?_
        refine VO.mv (Rn.load Tryz.isAgg3 rfl (b5.cell rfl)) rfl rfl rfl ?_
        refine VO.mv (Rn.field Tryz.underlying67 rfl Tryz.sizeOf3 rfl rfl rfl) rfl rfl rfl ?_
        refine VO.mv (Rn.load Tryz.isAgg3 rfl (b4_2.cell rfl)) rfl rfl rfl ?_
        refine VO.wk (Wk.call Tryz.call98 rfl (c_gather x.dst x.src x.jump o.n _)) rfl rfl rfl ?_
        rintro _ w6 ⟨rfl, c6⟩
        have z6 := c6.size
        have bb_6 := bb_2.keep c6
        have st_6 := st.keep (c1.trans (c2.trans c6))
        refine VO.wk (Wk.call Tryz.call96 rfl (bb_add _ _ (b) (gatherS x.dst x.src x.jump o.n) _ bb_6 (ok) st_6 (by simp only [gatherS]; omega) (by omega) (by omega))) rfl rfl rfl ?_
        rintro _ w7 ⟨r7, rfl, bb7, y7, c7⟩
        have lb7 := bb7.lt
        have z7 := c7.size
        refine VO.nil ?_
        refine VQ.then_code ?_
        refine VC.region ?_
        refine VO.mv (Rn.move rfl) rfl rfl rfl ?_
        refine VO.mv (Rn.field Tryz.underlying138 rfl Tryz.sizeOf3 rfl rfl rfl) rfl rfl rfl ?_
        have b5_6 := b5.keep c6
        have b5_7 := b5_6.to c7 (by first | exact id | omega)
        refine VO.mv (Rn.load Tryz.isAgg3 rfl (b5_7.cell rfl)) rfl rfl rfl ?_
        refine VO.mv (Rn.field Tryz.underlying67 rfl Tryz.sizeOf3 rfl rfl rfl) rfl rfl rfl ?_
        have b4_6 := b4_2.keep c6
        have b4_7 := b4_6.to c7 (by first | exact id | omega)
        refine VO.mv (Rn.load Tryz.isAgg3 rfl (b4_7.cell rfl)) rfl rfl rfl ?_
        refine VO.wk (Wk.call Tryz.call99 rfl (c_fly x.dst 1 1 o.n _)) rfl rfl rfl ?_
        rintro _ w8 ⟨rfl, c8⟩
        have z8 := c8.size
        have bb_8 := bb7.keep c8
        have st_7 := st_6.to c7 (by first | exact fun _ _ _ _ => id | (intro q h1 h2 hx h3; omega))
        have st_8 := st_7.keep c8
        refine VO.wk (Wk.call Tryz.call96 rfl (bb_add _ _ (b.add (gatherS x.dst x.src x.jump o.n)) (flyS x.dst 1 1 o.n) _ bb_8 (ok.add _) st_8 (by simp only [flyS]; omega) (by omega) (by omega))) rfl rfl rfl ?_
        rintro _ w9 ⟨r9, rfl, bb9, y9, c9⟩
        have lb9 := bb9.lt
        have z9 := c9.size
        refine VO.nil ?_
        refine VQ.block_normal ?_
        refine VQ.then_code ?_
        obtain ⟨bA2, bC2, bk2, row2⟩ := id bb9
        refine VC.region ?_
        refine VO.mv (Rn.move rfl) rfl rfl rfl ?_
        refine VO.mv (Rn.move rfl) rfl rfl rfl ?_
        refine VO.mv (Rn.nilCheck rfl) rfl rfl rfl ?_
        refine VO.mv (Rn.field Tryz.underlying109 rfl Tryz.sizeOf3 rfl rfl rfl) rfl rfl rfl ?_
        refine VO.wk0 (Wk.put Tryz.sizeOf3 rfl rfl rfl rfl bk2 rfl) rfl rfl ?_
        intro _ w10 Z10
        have c10 := Z10.ch; have z10 := Z10.size
        have bk_10 := Bk.put Z10
        refine VO.nil ?_
        refine VQ.end0 rfl ?_
        refine Ret.mk ?_
        have row_10 := row2.to c10 (by first | exact fun _ _ _ _ => id | (intro q h1 h2 hx h3; omega))
        have rrow := row_10
        have CH_6 := (Ch.refl (QR q r) w).and (c1.trans (c2.trans c6))
        have CH_7 : Ch (QR q r) w w7 := CH_6.then c7 (by intro q h1 h2; rcases h2 with h2 | h2 <;> first | exact h2 | (exfalso; omega) | omega)
        have CH_8 := CH_7.and c8
        have CH_9 : Ch (QR q r) w w9 := CH_8.then c9 (by intro q h1 h2; rcases h2 with h2 | h2 <;> first | exact h2 | (exfalso; omega) | omega)
        have CH_10 : Ch (QR q r) w w10 := CH_9.then c10 (by intro q h1 h2; rcases h2 with h2 | h2 <;> first | exact h2 | (exfalso; omega) | omega)
        have rch := CH_10
        refine ⟨r9, rfl, ?_, by omega, rch⟩
        first | rw [deepM_direct hc1 hc2] | rw [deepM_fly hc1 hc3] | rw [deepM_times hc1 hc4 hab] | rw [deepM_blue hc1 hc5 hab]
        exact ⟨bA2, bC2, bk_10, rrow⟩
      · skip
        refine VC.seq ?_
        refine VC.region ?_
        refine VO.mv (Rn.eql rfl rfl) rfl rfl rfl ?_
        refine VO.mv (Rn.assign rfl) rfl rfl rfl ?_
        refine VO.nil ?_
        refine VQ.then_code ?_
        refine VC.cond_if rfl (fun hc4 => ?_) (fun hc4 => ?_)
        · skip
          obtain ⟨a, e, hab, g1, g2, g3⟩ := go_times hgo hc4
          have ha9 : a ∈ o.kids := by rw [hab]; simp
          have he9 : e ∈ o.kids := by rw [hab]; simp
          refine VC.region ?_
          refine VO.mv (Rn.move rfl) rfl rfl rfl ?_
          refine VO.mv (Rn.loads Tryz.isAgg67 Tryz.sizeOf67 rfl rfl (b4_2.all' rfl)) rfl rfl rfl ?_
          refine VO.mv (Rn.loads Tryz.isAgg138 Tryz.sizeOf138 rfl rfl (b5.all' rfl)) rfl rfl rfl ?_
          have kd_2 := kd.keep (c1.trans c2)
          have st_2 := st.keep (c1.trans c2)
          refine VO.wk (Wk.call Tryz.call100 rfl (deepTimes o a e hab hc4 (hkT a ha9).1 (hkT e he9).1 (hkT a ha9).2.1 (hkT e he9).2.1 g1 g2 g3 (hkT a ha9).2.2 (hkT e he9).2.2 _ _ x b _ _ _ _ _ kd_2 (by omega) (by omega) (by omega) (by omega) (by omega) bb_2 ok hc1 hx st_2)) rfl rfl rfl ?_
          rintro _ w11 ⟨r11, rfl, bb11, y11, c11⟩
          have lb11 := bb11.lt
          have z11 := c11.size
          refine VO.nil ?_
          refine VQ.block_normal ?_
          refine VQ.then_code ?_
          obtain ⟨bA2, bC2, bk2, row2⟩ := id bb11
          refine VC.region ?_
          refine VO.mv (Rn.move rfl) rfl rfl rfl ?_
          refine VO.mv (Rn.move rfl) rfl rfl rfl ?_
          refine VO.mv (Rn.nilCheck rfl) rfl rfl rfl ?_
          refine VO.mv (Rn.field Tryz.underlying109 rfl Tryz.sizeOf3 rfl rfl rfl) rfl rfl rfl ?_
          refine VO.wk0 (Wk.put Tryz.sizeOf3 rfl rfl rfl rfl bk2 rfl) rfl rfl ?_
          intro _ w12 Z12
          have c12 := Z12.ch; have z12 := Z12.size
          have bk_12 := Bk.put Z12
          refine VO.nil ?_
          refine VQ.end0 rfl ?_
          refine Ret.mk ?_
          have row_12 := row2.to c12 (by first | exact fun _ _ _ _ => id | (intro q h1 h2 hx h3; omega))
          have rrow := row_12
          have CH_2 := (Ch.refl (QR q r) w).and (c1.trans c2)
          have CH_11 : Ch (QR q r) w w11 := CH_2.then c11 (by intro q h1 h2; rcases h2 with h2 | h2 <;> first | exact h2 | (exfalso; omega) | omega)
          have CH_12 : Ch (QR q r) w w12 := CH_11.then c12 (by intro q h1 h2; rcases h2 with h2 | h2 <;> first | exact h2 | (exfalso; omega) | omega)
          have rch := CH_12
          refine ⟨r11, rfl, ?_, by omega, rch⟩
          first | rw [deepM_direct hc1 hc2] | rw [deepM_fly hc1 hc3] | rw [deepM_times hc1 hc4 hab] | rw [deepM_blue hc1 hc5 hab]
          exact ⟨bA2, bC2, bk_12, rrow⟩
        · skip
          refine VC.seq ?_
          refine VC.region ?_
          refine VO.mv (Rn.eql rfl rfl) rfl rfl rfl ?_
          refine VO.mv (Rn.assign rfl) rfl rfl rfl ?_
          refine VO.nil ?_
          refine VQ.then_code ?_
          refine VC.cond_if rfl (fun hc5 => ?_) (fun hc5 => ?_)
          · skip
            obtain ⟨a, hab, g1, g2⟩ := go_blue hgo hc5
            have ha9 : a ∈ o.kids := by rw [hab]; simp
            refine VC.region ?_
            refine VO.mv (Rn.move rfl) rfl rfl rfl ?_
            refine VO.mv (Rn.loads Tryz.isAgg67 Tryz.sizeOf67 rfl rfl (b4_2.all' rfl)) rfl rfl rfl ?_
            refine VO.mv (Rn.loads Tryz.isAgg138 Tryz.sizeOf138 rfl rfl (b5.all' rfl)) rfl rfl rfl ?_
            have kd_2 := kd.keep (c1.trans c2)
            have st_2 := st.keep (c1.trans c2)
            refine VO.wk (Wk.call Tryz.call101 rfl (deepBlue o a hab hc5 (hkT a ha9).1 (hkT a ha9).2.1 g1 g2 (hkT a ha9).2.2 _ _ x b _ _ _ _ _ kd_2 (by omega) (by omega) (by omega) (by omega) (by omega) bb_2 ok hc1 hx st_2)) rfl rfl rfl ?_
            rintro _ w13 ⟨r13, rfl, bb13, y13, c13⟩
            have lb13 := bb13.lt
            have z13 := c13.size
            refine VO.nil ?_
            refine VQ.block_normal ?_
            refine VQ.then_code ?_
            obtain ⟨bA2, bC2, bk2, row2⟩ := id bb13
            refine VC.region ?_
            refine VO.mv (Rn.move rfl) rfl rfl rfl ?_
            refine VO.mv (Rn.move rfl) rfl rfl rfl ?_
            refine VO.mv (Rn.nilCheck rfl) rfl rfl rfl ?_
            refine VO.mv (Rn.field Tryz.underlying109 rfl Tryz.sizeOf3 rfl rfl rfl) rfl rfl rfl ?_
            refine VO.wk0 (Wk.put Tryz.sizeOf3 rfl rfl rfl rfl bk2 rfl) rfl rfl ?_
            intro _ w14 Z14
            have c14 := Z14.ch; have z14 := Z14.size
            have bk_14 := Bk.put Z14
            refine VO.nil ?_
            refine VQ.end0 rfl ?_
            refine Ret.mk ?_
            have row_14 := row2.to c14 (by first | exact fun _ _ _ _ => id | (intro q h1 h2 hx h3; omega))
            have rrow := row_14
            have CH_2 := (Ch.refl (QR q r) w).and (c1.trans c2)
            have CH_13 : Ch (QR q r) w w13 := CH_2.then c13 (by intro q h1 h2; rcases h2 with h2 | h2 <;> first | exact h2 | (exfalso; omega) | omega)
            have CH_14 : Ch (QR q r) w w14 := CH_13.then c14 (by intro q h1 h2; rcases h2 with h2 | h2 <;> first | exact h2 | (exfalso; omega) | omega)
            have rch := CH_14
            refine ⟨r13, rfl, ?_, by omega, rch⟩
            first | rw [deepM_direct hc1 hc2] | rw [deepM_fly hc1 hc3] | rw [deepM_times hc1 hc4 hab] | rw [deepM_blue hc1 hc5 hab]
            exact ⟨bA2, bC2, bk_14, rrow⟩
          · skip
            exact absurd (go_kind hgo) (by omega)

end Go.Tm
namespace Go.Tm
open Go.RowKit Go.Proofs
theorem deep_all {o : Ord} (h : GO o) : DeepOk o := by
  have st : ∀ {o : Ord}, GO o → (∀ a ∈ o.kids, DeepOk a ∧ GO a ∧ a.len = sl a) → DeepOk o := fun {o} h hk A c lo hi q r x b w kd hh hq2 hr2 hq hr bb ok hx st => deep_step o h hk q r x b A c lo hi w kd hh hq2 hr2 hq hr bb ok hx st
  induction h with
  | direct h1 h2 => exact st (.direct h1 h2) (fun a ha => by cases ha)
  | fly h1 h2 => exact st (.fly h1 h2) (fun a ha => by cases ha)
  | @times a b ga gb h1 h2 h3 ia ib =>
    refine st (.times ga gb h1 h2 h3) (fun x hx => ?_)
    simp only [Ord.kids, List.mem_cons, List.not_mem_nil, or_false] at hx
    rcases hx with rfl | rfl
    · exact ⟨ia, ga, len_sl (by omega)⟩
    · exact ⟨ib, gb, len_sl (by omega)⟩
  | @blue n a h1 h2 ga h3 ia =>
    refine st (.blue h1 h2 ga h3) (fun x hx => ?_)
    simp only [Ord.kids, List.mem_cons, List.not_mem_nil, or_false] at hx
    subst hx
    exact ⟨ia, ga, len_sl (by omega)⟩
def bld0 (n : Int) : Bld := ({ ln := n, cl := 0, i0 := 0, ou := n, steps := [], acts := 0, fr := 0 } : Bld).region (2 * n)
/-- What compiling deep builds. -/
def buildM (o : Ord) : Bld := deepM o ⟨0, 1, o.len⟩ (bld0 o.len)
theorem bld0_ok {n : Int} (h1 : 1 ≤ n) (h2 : n ≤ 16384) : BdOk (bld0 n) := by
  unfold bld0
  refine BdOk.region ⟨?_, ?_, ?_, ?_, ?_, ?_⟩ ?_ ?_ <;> (try simp only) <;> first | omega | (simp; done)
theorem xok_top {n : Int} (h1 : 1 ≤ n) (h2 : n ≤ 16384) : XOk ⟨0, 1, n⟩ n := ⟨by simp, by simp, by simp only; omega, by simp only; omega, by simp only; omega, by simp only; omega⟩

theorem build109w18 {ps : List (Nat × Value)} {cs : Array Value} (h : Instr.fill (fun i => ([(0, 5), (5, 1), (6, 1)] : List (Nat × Nat))[i]?) #[.int .i64 0, .int .i64 0, .int .i64 0, .int .i64 0, .slice none 0 0, .int .i64 0, .int .i64 0] ps = some cs) (w : World) : (Instr.build 109 ps.toArray).run Tryz.prog w = .ok (.agg cs) w := by
  simp [Instr.build, Tryz.runUnderlying109, Tryz.zeroValue109, Tryz.sizeOf3, Tryz.sizeOf78, Value.cells, h]
theorem bld138_0_1_2w18 {v0 v1 v2 : Value} (h : [v0, v1, v2].all Value.oneCell' = true) (w : World) : (Instr.build 138 ([(0, v0), (1, v1), (2, v2)] : List (Nat × Value)).toArray).run Tryz.prog w = .ok (.agg #[v0, v1, v2]) w := by
  simp only [List.all_cons, Bool.and_eq_true, List.all_nil, and_true] at h
  have hv0 := oneCell_cells (v := v0) (by simp_all)
  have hv1 := oneCell_cells (v := v1) (by simp_all)
  have hv2 := oneCell_cells (v := v2) (by simp_all)
  have h1 := fill_set (fun i => ([(0, 1), (1, 1), (2, 1)] : List (Nat × Nat))[i]?) [(0, v0), (1, v1), (2, v2)] [.int .i64 0, .int .i64 0, .int .i64 0] (by simp [okF, agg_cells, hv0, hv1, hv2, Nat.beq, Nat.ble])
  simp [setF, agg_cells, hv0, hv1, hv2] at h1
  simp [Instr.build, Tryz.runUnderlying138, Tryz.zeroValue138, Tryz.sizeOf3, agg_cells, h1]
set_option maxHeartbeats 1000000 in
set_option maxRecDepth 100000 in
theorem c_build (o : Ord) (A : Option Addr) (c lo hi : Nat) (w : World) (kd : RdK (In lo hi) w A o.kids) (hh : hi ≤ w.heap.size) (hl : o.len ≠ 0) (hf : (buildM o).full = false) (st : StT w) (hG : 23 ≤ w.heap.size) :
    Calls Tryz.prog 50 #[ordV o A c, .int .i64 0] w (Ret (fun v w' => ∃ q r, v = .tuple #[.pointer (some ⟨q, 0, none⟩), .nilIface] ∧ BB w' q r (buildM o) ∧ w.heap.size ≤ q ∧ (r = 0 ∨ w.heap.size < r) ∧ Ch No w w')) := by
  have ll := len_bd o; have go := GO.of_len hl; have hsl := len_sl hl
  refine calls_of_VC (args := [ordV o A c, .int .i64 0]) Tryz.func50 rfl Tryz.ntmps50 rfl ?_
  refine VC.seq ?_
  refine VC.region ?_
  refine VO.wk (Wk.box rfl) rfl rfl rfl ?_
  rintro _ w1 ⟨p1, rfl, N1⟩
  have c1 := N1.ch
  have e1 := N1.p; have z1 := N1.size
  have b2 := Bk.new N1
  refine VO.mv (Rn.assign rfl) rfl rfl rfl ?_
  refine VO.mv (Rn.assign rfl) rfl rfl rfl ?_
  refine VO.nil ?_
  refine VQ.then_code ?_
  refine VC.seq ?_
  refine VC.seq ?_
  refine VC.region ?_
  refine VO.mv (Rn.move rfl) rfl rfl rfl ?_
  refine VO.mv (Rn.neq rfl rfl) rfl rfl rfl ?_
  refine VO.mv (Rn.move rfl) rfl rfl rfl ?_
  refine VO.andJoin (b := _) 3 11 14 rfl (fun hc1 Jhc1 => by
      try simp only [Bool.and_eq_true, Bool.or_eq_true, Bool.not_eq_true', Bool.not_eq_false', Bool.and_eq_false_iff, Bool.or_eq_false_iff, decide_eq_true_eq, decide_eq_false_iff_not] at hc1
      refine VO.mv (Rn.move rfl) rfl rfl rfl ?_
      refine VO.mv (Rn.neq rfl rfl) rfl rfl rfl ?_
      refine VO.mv (Rn.pick_true rfl rfl) rfl rfl rfl ?_
      exact (VO.fg rfl (VO.fg rfl Jhc1))) (fun hc1 Jhc1 => by
      refine VO.skip rfl rfl rfl ?_
      refine VO.skip rfl rfl rfl ?_
      refine VO.mv (Rn.pick_false rfl rfl) rfl rfl rfl ?_
      exact (VO.fg rfl (VO.fg rfl Jhc1))) ?_
  refine VO.nil ?_
  refine VQ.then_code ?_
  refine VC.cond rfl (fun hc2 => ?_) (fun hc2 => ?_)
  · skip
    try simp only [Bool.and_eq_true, Bool.or_eq_true, Bool.not_eq_true', Bool.not_eq_false', Bool.and_eq_false_iff, Bool.or_eq_false_iff, decide_eq_true_eq, decide_eq_false_iff_not] at hc2
    exact absurd hc2 (by simp)
  · skip
    try simp only [Bool.and_eq_true, Bool.or_eq_true, Bool.not_eq_true', Bool.not_eq_false', Bool.and_eq_false_iff, Bool.or_eq_false_iff, decide_eq_true_eq, decide_eq_false_iff_not] at hc2
    refine VC.skip ?_
    refine VQ.then_code ?_
    refine VC.seq ?_
    refine VC.region ?_
    refine VO.mv (Rn.loads Tryz.isAgg67 Tryz.sizeOf67 rfl rfl (b2.all' rfl)) rfl rfl rfl ?_
    have kd_1 := kd.keep c1
    refine VO.wk (Wk.call Tryz.call68 rfl (order_Length _ _ _ _ _ _ kd_1 (by omega))) rfl rfl rfl ?_
    rintro _ w2 ⟨rfl, c2⟩
    have z2 := c2.size
    refine VO.mv (Rn.assign rfl) rfl rfl rfl ?_
    refine VO.nil ?_
    refine VQ.then_code ?_
    refine VC.seq ?_
    refine VC.seq ?_
    refine VC.region ?_
    refine VO.mv (Rn.move rfl) rfl rfl rfl ?_
    refine VO.mv (Rn.eql rfl rfl) rfl rfl rfl ?_
    refine VO.nil ?_
    refine VQ.then_code ?_
    refine VC.cond_if rfl (fun hc3 => ?_) (fun hc3 => ?_)
    · skip
      omega
    · skip
      refine VC.skip ?_
      refine VQ.then_code ?_
      refine VC.seq ?_
      refine VC.region ?_
      refine VO.mv (Rn.build rfl (build109w18 rfl)) rfl rfl rfl ?_
      refine VO.wk (Wk.box rfl) rfl rfl rfl ?_
      rintro _ w3 ⟨p3, rfl, N3⟩
      have c3 := N3.ch
      have e3 := N3.p; have z3 := N3.size
      have b22 := Bk.new N3
      refine VO.mv (Rn.assign rfl) rfl rfl rfl ?_
      refine VO.nil ?_
      refine VQ.then_code ?_
      refine VC.seq ?_
      refine VC.region ?_
      refine VO.mv (Rn.move rfl) rfl rfl rfl ?_
      refine VO.mv (Rn.move rfl) rfl rfl rfl ?_
      refine VO.mv (Rn.move rfl) rfl rfl rfl ?_
      refine VO.mv (Rn.move rfl) rfl rfl rfl ?_
      refine VO.mv (Rn.nilCheck rfl) rfl rfl rfl ?_
      refine VO.mv (Rn.field Tryz.underlying109 rfl Tryz.sizeOf78 rfl rfl rfl) rfl rfl rfl ?_
      refine VO.mv (Rn.field Tryz.underlying78 rfl Tryz.sizeOf3 rfl rfl rfl) rfl rfl rfl ?_
      refine VO.wk0 (Wk.put Tryz.sizeOf3 rfl rfl rfl rfl b22 rfl) rfl rfl ?_
      intro _ w4 Z4
      have c4 := Z4.ch; have z4 := Z4.size
      have b22_4 := Bk.put Z4
      refine VO.mv (Rn.nilCheck rfl) rfl rfl rfl ?_
      refine VO.mv (Rn.field Tryz.underlying109 rfl Tryz.sizeOf78 rfl rfl rfl) rfl rfl rfl ?_
      refine VO.mv (Rn.field Tryz.underlying78 rfl Tryz.sizeOf3 rfl rfl rfl) rfl rfl rfl ?_
      refine VO.wk0 (Wk.put Tryz.sizeOf3 rfl rfl rfl rfl b22_4 rfl) rfl rfl ?_
      intro _ w5 Z5
      have c5 := Z5.ch; have z5 := Z5.size
      have b22_5 := Bk.put Z5
      refine VO.nil ?_
      refine VQ.then_code ?_
      refine VC.seq ?_
      have bbs : BB w5 p3 0 ({ ln := o.len, cl := 0, i0 := 0, ou := o.len, steps := [], acts := 0, fr := 0 } : Bld) := ⟨none, 0, b22_5, Ow.nil _ _ _⟩
      refine VC.region ?_
      refine VO.mv (Rn.move rfl) rfl rfl rfl ?_
      refine VO.mv (Rn.move rfl) rfl rfl rfl ?_
      refine VO.mv (Rn.mul rfl rfl (by rw [IntKind.wrap_i64]; omega)) rfl rfl rfl ?_
      refine VO.wk (Wk.call Tryz.call70 rfl (bb_region _ _ ({ ln := o.len, cl := 0, i0 := 0, ou := o.len, steps := [], acts := 0, fr := 0 } : Bld) _ _ bbs ⟨by simp, by simp, by simp, by simp, by simp, by simp⟩ (by omega) (by omega))) rfl rfl rfl ?_
      rintro _ w6 ⟨rfl, bb6, c6⟩
      have z6 := c6.size
      refine VO.nil ?_
      refine VQ.then_code ?_
      refine VC.seq ?_
      refine VC.region ?_
      refine VO.mv (Rn.move rfl) rfl rfl rfl ?_
      refine VO.mv (Rn.build rfl (bld138_0_1_2w18 rfl)) rfl rfl rfl ?_
      refine VO.wk (Wk.alloc Tryz.zeroValue138) rfl rfl rfl ?_
      rintro _ w7 ⟨p7, rfl, N7⟩
      have c7 := N7.ch
      have e7 := N7.p; have z7 := N7.size
      have b8 := Bk.new N7
      refine VO.wk0 (Wk.puts Tryz.sizeOf138 rfl rfl rfl rfl b8 (Nat.le_of_ble_eq_true rfl)) rfl rfl ?_
      intro _ w8 Z8
      have c8 := Z8.ch; have z8 := Z8.size
      have b8_8 := Bk.put Z8
      refine VO.nil ?_
      refine VQ.then_code ?_
      refine VC.seq ?_
      refine VC.seq ?_
      refine VC.region ?_
      refine VO.mv (Rn.move rfl) rfl rfl rfl ?_
      refine VO.mv (Rn.eql rfl rfl) rfl rfl rfl ?_
      refine VO.nil ?_
      refine VQ.then_code ?_
      refine VC.cond_if rfl (fun hc4 => ?_) (fun hc4 => ?_)
      · skip
        refine VC.region ?_
        refine VO.mv (Rn.move rfl) rfl rfl rfl ?_
        have cc_1_5 : Ch No w1 w5 := (Ch.then (E := No) (Ch.then (E := No) (c2.and c3) c4 (by intro q h1 h2; rcases h2 with h2 | h2 <;> first | exact h2 | (exfalso; omega))) c5 (by intro q h1 h2; rcases h2 with h2 | h2 <;> first | exact h2 | (exfalso; omega)))
        have b2_5 := b2.keep cc_1_5
        have b2_6 := b2_5.to c6 (by first | exact id | omega)
        have cc_6_8 : Ch No w6 w8 := (Ch.then (E := No) c7 c8 (by intro q h1 h2; rcases h2 with h2 | h2 <;> first | exact h2 | (exfalso; omega)))
        have b2_8 := b2_6.keep cc_6_8
        refine VO.mv (Rn.loads Tryz.isAgg67 Tryz.sizeOf67 rfl rfl (b2_8.all' rfl)) rfl rfl rfl ?_
        refine VO.mv (Rn.loads Tryz.isAgg138 Tryz.sizeOf138 rfl rfl (b8_8.all' rfl)) rfl rfl rfl ?_
        have kd_5 := kd_1.keep cc_1_5
        have kd_6 := kd_5.to c6 (by first | exact fun _ _ _ _ => id | (intro q h1 h2 hx h3; omega))
        have kd_8 := kd_6.keep cc_6_8
        have bb_8 := bb6.keep cc_6_8
        have cc_0_5 : Ch No w w5 := (Ch.then (E := No) (Ch.then (E := No) ((c1.and c2).and c3) c4 (by intro q h1 h2; rcases h2 with h2 | h2 <;> first | exact h2 | (exfalso; omega))) c5 (by intro q h1 h2; rcases h2 with h2 | h2 <;> first | exact h2 | (exfalso; omega)))
        have st_5 := st.keep cc_0_5
        have st_6 := st_5.to c6 (by first | exact fun _ _ _ _ => id | (intro q h1 h2 hx h3; omega))
        have st_8 := st_6.keep cc_6_8
        refine VO.wk (Wk.call Tryz.call71 rfl (deep_all go _ _ _ _ _ _ (⟨0, 1, o.len⟩) (bld0 o.len) _ kd_8 (by omega) (by omega) (by omega) (by omega) (by omega) bb_8 (bld0_ok (by omega) (by omega)) (by rw [← hsl]; exact xok_top (by omega) (by omega)) st_8)) rfl rfl rfl ?_
        rintro _ w9 ⟨r9, rfl, bb9, y9, c9⟩
        have lb9 := bb9.lt
        have z9 := c9.size
        refine VO.nil ?_
        refine VQ.then_code ?_
        refine VC.seq ?_
        refine VC.seq ?_
        refine VC.region ?_
        refine VO.mv (Rn.move rfl) rfl rfl rfl ?_
        refine VO.wk (Wk.call Tryz.call73 rfl (bb_full _ _ (buildM o) _ bb9)) rfl rfl rfl ?_
        rintro _ _ ⟨rfl, rfl⟩
        refine VO.nil ?_
        refine VQ.then_code ?_
        refine VC.cond rfl (fun hc5 => ?_) (fun hc5 => ?_)
        · skip
          try simp only [Bool.and_eq_true, Bool.or_eq_true, Bool.not_eq_true', Bool.not_eq_false', Bool.and_eq_false_iff, Bool.or_eq_false_iff, decide_eq_true_eq, decide_eq_false_iff_not] at hc5
          exact absurd hc5 (by rw [hf]; simp)
        · skip
          try simp only [Bool.and_eq_true, Bool.or_eq_true, Bool.not_eq_true', Bool.not_eq_false', Bool.and_eq_false_iff, Bool.or_eq_false_iff, decide_eq_true_eq, decide_eq_false_iff_not] at hc5
          refine VC.skip ?_
          refine VQ.then_code ?_
          refine VC.seq ?_
          refine VC.region ?_
          refine VO.mv (Rn.move rfl) rfl rfl rfl ?_
          refine VO.mv (Rn.assign rfl) rfl rfl rfl ?_
          refine VO.mv (Rn.assign rfl) rfl rfl rfl ?_
          refine VO.nil ?_
          refine VQ.then_code ?_
          refine VC.ret ?_
          refine VQ.ret2 rfl rfl rfl ?_
          refine Ret.mk ?_
          have CH_5 := (Ch.refl (No) w).and cc_0_5
          have CH_6 : Ch (No) w w6 := CH_5.then c6 (by intro q h1 h2; rcases h2 with h2 | h2 <;> first | exact h2 | (exfalso; omega) | omega)
          have CH_8 := CH_6.and cc_6_8
          have CH_9 : Ch (No) w w9 := CH_8.then c9 (by intro q h1 h2; rcases h2 with h2 | h2 <;> first | exact h2 | (exfalso; omega) | omega)
          exact ⟨_, r9, rfl, bb9, by omega, by omega, CH_9⟩
      · skip
        exact absurd rfl hc4

end Go.Tm
namespace Go.Tm
open Go.RowKit
theorem len_bd2 {o : Ord} : o.len ≤ 16384 := (len_bd o).2
theorem GO.okO {o : Ord} (h : GO o) : okO o := by
  induction h with
  | direct h1 h2 => unfold Tm.okO; exact ⟨by omega, by omega, .inl ⟨.inl rfl, rfl⟩⟩
  | fly h1 h2 => unfold Tm.okO; exact ⟨by omega, by omega, .inl ⟨.inr rfl, rfl⟩⟩
  | times _ _ _ _ _ ia ib => unfold Tm.okO; exact ⟨by omega, by omega, .inr (.inl ⟨rfl, ia, ib⟩)⟩
  | blue h1 h2 _ _ ia => unfold Tm.okO; exact ⟨by omega, by omega, .inr (.inr ⟨rfl, ia⟩)⟩
theorem itoa_le {n : Int} (h0 : 0 ≤ n) (h1 : n ≤ 16384) : (Lib.itoa n).length ≤ 21 := Lib.itoa_length_le n (by omega) (by omega)
theorem tx_len : ∀ (m : Nat) (o : Ord) (p d : Int), SizeOf.sizeOf o < m → GO o → (wl o p d).2 ≠ 0 → 0 ≤ p → p ≤ 4096 → 1 ≤ d → ((tx o).length : Int) ≤ 30 * ((wl o p d).1 - p)
  | 0, _, _, _, h, _, _, _, _, _ => by omega
  | m + 1, o, p, d, h, hg, hz, h0, h1, h2 => by
    by_cases hf : p + 1 > 4096 ∨ d > 16
    · rw [wl_full hf] at hz; exact absurd rfl hz
    have hk := kids_lt o
    have hon := okO_n hg.okO
    have hit := itoa_le hon.1 hon.2
    cases hg with
    | @direct n h3 h4 =>
      rw [wl_leaf hf rfl, tx_one rfl]
      simp only [Ord.n] at hit
      rw [if_pos ⟨rfl, h3, h4⟩]
      simp only [List.length_cons, Ord.n]; omega
    | @fly n h3 h4 =>
      rw [wl_leaf hf rfl, tx_two (by simp [Ord.kind]) rfl]
      simp only [Ord.n] at hit
      rw [if_neg (by simp [Ord.kind]), if_pos ⟨rfl, h3, h4⟩]
      simp only [List.length_cons, Ord.n]; omega
    | @times a b ga gb h3 h4 h5 =>
      have la : SizeOf.sizeOf a < m := by simp only [Ord.mk.sizeOf_spec, List.cons.sizeOf_spec] at h; omega
      have lb : SizeOf.sizeOf b < m := by simp only [Ord.mk.sizeOf_spec, List.cons.sizeOf_spec] at h; omega
      rw [wl_two hf rfl, if_pos ⟨rfl, rfl⟩] at hz ⊢
      by_cases h6 : (wl a (p + 1) (d + 1)).2 < 2
      · rw [if_pos h6] at hz; exact absurd rfl hz
      rw [if_neg h6] at hz ⊢
      by_cases h7 : (wl b (wl a (p + 1) (d + 1)).1 (d + 1)).2 < 2 ∨ (wl a (p + 1) (d + 1)).2 * (wl b (wl a (p + 1) (d + 1)).1 (d + 1)).2 > 16384
      · rw [if_pos h7] at hz; exact absurd rfl hz
      rw [if_neg h7]
      have ba := wl_bd _ a (p + 1) (d + 1) (Nat.lt_succ_self _) (by omega) (by omega)
      have ia := tx_len m a (p + 1) (d + 1) la ga (by omega) (by omega) (by omega) (by omega)
      have ib := tx_len m b (wl a (p + 1) (d + 1)).1 (d + 1) lb gb (by omega) (by omega) (by omega) (by omega)
      obtain ⟨x, y, _, _, hxy, _, _, htx⟩ := okO_three (GO.times ga gb h3 h4 h5).okO rfl
      simp only [Ord.kids, List.cons.injEq, and_true] at hxy
      obtain ⟨rfl, rfl⟩ := hxy
      rw [htx]
      simp only [List.length_append, List.length_cons, List.length_nil]
      omega
    | @blue n a h3 h4 ga h5 =>
      have la : SizeOf.sizeOf a < m := by simp only [Ord.mk.sizeOf_spec, List.cons.sizeOf_spec] at h; omega
      rw [wl_one hf rfl, if_pos ⟨rfl, h3, h4⟩] at hz ⊢
      by_cases h6 : (wl a (p + 1) (d + 1)).2 < 2 * (Ord.mk 4 n [a]).n - 1
      · rw [if_pos h6] at hz; exact absurd rfl hz
      rw [if_neg h6]
      simp only [Ord.n] at h6
      have ia := tx_len m a (p + 1) (d + 1) la ga (by omega) (by omega) (by omega) (by omega)
      obtain ⟨x, _, hxy, _, htx⟩ := okO_four (GO.blue h3 h4 ga h5).okO (by simp [Ord.kind]) (by simp [Ord.kind]) (by simp [Ord.kind])
      simp only [Ord.kids, List.cons.injEq, and_true] at hxy
      subst hxy
      rw [htx]
      simp only [List.length_append, List.length_cons, List.length_nil, Ord.n] at hit ⊢
      omega
theorem tx_bd {o : Ord} (h : o.len ≠ 0) : 0 < (tx o).length ∧ (tx o).length ≤ 130000 := by
  have hg := GO.of_len h
  have h1 := tx_len _ o 0 1 (Nat.lt_succ_self _) hg h (by omega) (by omega) (by omega)
  have h2 := wl_bd _ o 0 1 (Nat.lt_succ_self _) (by omega) (by omega)
  refine ⟨?_, by omega⟩
  cases hg with
  | direct h3 h4 => rw [tx_one rfl]; simp
  | fly h3 h4 => rw [tx_two (by simp [Ord.kind]) rfl]; simp
  | times ga gb h3 h4 h5 =>
    obtain ⟨x, y, _, _, hxy, _, _, htx⟩ := okO_three (GO.times ga gb h3 h4 h5).okO rfl
    rw [htx]; simp
  | blue h3 h4 ga h5 =>
    obtain ⟨x, _, hxy, _, htx⟩ := okO_four (GO.blue h3 h4 ga h5).okO (by simp [Ord.kind]) (by simp [Ord.kind]) (by simp [Ord.kind])
    rw [htx]; simp
end Go.Tm
namespace Go.Tm
open Go.RowKit Go.Proofs
theorem Rn.str_cat {P : Program} {n : Fr} {k : K} {w : World} {d : Option Nat} {ty : TypeId} {pos : String} {aft : Array Edge} {g : Option (Nat × Bool)} {t t' : TypeId} {x y : Operand} {a b : ByteArray} (hx : ev k x = some (.string a)) (hy : ev k y = some (.string b)) (hl : a.size + b.size ≤ 1000000000000) :
    Rn P n k w { dst := d, op := .binOp .add t x y t', type := ty, pos := pos, after := aft, guard := g } (.string (a ++ b)) :=
  Rn.bin hx hy (fun x y => by
    have h1 : ¬ (((a.size + b.size : Nat) : Int) > IntKind.i64.max) := by
      have : IntKind.i64.max = 9223372036854775807 := rfl
      omega
    simp only [eqGuard_add]
    rw [Sem.run_bind]
    simp only [Sem.run_pure, binOp, Op.stringOp]
    rw [if_neg h1]
    rfl)
structure Pln where
  o : Ord
  way : Int
  b : Bld
  t : ByteArray
abbrev plnV (P : Pln) (A : Option Addr) (c : Nat) (SA : Option Addr) (sc : Nat) : Array Value := #[.int .i64 P.o.kind, .int .i64 P.o.n, .slice A P.o.kids.length c, .int .i64 P.way, .int .i64 P.b.ln, .int .i64 P.b.cl, .int .i64 P.b.i0, .int .i64 P.b.ou, .slice SA P.b.steps.length sc, .string P.t]
/-- A plan in memory: all of it lies within lo and hi. -/
structure PlnR (lo hi : Nat) (w : World) (p : Nat) (P : Pln) : Prop where
  ex : ∃ A c SA sc, Bk w p (plnV P A c SA sc) 80 ∧ RdK (In lo hi) w A P.o.kids ∧ SlR (In lo hi) w SA P.b.steps.length 7 (flatS P.b.steps)
  at_ : lo ≤ p ∧ p < hi
theorem PlnR.to {lo hi : Nat} {w w' : World} {p : Nat} {P : Pln} (h : PlnR lo hi w p P) {D : Nat → Prop} (c : Ch D w w') (hd : ∀ x, x < w.heap.size → In lo hi x → isC w x → ¬ D x) : PlnR lo hi w' p P := by
  obtain ⟨A, k, SA, sc, h1, h2, h3⟩ := h.ex
  exact ⟨⟨A, k, SA, sc, h1.to c (hd p h1.lt h.at_ ⟨_, _, _, h1.blk⟩), h2.to c hd, h3.to c hd⟩, h.at_⟩
theorem PlnR.keep {lo hi : Nat} {w w' : World} {p : Nat} {P : Pln} (h : PlnR lo hi w p P) (c : Ch No w w') : PlnR lo hi w' p P := h.to c fun _ _ _ _ => id
theorem PlnR.weak {lo hi lo' hi' : Nat} {w : World} {p : Nat} {P : Pln} (h : PlnR lo hi w p P) (h1 : lo' ≤ lo) (h2 : hi ≤ hi') : PlnR lo' hi' w p P := by
  obtain ⟨A, k, SA, sc, e1, e2, e3⟩ := h.ex
  have := h.at_
  exact ⟨⟨A, k, SA, sc, e1, e2.weak (fun x h => ⟨by have := h.1; omega, by have := h.2; omega⟩), e3.weak (fun x h => ⟨by have := h.1; omega, by have := h.2; omega⟩)⟩, by omega, by omega⟩
def deepT (o : Ord) : ByteArray := (ByteArray.mk #[100, 101, 101, 112] ++ ByteArray.mk #[32]) ++ ByteArray.mk (tx o).toArray
/-- The plan of an order, deep. -/
def plnM (o : Ord) : Pln := ⟨o, 0, buildM o, deepT o⟩

set_option maxRecDepth 100000 in
theorem inf67w19 : Inf Tryz.prog 67 (.agg #[.int .i64 0, .int .i64 0, .slice none 0 0]) 3 40 := ⟨Tryz.t67, Tryz.type67, rfl, rfl, rfl⟩
theorem bld80_0_1_2_3w19 {v0_0 v0_1 v0_2 v1 v2_0 v2_1 v2_2 v2_3 v2_4 v3 : Value} (h : [v1, v3].all Value.oneCell' = true) (w : World) : (Instr.build 80 ([(0, .agg #[v0_0, v0_1, v0_2]), (1, v1), (2, .agg #[v2_0, v2_1, v2_2, v2_3, v2_4]), (3, v3)] : List (Nat × Value)).toArray).run Tryz.prog w = .ok (.agg #[v0_0, v0_1, v0_2, v1, v2_0, v2_1, v2_2, v2_3, v2_4, v3]) w := by
  simp only [List.all_cons, Bool.and_eq_true, List.all_nil, and_true] at h
  have hv1 := oneCell_cells (v := v1) (by simp_all)
  have hv3 := oneCell_cells (v := v3) (by simp_all)
  have h1 := fill_set (fun i => ([(0, 3), (3, 1), (4, 5), (9, 1)] : List (Nat × Nat))[i]?) [(0, .agg #[v0_0, v0_1, v0_2]), (1, v1), (2, .agg #[v2_0, v2_1, v2_2, v2_3, v2_4]), (3, v3)] [.int .i64 0, .int .i64 0, .slice none 0 0, .int .i64 0, .int .i64 0, .int .i64 0, .int .i64 0, .int .i64 0, .slice none 0 0, .string ⟨#[]⟩] (by simp [okF, agg_cells, hv1, hv3, Nat.beq, Nat.ble])
  simp [setF, agg_cells, hv1, hv3] at h1
  simp [Instr.build, Tryz.runUnderlying80, Tryz.zeroValue80, Tryz.sizeOf3, Tryz.sizeOf9, Tryz.sizeOf67, Tryz.sizeOf78, agg_cells, h1]
set_option maxHeartbeats 1000000 in
set_option maxRecDepth 100000 in
theorem c_Program (o : Ord) (A : Option Addr) (c lo hi : Nat) (w : World) (kd : RdK (In lo hi) w A o.kids) (hh : hi ≤ w.heap.size) (hl : o.len ≠ 0) (hf : (buildM o).full = false) (st : StT w) (hG : 23 ≤ w.heap.size) :
    Calls Tryz.prog 39 #[ordV o A c, .int .i64 0] w (Ret (fun v w' => ∃ SA sc, v = .tuple #[.agg #[.int .i64 (buildM o).ln, .int .i64 (buildM o).cl, .int .i64 (buildM o).i0, .int .i64 (buildM o).ou, .slice SA (buildM o).steps.length sc], .nilIface] ∧ SlR (In w.heap.size w'.heap.size) w' SA (buildM o).steps.length 7 (flatS (buildM o).steps) ∧ Ch No w w')) := by
  refine calls_of_VC (args := [ordV o A c, .int .i64 0]) Tryz.func39 rfl Tryz.ntmps39 rfl ?_
  refine VC.seq ?_
  refine VC.region ?_
  refine VO.wk (Wk.box rfl) rfl rfl rfl ?_
  rintro _ w1 ⟨p1, rfl, N1⟩
  have c1 := N1.ch
  have e1 := N1.p; have z1 := N1.size
  have b2 := Bk.new N1
  refine VO.wk (Wk.alloc Tryz.zeroValue78) rfl rfl rfl ?_
  rintro _ w2 ⟨p2, rfl, N2⟩
  have c2 := N2.ch
  have e2 := N2.p; have z2 := N2.size
  have b4 := Bk.new N2
  refine VO.mv (Rn.assign rfl) rfl rfl rfl ?_
  refine VO.nil ?_
  refine VQ.then_code ?_
  refine VC.seq ?_
  refine VC.region ?_
  have b2_2 := b2.keep c2
  refine VO.mv (Rn.loads Tryz.isAgg67 Tryz.sizeOf67 rfl rfl (b2_2.all' rfl)) rfl rfl rfl ?_
  refine VO.mv (Rn.move rfl) rfl rfl rfl ?_
  have kd_2 := kd.keep (c1.trans c2)
  have st_2 := st.keep (c1.trans c2)
  refine VO.wk (Wk.call Tryz.call50 rfl (c_build _ _ _ _ _ _ kd_2 (by omega) hl hf st_2 (by omega))) rfl rfl rfl ?_
  rintro _ w3 ⟨q3, r3, rfl, bb3, yq3, yr3, c3⟩
  have lb3 := bb3.lt
  obtain ⟨bA3, bC3, bk3, rw3⟩ := id bb3
  have z3 := c3.size
  refine VO.mv (Rn.move rfl) rfl rfl rfl ?_
  refine VO.mv (Rn.extract rfl rfl) rfl rfl rfl ?_
  refine VO.mv (Rn.extract rfl rfl) rfl rfl rfl ?_
  refine VO.mv (Rn.assign rfl) rfl rfl rfl ?_
  refine VO.mv (Rn.assign rfl) rfl rfl rfl ?_
  refine VO.nil ?_
  refine VQ.then_code ?_
  refine VC.seq ?_
  refine VC.seq ?_
  refine VC.region ?_
  refine VO.mv (Rn.move rfl) rfl rfl rfl ?_
  refine VO.mv (Rn.nil_neq_nil Tryz.underlying27 rfl) rfl rfl rfl ?_
  refine VO.nil ?_
  refine VQ.then_code ?_
  refine VC.cond_false rfl ?_
  refine VC.skip ?_
  refine VQ.then_code ?_
  refine VC.seq ?_
  refine VC.region ?_
  refine VO.mv (Rn.move rfl) rfl rfl rfl ?_
  refine VO.mv (Rn.nilCheck rfl) rfl rfl rfl ?_
  refine VO.mv (Rn.field Tryz.underlying109 rfl Tryz.sizeOf78 rfl rfl rfl) rfl rfl rfl ?_
  refine VO.mv (Rn.loads Tryz.isAgg78 Tryz.sizeOf78 rfl rfl (bk3.part 5 rfl)) rfl rfl rfl ?_
  have b4_3 := b4.keep c3
  refine VO.wk0 (Wk.puts Tryz.sizeOf78 rfl rfl rfl rfl b4_3 (Nat.le_of_ble_eq_true rfl)) rfl rfl ?_
  intro _ w4 Z4
  have c4 := Z4.ch; have z4 := Z4.size
  have b4_4 := Bk.put Z4
  refine VO.mv (Rn.assign rfl) rfl rfl rfl ?_
  refine VO.nil ?_
  refine VQ.then_code ?_
  refine VC.ret ?_
  refine VQ.retct rfl rfl Tryz.isAgg78 Tryz.sizeOf78 rfl (b4_4.all' rfl) rfl ?_
  refine Ret.mk ?_
  have cc_0_4 : Ch No w w4 := (Ch.then (E := No) ((c1.and c2).and c3) c4 (by intro q h1 h2; rcases h2 with h2 | h2 <;> first | exact h2 | (exfalso; omega)))
  have CH_4 := (Ch.refl (No) w).and cc_0_4
  have row_4 := rw3.to c4 (by first | exact fun _ _ _ _ => id | (intro q h1 h2 hx h3; omega))
  have zz := CH_4.size; have yl := row_4.lt
  exact ⟨_, _, rfl, row_4.sl.weak (fun y h => ⟨by omega, by omega⟩), CH_4⟩

set_option maxRecDepth 100000 in
theorem plan_copied (m : Nat) : ∀ (o : Ord) (A : Option Addr) (c : Nat) (lo hi : Nat) (w : World) (_ : SizeOf.sizeOf o < m) (_ : RdK (In lo hi) w A o.kids) (_ : hi ≤ w.heap.size), Calls Tryz.prog 40 #[ordV o A c] w (Ret (fun v w' => ∃ A' c', v = ordV o A' c' ∧ RdK (In w.heap.size w'.heap.size) w' A' o.kids ∧ Ch No w w')) := by
  induction m with
  | zero => intros; omega
  | succ m ih =>
  intro o A c lo hi w hs kd hh
  refine calls_of_VC (args := [ordV o A c]) Tryz.func40 rfl Tryz.ntmps40 rfl ?_
  have kmax := kd.max
  refine VC.seq ?_
  refine VC.region ?_
  refine VO.wk (Wk.box rfl) rfl rfl rfl ?_
  rintro _ w1 ⟨p1, rfl, N1⟩
  have c1 := N1.ch
  have e1 := N1.p; have z1 := N1.size
  have b1 := Bk.new N1
  refine VO.wk (Wk.alloc Tryz.zeroValue67) rfl rfl rfl ?_
  rintro _ w2 ⟨p2, rfl, N2⟩
  have c2 := N2.ch
  have e2 := N2.p; have z2 := N2.size
  have b2 := Bk.new N2
  refine VO.nil ?_
  refine VQ.then_code ?_
  refine VC.seq ?_
  refine VC.region ?_
  refine VO.mv (Rn.field Tryz.underlying67 rfl Tryz.sizeOf65 rfl rfl rfl) rfl rfl rfl ?_
  have b1_2 := b1.keep c2
  refine VO.mv (Rn.load Tryz.isAgg65 rfl (b1_2.cell rfl)) rfl rfl rfl ?_
  refine VO.mv (Rn.assign rfl) rfl rfl rfl ?_
  refine VO.nil ?_
  refine VQ.then_code ?_
  refine VC.seq ?_
  refine VC.region ?_
  refine VO.mv (Rn.field Tryz.underlying67 rfl Tryz.sizeOf65 rfl rfl rfl) rfl rfl rfl ?_
  refine VO.wk0 (Wk.put Tryz.sizeOf65 rfl rfl rfl rfl b1_2 rfl) rfl rfl ?_
  intro _ w3 Z3
  have c3 := Z3.ch; have z3 := Z3.size
  have b1_3 := Bk.put Z3
  refine VO.nil ?_
  refine VQ.then_code ?_
  refine VC.seq ?_
  refine VC.seq ?_
  refine VC.region ?_
  refine VO.mv (Rn.move rfl) rfl rfl rfl ?_
  refine VO.mv (Rn.len Tryz.underlying65 rfl) rfl rfl rfl ?_
  refine VO.mv (Rn.move rfl) rfl rfl rfl ?_
  refine VO.nil ?_
  refine VQ.then_code ?_
  refine VC.block ?_
  have b2_3 := b2.to c3 (by first | exact id | omega)
  have cc_0_3 : Ch No w w3 := (Ch.then (E := No) (c1.and c2) c3 (by intro q h1 h2; rcases h2 with h2 | h2 <;> first | exact h2 | (exfalso; omega)))
  have kd_3 := kd.keep cc_0_3
  have CH_3 := (Ch.refl (No) w).and cc_0_3
  refine VC.loopS (σ := Nat) (fun i => [(1, .pointer (some ⟨p1, 0, none⟩)), (2, .pointer (some ⟨p2, 0, none⟩)), (9, .slice A o.kids.length c), (10, .int .i64 o.kids.length), (11, .int .i64 i)]) (fun i w' => ∃ r A1 c1 cs, i ≤ o.kids.length ∧ Bk w' p1 #[.int .i64 o.kind, .int .i64 o.n, .slice A1 i c1] 67 ∧ Bk w' p2 #[.int .i64 0, .int .i64 0, .slice none 0 0] 67 ∧ Ow w' r 67 3 A1 i c1 cs ∧ (r = 0 ∨ p2 + 1 < r) ∧ KidRow (fun q => p2 < q ∧ q < w'.heap.size ∧ r ≠ q + 1) w' cs (o.kids.take i) ∧ RdK (In lo hi) w' A o.kids ∧ Ch No w w') (fun i => o.kids.length - i) 0 ?_ ⟨rfl, rfl, rfl, rfl, rfl, trivial⟩ ?_
  · exact ⟨0, none, 0, [], Nat.zero_le _, b1_3, b2_3, Ow.nil _ _ _, .inl rfl, KidRow.nil _ _, kd_3, CH_3⟩
  rintro i w4 ⟨r, A1, c1, cs, hi_4, b1_4, b2_4, ow_4, hr_4, kw_4, kd_4, CH_4⟩
  show VC _ _ _ _ [(1, .pointer (some ⟨p1, 0, none⟩)), (2, .pointer (some ⟨p2, 0, none⟩)), (9, .slice A o.kids.length c), (10, .int .i64 o.kids.length), (11, .int .i64 i)] _
  have hln := ow_4.len; have y0 := ow_4.lt; have zc := CH_4.size; have l2 := b2_4.lt
  refine VC.seq ?_
  refine VC.region ?_
  refine VO.mv (Rn.lss rfl rfl) rfl rfl rfl ?_
  refine VO.nil ?_
  refine VQ.then_code ?_
  refine VC.seq ?_
  refine VC.cond_if rfl (fun hc1 => ?_) (fun hc1 => ?_)
  · skip
    refine VC.skip ?_
    refine VQ.then_code ?_
    refine VC.seq ?_
    refine VC.block ?_
    refine VC.seq ?_
    obtain ⟨ko, hko⟩ : ∃ ko, o.kids[i]? = some ko := ⟨_, List.getElem?_eq_getElem (by omega)⟩
    obtain ⟨kA, kc, ka, kr⟩ := kd_4.kid hko
    have hlt := kid_lt hko; have hlt2 := kids_lt o
    refine VC.region ?_
    refine VO.mv (Rn.indexS Tryz.underlying65 Tryz.sizeOf67 rfl rfl (kd_4.ne (by omega)) (by omega) (by omega)) rfl rfl rfl ?_
    refine VO.mv (Rn.loads Tryz.isAgg67 Tryz.sizeOf67 rfl rfl ka.1) rfl rfl rfl ?_
    refine VO.wk (Wk.alloc Tryz.zeroValue67) rfl rfl rfl ?_
    rintro _ w5 ⟨p5, rfl, N5⟩
    have c5 := N5.ch
    have e5 := N5.p; have z5 := N5.size
    have b5 := Bk.new N5
    refine VO.wk0 (Wk.puts Tryz.sizeOf67 rfl rfl rfl rfl b5 (Nat.le_of_ble_eq_true rfl)) rfl rfl ?_
    intro _ w6 Z6
    have c6 := Z6.ch; have z6 := Z6.size
    have b5_6 := Bk.put Z6
    refine VO.nil ?_
    refine VQ.then_code ?_
    refine VC.draws 7 [(0, true), (1, true), (2, true), (3, false), (4, false), (5, false), (6, true)] (fun w1 w' => Ch (At r) w1 w') mixed (by kernel_rfl) (fun _ _ => Ch.refl _ _) ?_
    intro w7 D7
    have c7 := Ch.of_drew D7; have z7 := c7.size
    have cc_4_7 : Ch No w4 w7 := ((Ch.then (E := No) c5 c6 (by intro q h1 h2; rcases h2 with h2 | h2 <;> first | exact h2 | (exfalso; omega))).and c7)
    have b1_7 := b1_4.keep cc_4_7
    have b2_7 := b2_4.keep cc_4_7
    have ow_7 := ow_4.keep cc_4_7
    have ka_7 := ka.keep cc_4_7
    have b5_7 := b5_6.keep c7
    refine VH.mv (fun w' hS => Rn.field Tryz.underlying67 rfl Tryz.sizeOf65 rfl rfl rfl) rfl rfl rfl rfl ?_
    refine VH.mv (fun w' hS => Rn.load Tryz.isAgg65 rfl ((b1_7.to hS (by first | exact id | omega)).cell rfl)) rfl rfl rfl rfl ?_
    refine VH.mv (fun w' hS => Rn.loads Tryz.isAgg67 Tryz.sizeOf67 rfl rfl ((b5_7.to hS (by first | exact id | omega)).all' rfl)) rfl rfl rfl rfl ?_
    have kr_7 := kr.keep cc_4_7
    refine VH.wk (Wk.call Tryz.call40 rfl (ih ko _ _ _ _ _ (by omega) kr_7 (by omega))) rfl rfl rfl rfl ?_
    rintro _ w8 ⟨nA8, nc8, rfl, kn8, c8⟩
    have z8 := c8.size
    have RD_8 := (Ch.refl (At r) w7).and c8
    refine ⟨RD_8, ?_⟩
    refine VH.wk (Wk.lit Tryz.underlying65 inf67w19 (by decide) rfl rfl (by rfl) (by decide) (by decide) (by rfl)) rfl rfl rfl rfl ?_
    rintro _ w9 ⟨p9, rfl, N9⟩
    have c9 := N9.ch
    have e9 := N9.p; have z9 := N9.size
    have l19 := SlR.of_new (sz := 3) (l := 1) N9 rfl
    have l19o := Ow.of_new (sz := 3) (l := 1) N9 rfl (by decide)
    have RD_9 := RD_8.and c9
    refine ⟨RD_9, ?_⟩
    have ow_9 := ow_7.keep (c8.trans c9)
    refine VH.wk (Wk.append (S := _) Tryz.underlying65 inf67w19 rfl (by decide) rfl rfl ow_9 l19 (by rfl) (fun h => by simp at h) (by omega) (by simp only [maxLen]; omega)) rfl rfl rfl rfl ?_
    rintro _ w10 ⟨r10, A10, k10, rfl, o10, c10, q10⟩
    have z10 := c10.size
    have y10 := o10.lt
    have RD_10 : Ch (At r) w7 w10 := RD_9.then c10 (by intro q h1 h2; rcases h2 with h2 | h2 <;> first | exact h2 | (exfalso; omega) | omega)
    refine ⟨RD_10, ?_⟩
    refine VH.mv (fun w' hS => Rn.field Tryz.underlying67 rfl Tryz.sizeOf65 rfl rfl rfl) rfl rfl rfl rfl ?_
    refine VH.done ?_
    have b1_9 := b1_7.keep (c8.trans c9)
    have b1_10 := b1_9.to c10 (by first | exact id | omega)
    refine VO.wk0 (Wk.put Tryz.sizeOf65 rfl rfl rfl rfl b1_10 rfl) rfl rfl ?_
    intro _ w11 Z11
    have c11 := Z11.ch; have z11 := Z11.size
    have b1_11 := Bk.put Z11
    refine VO.nil ?_
    refine VQ.noPanic ?_
    refine VQ.block_normal ?_
    refine VQ.then_code ?_
    refine VC.region ?_
    refine VO.mv (Rn.add rfl rfl (by rw [IntKind.wrap_i64]; omega)) rfl rfl rfl ?_
    refine VO.mv (Rn.move rfl) rfl rfl rfl ?_
    refine VO.nil ?_
    refine VQ.round (i + 1) (by first | omega | (dsimp only; omega)) ?_ ⟨rfl, rfl, rfl, rfl, rfl, trivial⟩
    have e : (o.kids.take (i + 1)) = o.kids.take i ++ [ko] := by rw [List.take_add_one, hko]; rfl
    have b2_9 := b2_7.keep (c8.trans c9)
    have b2_10 := b2_9.to c10 (by first | exact id | omega)
    have b2_11 := b2_10.to c11 (by first | exact id | omega)
    have ow_11 := o10.to c11 (by first | exact fun _ _ _ _ => id | (intro q h1 h2 hx h3; omega))
    have cc_4_9 : Ch No w4 w9 := ((((Ch.then (E := No) c5 c6 (by intro q h1 h2; rcases h2 with h2 | h2 <;> first | exact h2 | (exfalso; omega))).and c7).and c8).and c9)
    have kd_9 := kd_4.keep cc_4_9
    have kd_10 := kd_9.to c10 (by first | exact fun _ _ _ _ => id | (intro q h1 h2 hx h3; omega))
    have kd_11 := kd_10.to c11 (by first | exact fun _ _ _ _ => id | (intro q h1 h2 hx h3; omega))
    have CH_9 := CH_4.and cc_4_9
    have CH_10 : Ch (No) w w10 := CH_9.then c10 (by intro q h1 h2; rcases h2 with h2 | h2 <;> first | exact h2 | (exfalso; omega) | omega)
    have CH_11 : Ch (No) w w11 := CH_10.then c11 (by intro q h1 h2; rcases h2 with h2 | h2 <;> first | exact h2 | (exfalso; omega) | omega)
    refine ⟨_, _, _, _, by omega, b1_11, b2_11, ow_11, by omega, ?_, kd_11, CH_11⟩
    have kw_9 := kw_4.keep cc_4_9
    have kw_10 := kw_9.to c10 (by first | exact fun _ _ _ _ => id | (intro q h1 h2 hx h3; omega))
    have kw_11 := kw_10.to c11 (by first | exact fun _ _ _ _ => id | (intro q h1 h2 hx h3; omega))
    have hl := kw_11
    rw [e]
    have hlen : cs.length = (o.kids.take i).length * 3 := by rw [List.length_take, Nat.min_eq_left (by omega)]; exact hln
    have kn_9 := kn8.keep c9
    have kn_10 := kn_9.to c10 (by first | exact fun _ _ _ _ => id | (intro q h1 h2 hx h3; omega))
    have kn_11 := kn_10.to c11 (by first | exact fun _ _ _ _ => id | (intro q h1 h2 hx h3; omega))
    exact ((hl.weak (fun q h => ⟨h.1, by omega, by omega⟩)).snoc hlen ((kn_11).weak (fun q h => ⟨by omega, by omega, by omega⟩)))
  · skip
    refine VC.exit ?_
    refine VQ.then_exit ?_
    refine VQ.then_exit ?_
    refine VQ.block_exit ?_
    refine VQ.then_code ?_
    refine VC.seq ?_
    refine VC.region ?_
    refine VO.mv (Rn.loads Tryz.isAgg67 Tryz.sizeOf67 rfl rfl (b1_4.all' rfl)) rfl rfl rfl ?_
    refine VO.wk0 (Wk.puts Tryz.sizeOf67 rfl rfl rfl rfl b2_4 (Nat.le_of_ble_eq_true rfl)) rfl rfl ?_
    intro _ w12 Z12
    have c12 := Z12.ch; have z12 := Z12.size
    have b2_12 := Bk.put Z12
    refine VO.nil ?_
    refine VQ.then_code ?_
    refine VC.ret ?_
    refine VQ.retc rfl rfl Tryz.isAgg67 Tryz.sizeOf67 rfl (b2_12.all' rfl) ?_
    refine Ret.mk ?_
    have hi' : i = o.kids.length := by omega
    subst hi'
    have kw_12 := kw_4.to c12 (by first | exact fun _ _ _ _ => id | (intro q h1 h2 hx h3; omega))
    have hk := kw_12
    rw [List.take_length] at hk
    have ow_12 := ow_4.to c12 (by first | exact fun _ _ _ _ => id | (intro q h1 h2 hx h3; omega))
    have CH_12 : Ch (No) w w12 := CH_4.then c12 (by intro q h1 h2; rcases h2 with h2 | h2 <;> first | exact h2 | (exfalso; omega) | omega)
    have yl := ow_12.lt; have zz := CH_12.size
    exact ⟨_, _, rfl, ((hk.weak (fun q h => ⟨by omega, by omega⟩)).rd (ow_12.sl.weak (fun q h => ⟨by omega, by omega⟩)) kmax), CH_12⟩

set_option maxRecDepth 100000 in
theorem word_deep (w : World) :
    Calls Tryz.prog 37 #[.int .i64 0] w (Ret (fun v w' => v = .string ⟨#[100, 101, 101, 112]⟩ ∧ w = w')) := by
  refine calls_of_VC (args := [.int .i64 0]) Tryz.func37 rfl Tryz.ntmps37 rfl ?_
  refine VC.seq ?_
  refine VC.region ?_
  refine VO.mv (Rn.assign rfl) rfl rfl rfl ?_
  refine VO.nil ?_
  refine VQ.then_code ?_
  refine VC.seq ?_
  refine VC.seq ?_
  refine VC.region ?_
  refine VO.mv (Rn.move rfl) rfl rfl rfl ?_
  refine VO.nil ?_
  refine VQ.then_code ?_
  refine VC.block ?_
  refine VC.seq ?_
  refine VC.region ?_
  refine VO.mv (Rn.eql rfl rfl) rfl rfl rfl ?_
  refine VO.mv (Rn.assign rfl) rfl rfl rfl ?_
  refine VO.nil ?_
  refine VQ.then_code ?_
  refine VC.cond_if rfl (fun hc1 => ?_) (fun hc1 => ?_)
  · skip
    refine VC.seq ?_
    refine VC.region ?_
    refine VO.mv (Rn.assign rfl) rfl rfl rfl ?_
    refine VO.nil ?_
    refine VQ.then_code ?_
    refine VC.ret ?_
    refine VQ.block_ret ?_
    refine VQ.then_ret ?_
    refine VQ.ret1 rfl rfl ?_
    refine Ret.mk ?_
    exact ⟨rfl, rfl⟩
  · skip
    exact absurd rfl hc1

set_option maxHeartbeats 1000000 in
set_option maxRecDepth 100000 in
theorem plan_Of (o : Ord) (A : Option Addr) (c lo hi : Nat) (w : World) (kd : RdK (In lo hi) w A o.kids) (hh : hi ≤ w.heap.size) (hl : o.len ≠ 0) (hf : (buildM o).full = false) (st : StT w) (tab : TabB w.heap.size w) (hG : 23 ≤ w.heap.size) :
    Calls Tryz.prog 20 #[ordV o A c, .int .i64 0] w (Ret (fun v w' => ∃ p, v = .tuple #[.pointer (some ⟨p, 0, none⟩), .nilIface] ∧ PlnR w.heap.size w'.heap.size w' p (plnM o) ∧ Ch No w w')) := by
  have hg := (GO.of_len hl).okO
  have hg0 := hl
  have htb := tx_bd hl
  have hx := htb.1
  have hle : (tx o).length ≤ 900000 := by omega
  refine calls_of_VC (args := [ordV o A c, .int .i64 0]) Tryz.func20 rfl Tryz.ntmps20 rfl ?_
  refine VC.seq ?_
  refine VC.region ?_
  refine VO.wk (Wk.box rfl) rfl rfl rfl ?_
  rintro _ w1 ⟨p1, rfl, N1⟩
  have c1 := N1.ch
  have e1 := N1.p; have z1 := N1.size
  have b2 := Bk.new N1
  refine VO.mv (Rn.assign rfl) rfl rfl rfl ?_
  refine VO.mv (Rn.assign rfl) rfl rfl rfl ?_
  refine VO.nil ?_
  refine VQ.then_code ?_
  refine VC.seq ?_
  refine VC.seq ?_
  refine VC.region ?_
  refine VO.mv (Rn.move rfl) rfl rfl rfl ?_
  refine VO.wk (Wk.call Tryz.call37 rfl (word_deep _)) rfl rfl rfl ?_
  rintro _ _ ⟨rfl, rfl⟩
  refine VO.mv (Rn.str_eql rfl rfl) rfl rfl rfl ?_
  refine VO.nil ?_
  refine VQ.then_code ?_
  refine VC.cond rfl (fun hc1 => ?_) (fun hc1 => ?_)
  · skip
    try simp only [Bool.and_eq_true, Bool.or_eq_true, Bool.not_eq_true', Bool.not_eq_false', Bool.and_eq_false_iff, Bool.or_eq_false_iff, decide_eq_true_eq, decide_eq_false_iff_not] at hc1
    cases (hc1.symm.trans (show _ = false by kernel_rfl))
  · skip
    try simp only [Bool.and_eq_true, Bool.or_eq_true, Bool.not_eq_true', Bool.not_eq_false', Bool.and_eq_false_iff, Bool.or_eq_false_iff, decide_eq_true_eq, decide_eq_false_iff_not] at hc1
    refine VC.skip ?_
    refine VQ.then_code ?_
    refine VC.seq ?_
    refine VC.region ?_
    refine VO.mv (Rn.loads Tryz.isAgg67 Tryz.sizeOf67 rfl rfl (b2.all' rfl)) rfl rfl rfl ?_
    have kd_1 := kd.keep c1
    have tab_1 := tab.keep c1
    refine VO.wk (Wk.call Tryz.call38 rfl (order_Text _ _ _ _ _ _ kd_1 (by omega) hg hg0 hx hle ((tab_1).up (by omega)))) rfl rfl rfl ?_
    rintro _ w2 ⟨rfl, c2⟩
    have z2 := c2.size
    refine VO.mv (Rn.move rfl) rfl rfl rfl ?_
    refine VO.mv (Rn.extract rfl rfl) rfl rfl rfl ?_
    refine VO.mv (Rn.extract rfl rfl) rfl rfl rfl ?_
    refine VO.mv (Rn.assign rfl) rfl rfl rfl ?_
    refine VO.mv (Rn.assign rfl) rfl rfl rfl ?_
    refine VO.nil ?_
    refine VQ.then_code ?_
    refine VC.seq ?_
    refine VC.seq ?_
    refine VC.region ?_
    refine VO.mv (Rn.move rfl) rfl rfl rfl ?_
    refine VO.mv (Rn.nil_neq_nil Tryz.underlying27 rfl) rfl rfl rfl ?_
    refine VO.nil ?_
    refine VQ.then_code ?_
    refine VC.cond_false rfl ?_
    refine VC.skip ?_
    refine VQ.then_code ?_
    refine VC.seq ?_
    refine VC.region ?_
    have b2_2 := b2.keep c2
    refine VO.mv (Rn.loads Tryz.isAgg67 Tryz.sizeOf67 rfl rfl (b2_2.all' rfl)) rfl rfl rfl ?_
    refine VO.mv (Rn.move rfl) rfl rfl rfl ?_
    have kd_2 := kd_1.keep c2
    have st_2 := st.keep (c1.trans c2)
    refine VO.wk (Wk.call Tryz.call39 rfl (c_Program _ _ _ _ _ _ kd_2 (by omega) hl hf st_2 (by omega))) rfl rfl rfl ?_
    rintro _ w3 ⟨sA3, sC3, rfl, ss3, c3⟩
    have z3 := c3.size
    refine VO.mv (Rn.move rfl) rfl rfl rfl ?_
    refine VO.mv (Rn.extract rfl rfl) rfl rfl rfl ?_
    refine VO.mv (Rn.extract rfl rfl) rfl rfl rfl ?_
    refine VO.wk (Wk.alloc Tryz.zeroValue78) rfl rfl rfl ?_
    rintro _ w4 ⟨p4, rfl, N4⟩
    have c4 := N4.ch
    have e4 := N4.p; have z4 := N4.size
    have b8 := Bk.new N4
    refine VO.wk0 (Wk.puts Tryz.sizeOf78 rfl rfl rfl rfl b8 (Nat.le_of_ble_eq_true rfl)) rfl rfl ?_
    intro _ w5 Z5
    have c5 := Z5.ch; have z5 := Z5.size
    have b8_5 := Bk.put Z5
    refine VO.mv (Rn.assign rfl) rfl rfl rfl ?_
    refine VO.nil ?_
    refine VQ.then_code ?_
    refine VC.seq ?_
    refine VC.seq ?_
    refine VC.region ?_
    refine VO.mv (Rn.move rfl) rfl rfl rfl ?_
    refine VO.mv (Rn.nil_neq_nil Tryz.underlying27 rfl) rfl rfl rfl ?_
    refine VO.nil ?_
    refine VQ.then_code ?_
    refine VC.cond_false rfl ?_
    refine VC.skip ?_
    refine VQ.then_code ?_
    refine VC.seq ?_
    refine VC.draws 12 [(0, true), (2, true), (3, true), (4, true), (7, true), (1, false), (5, false), (6, true), (8, true), (9, true), (10, false), (11, true)] (fun w1 w' => Ch (No) w1 w') mixed (by kernel_rfl) (fun _ _ => Ch.refl _ _) ?_
    intro w6 D6
    have c6 := Ch.of_drew D6; have z6 := c6.size
    have cc_2_6 : Ch No w2 w6 := ((Ch.then (E := No) (c3.and c4) c5 (by intro q h1 h2; rcases h2 with h2 | h2 <;> first | exact h2 | (exfalso; omega))).and c6)
    have b2_6 := b2_2.keep cc_2_6
    have cc_3_6 : Ch No w3 w6 := ((Ch.then (E := No) c4 c5 (by intro q h1 h2; rcases h2 with h2 | h2 <;> first | exact h2 | (exfalso; omega))).and c6)
    have ss_6 := ss3.keep cc_3_6
    have b8_6 := b8_5.keep c6
    refine VH.mv (fun w' hS => Rn.loads Tryz.isAgg67 Tryz.sizeOf67 rfl rfl ((b2_6.keep hS).all' rfl)) rfl rfl rfl rfl ?_
    refine VH.mv (fun w' hS => Rn.move rfl) rfl rfl rfl rfl ?_
    refine VH.mv (fun w' hS => Rn.loads Tryz.isAgg78 Tryz.sizeOf78 rfl rfl ((b8_6.keep hS).all' rfl)) rfl rfl rfl rfl ?_
    refine VH.mv (fun w' hS => Rn.move rfl) rfl rfl rfl rfl ?_
    refine VH.mv (fun w' hS => Rn.move rfl) rfl rfl rfl rfl ?_
    have kd_6 := kd_2.keep cc_2_6
    refine VH.wk (Wk.call Tryz.call40 rfl (plan_copied _ _ _ _ _ _ _ (Nat.lt_succ_self _) kd_6 (by omega))) rfl rfl rfl rfl ?_
    rintro _ w7 ⟨nA7, nc7, rfl, kn7, c7⟩
    have z7 := c7.size
    have RD_7 := (Ch.refl (No) w6).and c7
    refine ⟨RD_7, ?_⟩
    refine VH.wk (Wk.call Tryz.call37 rfl (word_deep _)) rfl rfl rfl rfl ?_
    rintro _ _ ⟨rfl, rfl⟩
    refine ⟨RD_7, ?_⟩
    refine VH.mv (fun w' hS => Rn.str_cat rfl rfl (by decide)) rfl rfl rfl rfl ?_
    refine VH.mv (fun w' hS => Rn.str_cat rfl rfl (by simp [ByteArray.size]; omega)) rfl rfl rfl rfl ?_
    refine VH.mv (fun w' hS => Rn.build (v := .agg #[.int .i64 o.kind, .int .i64 o.n, .slice nA7 o.kids.length nc7, .int .i64 0, .int .i64 (buildM o).ln, .int .i64 (buildM o).cl, .int .i64 (buildM o).i0, .int .i64 (buildM o).ou, .slice sA3 (buildM o).steps.length sC3, .string (deepT o)]) rfl (bld80_0_1_2_3w19 rfl)) rfl rfl rfl rfl ?_
    refine VH.wk (Wk.box rfl) rfl rfl rfl rfl ?_
    rintro _ w8 ⟨p8, rfl, N8⟩
    have c8 := N8.ch
    have e8 := N8.p; have z8 := N8.size
    have b40 := Bk.new N8
    have RD_8 := RD_7.and c8
    refine ⟨RD_8, ?_⟩
    refine VH.mv (fun w' hS => Rn.assign rfl) rfl rfl rfl rfl ?_
    refine VH.done ?_
    refine VO.mv (Rn.assign rfl) rfl rfl rfl ?_
    refine VO.nil ?_
    refine VQ.noPanic ?_
    refine VQ.then_code ?_
    refine VC.ret ?_
    refine VQ.ret2 rfl rfl rfl ?_
    refine Ret.mk ?_
    have cc_0_8 : Ch No w w8 := ((((Ch.then (E := No) (((c1.and c2).and c3).and c4) c5 (by intro q h1 h2; rcases h2 with h2 | h2 <;> first | exact h2 | (exfalso; omega))).and c6).and c7).and c8)
    have CH_8 := (Ch.refl (No) w).and cc_0_8
    have zz := CH_8.size
    have kn_8 := kn7.keep c8
    have ss_8 := ss_6.keep (c7.trans c8)
    exact ⟨_, rfl, ⟨⟨_, _, _, _, b40, (kn_8).weak (fun y h => ⟨by omega, by omega⟩), (ss_8).weak (fun y h => ⟨by omega, by omega⟩)⟩, by omega, by omega⟩, CH_8⟩

end Go.Tm
namespace Go.Tm
open Go.RowKit Go.Proofs
def PU : Pol := ⟨16, [2, 3, 4, 5], 13⟩
/-- A length has a plan by this policy. -/
def HasP (P : Pol) (n : Int) : Prop := ∀ r, Best P n r → r.1.len = n ∧ (buildM r.1).full = false


set_option maxRecDepth 100000 in
theorem plan_With (P : Pol) (hp : PolOk P) (hlen : P.flies.length ≤ 100) (n : Int) (hn : 1 ≤ n) (hn2 : n ≤ 4096) (hc : HasP P n) (FA : Option Addr) (fc lo hi : Nat) (w : World) (sl : SlR (In lo hi) w FA P.flies.length 1 (P.flies.map (.int .i64 ·))) (hh : hi ≤ w.heap.size) (st : StT w) (tab : TabB w.heap.size w) (hG : 23 ≤ w.heap.size) :
    Calls Tryz.prog 35 #[.int .i64 n, .agg #[.int .i64 P.direct, .slice FA P.flies.length fc, .int .i64 P.prime], .int .i64 0] w (Ret (fun v w' => ∃ p r, v = .tuple #[.pointer (some ⟨p, 0, none⟩), .nilIface] ∧ Best P n r ∧ PlnR w.heap.size w'.heap.size w' p (plnM r.1) ∧ Ch No w w')) := by
  refine calls_of_VC (args := [.int .i64 n, .agg #[.int .i64 P.direct, .slice FA P.flies.length fc, .int .i64 P.prime], .int .i64 0]) Tryz.func35 rfl Tryz.ntmps35 rfl ?_
  refine VC.seq ?_
  refine VC.region ?_
  refine VO.wk (Wk.box rfl) rfl rfl rfl ?_
  rintro _ w1 ⟨p1, rfl, N1⟩
  have c1 := N1.ch
  have e1 := N1.p; have z1 := N1.size
  have b4 := Bk.new N1
  refine VO.mv (Rn.assign rfl) rfl rfl rfl ?_
  refine VO.mv (Rn.assign rfl) rfl rfl rfl ?_
  refine VO.nil ?_
  refine VQ.then_code ?_
  refine VC.seq ?_
  refine VC.seq ?_
  refine VC.region ?_
  refine VO.mv (Rn.move rfl) rfl rfl rfl ?_
  refine VO.wk (Wk.call Tryz.call37 rfl (word_deep _)) rfl rfl rfl ?_
  rintro _ _ ⟨rfl, rfl⟩
  refine VO.mv (Rn.str_eql rfl rfl) rfl rfl rfl ?_
  refine VO.nil ?_
  refine VQ.then_code ?_
  refine VC.cond rfl (fun hc1 => ?_) (fun hc1 => ?_)
  · skip
    try simp only [Bool.and_eq_true, Bool.or_eq_true, Bool.not_eq_true', Bool.not_eq_false', Bool.and_eq_false_iff, Bool.or_eq_false_iff, decide_eq_true_eq, decide_eq_false_iff_not] at hc1
    cases (hc1.symm.trans (show _ = false by kernel_rfl))
  · skip
    try simp only [Bool.and_eq_true, Bool.or_eq_true, Bool.not_eq_true', Bool.not_eq_false', Bool.and_eq_false_iff, Bool.or_eq_false_iff, decide_eq_true_eq, decide_eq_false_iff_not] at hc1
    refine VC.skip ?_
    refine VQ.then_code ?_
    refine VC.seq ?_
    refine VC.region ?_
    refine VO.mv (Rn.move rfl) rfl rfl rfl ?_
    refine VO.mv (Rn.loads Tryz.isAgg86 Tryz.sizeOf86 rfl rfl (b4.all' rfl)) rfl rfl rfl ?_
    have sl_1 := sl.keep c1
    refine VO.wk (Wk.call Tryz.call47 rfl (planner_Choose P hp (by omega) _ (by omega) (by omega) _ _ _ _ _ sl_1 (by omega))) rfl rfl rfl ?_
    rintro _ w2 ⟨r, rA, rc, rfl, hr1, rk, c2⟩
    have z2 := c2.size
    have hl : r.1.len ≠ 0 := by rw [(hc r hr1).1]; omega
    have hf := (hc r hr1).2
    refine VO.mv (Rn.move rfl) rfl rfl rfl ?_
    refine VO.mv (Rn.extract rfl rfl) rfl rfl rfl ?_
    refine VO.mv (Rn.extract rfl rfl) rfl rfl rfl ?_
    refine VO.wk (Wk.alloc Tryz.zeroValue67) rfl rfl rfl ?_
    rintro _ w3 ⟨p3, rfl, N3⟩
    have c3 := N3.ch
    have e3 := N3.p; have z3 := N3.size
    have b8 := Bk.new N3
    refine VO.wk0 (Wk.puts Tryz.sizeOf67 rfl rfl rfl rfl b8 (Nat.le_of_ble_eq_true rfl)) rfl rfl ?_
    intro _ w4 Z4
    have c4 := Z4.ch; have z4 := Z4.size
    have b8_4 := Bk.put Z4
    refine VO.mv (Rn.assign rfl) rfl rfl rfl ?_
    refine VO.nil ?_
    refine VQ.then_code ?_
    refine VC.seq ?_
    refine VC.seq ?_
    refine VC.region ?_
    refine VO.mv (Rn.move rfl) rfl rfl rfl ?_
    refine VO.mv (Rn.nil_neq_nil Tryz.underlying27 rfl) rfl rfl rfl ?_
    refine VO.nil ?_
    refine VQ.then_code ?_
    refine VC.cond_false rfl ?_
    refine VC.skip ?_
    refine VQ.then_code ?_
    refine VC.seq ?_
    refine VC.region ?_
    refine VO.mv (Rn.loads Tryz.isAgg67 Tryz.sizeOf67 rfl rfl (b8_4.all' rfl)) rfl rfl rfl ?_
    refine VO.mv (Rn.move rfl) rfl rfl rfl ?_
    have cc_2_4 : Ch No w2 w4 := (Ch.then (E := No) c3 c4 (by intro q h1 h2; rcases h2 with h2 | h2 <;> first | exact h2 | (exfalso; omega)))
    have rk_4 := rk.keep cc_2_4
    have cc_0_4 : Ch No w w4 := (Ch.then (E := No) ((c1.and c2).and c3) c4 (by intro q h1 h2; rcases h2 with h2 | h2 <;> first | exact h2 | (exfalso; omega)))
    have st_4 := st.keep cc_0_4
    have tab_4 := tab.keep cc_0_4
    refine VO.wk (Wk.call Tryz.call20 rfl (plan_Of _ _ _ _ _ _ rk_4 (by omega) hl hf st_4 ((tab_4).up (by omega)) (by omega))) rfl rfl rfl ?_
    rintro _ w5 ⟨p5, rfl, pl5, c5⟩
    have z5 := c5.size
    refine VO.mv (Rn.extract rfl rfl) rfl rfl rfl ?_
    refine VO.mv (Rn.extract rfl rfl) rfl rfl rfl ?_
    refine VO.mv (Rn.assign rfl) rfl rfl rfl ?_
    refine VO.mv (Rn.assign rfl) rfl rfl rfl ?_
    refine VO.nil ?_
    refine VQ.then_code ?_
    refine VC.ret ?_
    refine VQ.ret2 rfl rfl rfl ?_
    refine Ret.mk ?_
    have cc_0_5 : Ch No w w5 := ((Ch.then (E := No) ((c1.and c2).and c3) c4 (by intro q h1 h2; rcases h2 with h2 | h2 <;> first | exact h2 | (exfalso; omega))).and c5)
    have CH_5 := (Ch.refl (No) w).and cc_0_5
    have zz := CH_5.size
    exact ⟨_, r, rfl, hr1, (pl5).weak (by omega) (by omega), CH_5⟩

set_option maxRecDepth 100000 in
theorem plan_New (n : Int) (hn : 1 ≤ n) (hn2 : n ≤ 4096) (hc : HasP PU n) (w : World) (st : StT w) (tab : TabB w.heap.size w) (hG : 23 ≤ w.heap.size) :
    Calls Tryz.prog 19 #[.int .i64 n] w (Ret (fun v w' => ∃ p r, v = .tuple #[.pointer (some ⟨p, 0, none⟩), .nilIface] ∧ Best PU n r ∧ PlnR w.heap.size w'.heap.size w' p (plnM r.1) ∧ Ch No w w')) := by
  refine calls_of_VC (args := [.int .i64 n]) Tryz.func19 rfl Tryz.ntmps19 rfl ?_
  refine VC.seq ?_
  refine VC.region ?_
  refine VO.mv (Rn.assign rfl) rfl rfl rfl ?_
  refine VO.mv (Rn.assign rfl) rfl rfl rfl ?_
  refine VO.nil ?_
  refine VQ.then_code ?_
  refine VC.seq ?_
  refine VC.region ?_
  refine VO.mv (Rn.move rfl) rfl rfl rfl ?_
  refine VO.wk (Wk.call Tryz.call36 rfl (planner_Usual _)) rfl rfl rfl ?_
  rintro _ w1 ⟨FA, fc, rfl, sl, c1⟩
  have z1 := c1.size
  have st_1 := st.keep c1
  have tab_1 := tab.keep c1
  refine VO.wk (Wk.call Tryz.call35 rfl (plan_With PU (by refine ⟨by decide, by decide, by decide, by decide, ?_⟩; intro i r h; match i, h with | 0, h => (simp [PU] at h; subst h; decide) | 1, h => (simp [PU] at h; subst h; decide) | 2, h => (simp [PU] at h; subst h; decide) | 3, h => (simp [PU] at h; subst h; decide) | (i + 4), h => simp [PU] at h) (by decide) n hn hn2 hc _ _ _ _ _ sl (by omega) st_1 ((tab_1).up (by omega)) (by omega))) rfl rfl rfl ?_
  rintro _ w2 ⟨p2, r, rfl, hr1, pl2, c2⟩
  have z2 := c2.size
  refine VO.mv (Rn.extract rfl rfl) rfl rfl rfl ?_
  refine VO.mv (Rn.extract rfl rfl) rfl rfl rfl ?_
  refine VO.mv (Rn.assign rfl) rfl rfl rfl ?_
  refine VO.mv (Rn.assign rfl) rfl rfl rfl ?_
  refine VO.nil ?_
  refine VQ.then_code ?_
  refine VC.ret ?_
  refine VQ.ret2 rfl rfl rfl ?_
  refine Ret.mk ?_
  have CH_2 := (Ch.refl (No) w).and (c1.trans c2)
  have zz := CH_2.size
  exact ⟨_, r, rfl, hr1, (pl2).weak (by omega) (by omega), CH_2⟩

set_option maxRecDepth 100000 in
theorem plan_Text (lo hi p : Nat) (P : Pln) (w : World) (pl : PlnR lo hi w p P) (hh : hi ≤ w.heap.size)  :
    Calls Tryz.prog 17 #[.pointer (some ⟨p, 0, none⟩)] w (Ret (fun v w' => v = .string P.t ∧ w = w')) := by
  obtain ⟨oA, oC, sA, sC, bp, pk, ps⟩ := id pl.ex; have hpa := pl.at_
  refine calls_of_VC (args := [.pointer (some ⟨p, 0, none⟩)]) Tryz.func17 rfl Tryz.ntmps17 rfl ?_
  refine VC.seq ?_
  refine VC.region ?_
  refine VO.mv (Rn.assign rfl) rfl rfl rfl ?_
  refine VO.nil ?_
  refine VQ.then_code ?_
  refine VC.seq ?_
  refine VC.region ?_
  refine VO.mv (Rn.move rfl) rfl rfl rfl ?_
  refine VO.mv (Rn.nilCheck rfl) rfl rfl rfl ?_
  refine VO.mv (Rn.field Tryz.underlying80 rfl Tryz.sizeOf9 rfl rfl rfl) rfl rfl rfl ?_
  refine VO.mv (Rn.load Tryz.isAgg9 rfl (bp.cell rfl)) rfl rfl rfl ?_
  refine VO.mv (Rn.assign rfl) rfl rfl rfl ?_
  refine VO.nil ?_
  refine VQ.then_code ?_
  refine VC.ret ?_
  refine VQ.ret1 rfl rfl ?_
  refine Ret.mk ?_
  exact ⟨rfl, rfl⟩

set_option maxRecDepth 100000 in
theorem plan_Order (lo hi p : Nat) (P : Pln) (w : World) (pl : PlnR lo hi w p P) (hh : hi ≤ w.heap.size)  :
    Calls Tryz.prog 21 #[.pointer (some ⟨p, 0, none⟩)] w (Ret (fun v w' => ∃ A c, v = ordV P.o A c ∧ RdK (In w.heap.size w'.heap.size) w' A P.o.kids ∧ Ch No w w')) := by
  obtain ⟨oA, oC, sA, sC, bp, pk, ps⟩ := id pl.ex; have hpa := pl.at_
  refine calls_of_VC (args := [.pointer (some ⟨p, 0, none⟩)]) Tryz.func21 rfl Tryz.ntmps21 rfl ?_
  refine VC.seq ?_
  refine VC.region ?_
  refine VO.wk (Wk.alloc Tryz.zeroValue67) rfl rfl rfl ?_
  rintro _ w1 ⟨p1, rfl, N1⟩
  have c1 := N1.ch
  have e1 := N1.p; have z1 := N1.size
  have b2 := Bk.new N1
  refine VO.nil ?_
  refine VQ.then_code ?_
  refine VC.seq ?_
  refine VC.region ?_
  refine VO.mv (Rn.move rfl) rfl rfl rfl ?_
  refine VO.mv (Rn.nilCheck rfl) rfl rfl rfl ?_
  refine VO.mv (Rn.field Tryz.underlying80 rfl Tryz.sizeOf67 rfl rfl rfl) rfl rfl rfl ?_
  have bp_1 := bp.keep c1
  refine VO.mv (Rn.loads Tryz.isAgg67 Tryz.sizeOf67 rfl rfl (bp_1.part 3 rfl)) rfl rfl rfl ?_
  have pk_1 := pk.keep c1
  refine VO.wk (Wk.call Tryz.call40 rfl (plan_copied _ _ _ _ _ _ _ (Nat.lt_succ_self _) pk_1 (by omega))) rfl rfl rfl ?_
  rintro _ w2 ⟨nA2, nc2, rfl, kn2, c2⟩
  have z2 := c2.size
  have b2_2 := b2.keep c2
  refine VO.wk0 (Wk.puts Tryz.sizeOf67 rfl rfl rfl rfl b2_2 (Nat.le_of_ble_eq_true rfl)) rfl rfl ?_
  intro _ w3 Z3
  have c3 := Z3.ch; have z3 := Z3.size
  have b2_3 := Bk.put Z3
  refine VO.nil ?_
  refine VQ.then_code ?_
  refine VC.ret ?_
  refine VQ.retc rfl rfl Tryz.isAgg67 Tryz.sizeOf67 rfl (b2_3.all' rfl) ?_
  refine Ret.mk ?_
  have cc_0_3 : Ch No w w3 := (Ch.then (E := No) (c1.and c2) c3 (by intro q h1 h2; rcases h2 with h2 | h2 <;> first | exact h2 | (exfalso; omega)))
  have CH_3 := (Ch.refl (No) w).and cc_0_3
  have zz := CH_3.size
  have kn_3 := kn2.to c3 (by first | exact fun _ _ _ _ => id | (intro q h1 h2 hx h3; omega))
  exact ⟨_, _, rfl, (kn_3).weak (fun y h => ⟨by omega, by omega⟩), CH_3⟩

end Go.Tm
namespace Go.Tm
open Go.RowKit Go.Proofs Go.Shelf
theorem Sts.trans {w w' w'' : World} {p : Nat} {o o' : Obj} (h : Sts w w' p o) (h' : Sts w' w'' p o') : Sts w w'' p o' :=
  ⟨h.ch.trans h'.ch, h'.size.trans h.size, h'.same⟩
theorem sts_setCells {b : Nat} {t : TypeId} {fr : Nat × Nat} : ∀ (vs : List Value) (o : Nat) (w : World) (cs : Array Value), w.heap[b]? = some (.cells cs t fr) → o + vs.length ≤ cs.size → Sts w (w.setCells b o vs) b (.cells (cs.toList.take o ++ vs ++ cs.toList.drop (o + vs.length)).toArray t fr)
  | [], o, w, cs, h, _ => ⟨Ch.refl _ _, rfl, by simpa [World.setCells] using h⟩
  | v :: r, o, w, cs, h, hl => by
    have h1 := Sts.of_cell (w' := w.setCell ⟨b, o, none⟩ v) (i := o) (v := v) rfl h
    have hl' : o + (r.length + 1) ≤ cs.size := hl
    have h2 := sts_setCells r (o + 1) _ (cs.setIfInBounds o v) h1.same (by simp; omega)
    have h3 := h1.trans h2
    have e : (cs.setIfInBounds o v).toList.take (o + 1) ++ r ++ (cs.setIfInBounds o v).toList.drop (o + 1 + r.length) = cs.toList.take o ++ (v :: r) ++ cs.toList.drop (o + (v :: r).length) := by
      rw [Array.toList_setIfInBounds, List.take_add_one, List.take_set_of_le (by omega), List.drop_set_of_lt (by omega)]
      simp [List.getElem?_set, show o < cs.size by omega, show o + 1 + r.length = o + (r.length + 1) by omega]
    rw [e] at h3
    exact h3
def insRen : Ren := ⟨fun | 17 => 105 | 22 => 43 | 29 => 59 | 30 => 60 | 36 => 81 | x => x, fun | 24 => 30 | x => x, fun x => x⟩
theorem insLays : Lays2.n22 Tryz.prog insRen where
  mixed := mixed
  f17 := by kernel_rfl
  f22 := by kernel_rfl
  f29 := by kernel_rfl
  f30 := by kernel_rfl
  f36 := by kernel_rfl
  t0 := Tryz.underlying0
  a0 := Tryz.isAgg0
  z0 := Tryz.sizeOf0
  v0 := Tryz.zeroValue0
  t3 := Tryz.underlying3
  a3 := Tryz.isAgg3
  z3 := Tryz.sizeOf3
  v3 := Tryz.zeroValue3
  t4 := Tryz.underlying4
  a4 := Tryz.isAgg4
  z4 := Tryz.sizeOf4
  v4 := Tryz.zeroValue4
  t9 := Tryz.underlying9
  a9 := Tryz.isAgg9
  z9 := Tryz.sizeOf9
  v9 := Tryz.zeroValue9
  t24 := Tryz.underlying30
  a24 := Tryz.isAgg30
  z24 := Tryz.sizeOf30
  v24 := Tryz.zeroValue30
  i9 := by kernel_rfl
theorem grownCap_bd {w : World} {n old : Nat} {e : TypeId} (h : n ≤ maxLen) : n ≤ grownCap w n old e ∧ grownCap w n old e ≤ maxLen := ⟨grownCap_ge w n old e, grownCap_le_maxLen w n old e h⟩
/-- slices.Insert of one text ahead of the others. -/
theorem insert_front (r rx p : Nat) (A : Option Addr) (l c : Nat) (cs : List Value) (x : Value) (w : World) (hown : Ow w r 9 1 A l c cs) (hx : Ow w rx 9 1 (some ⟨p, 0, none⟩) 1 1 [x]) (hne : r ≠ p + 1) (h1 : ∀ v ∈ cs, v.oneCell' = true) (hx1 : x.oneCell' = true) (hl : l ≤ 1000000000) :
    Calls Tryz.prog 43 #[.slice A l c, .int .i64 0, .slice (some ⟨p, 0, none⟩) 1 1] w (Ret fun v w' => ∃ r' A' c', v = .slice A' (l + 1) c' ∧ Ow w' r' 9 1 A' (l + 1) c' (x :: cs) ∧ Ch (At r) w w' ∧ (r' = r ∨ w.heap.size < r')) := by
  have hcl : cs.length = l := by have := hown.len; omega
  have hvs : ∀ j v, [x][j]? = some v → w.cell? ⟨p, 0 + j, none⟩ = some v := fun j v hj => by
    have := hx.sl.cells ⟨p, 0, none⟩ rfl j v hj
    rw [Addr.add_lit] at this
    exact this
  have h1v : ∀ v ∈ [x], v.oneCell' = true := fun v hv => by simp at hv; subst hv; exact hx1
  have hm : l + 1 ≤ maxLen := by simp only [maxLen]; omega
  obtain ⟨gx, curx, ex, erx, hgx, _, _, hsx, htx⟩ : ∃ g cur, (some ⟨p, 0, none⟩ : Option Addr) = some ⟨g, 0, none⟩ ∧ rx = g + 1 ∧ w.heap[g]? = some (.cells cur 9 (0, 0)) ∧ 1 ≤ 1 ∧ 1 ≤ maxLen ∧ cur.size = 1 * 1 ∧ cur.toList.take (1 * 1) = [x] := by
    rcases hx.2 with ⟨h, _⟩ | h
    · cases h
    · exact h
  have hpx : gx = p := by injection ex with e; injection e with e _ _; exact e.symm
  subst hpx
  have hfx : ∀ i, w.frozen? ⟨gx, i, none⟩ = false := fun i => by simp [World.frozen?, hgx]
  rcases hown.2 with ⟨rfl, rfl, rfl, rfl⟩ | ⟨g, cur, rfl, rfl, hg, hlc, hcm, hcs, ht⟩
  · have hc0 : cs = [] := List.eq_nil_of_length_eq_zero hcl
    subst hc0
    refine (Any2.slices_Insert_string_end_grow insLays none 0 0 gx 0 1 1 [] [x] w (by omega) (by omega) (by omega) (by omega) rfl rfl (fun _ => rfl) (fun a h => by cases h) hvs h1v).mono ?_
    rintro e w' ⟨rfl, rfl⟩
    have hgr := grownCap_bd (w := w) (n := 0 + 1) (old := 0) (e := 9) (by simpa using hm)
    refine ⟨_, rfl, w.heap.size + 1, _, _, rfl, ⟨by simp, .inr ⟨w.heap.size, _, rfl, rfl, heap_alloc_new w.drew _, hgr.1, hgr.2, ?_, ?_⟩⟩, ⟨rfl, rfl, rfl, by simp, fun q y _ hy => (heap_alloc_old w.drew _ (blk_lt hy)).trans hy⟩, .inr (by omega)⟩
    · simp only [Array.size_append, List.size_toArray, size_zeroCells, insRen]
      simp [Value.cells] at hgr ⊢
      omega
    · simp
  · have hcells : ∀ j v, cs[j]? = some v → w.cell? ⟨g, 0 + j, none⟩ = some v := fun j v hj => by
      have := hown.sl.cells ⟨g, 0, none⟩ rfl j v hj
      rw [Addr.add_lit] at this
      exact this
    have hfz : ∀ i, w.frozen? ⟨g, i, none⟩ = false := fun i => by simp [World.frozen?, hg]
    have hthere : ∀ i, i < c → (w.cell? ⟨g, i, none⟩).isSome = true := fun i hi => by simp [World.cell?, hg, hcs]; omega
    have hc63 : c ≤ 9223372036854775807 := by simp only [maxLen] at hcm; omega
    have hgp : g ≠ gx := by omega
    have hcur : cur.toList = cs ++ cur.toList.drop l := by rw [← ht]; simp
    by_cases hl0 : l = 0
    · subst hl0
      have hc0 : cs = [] := List.eq_nil_of_length_eq_zero hcl
      subst hc0
      by_cases hroom : 1 ≤ c
      · refine (Any2.slices_Insert_string_end_room insLays g 0 0 c gx 0 1 1 [x] w (by omega) (by omega) hc63 rfl (fun j hj => hthere _ (by omega)) (fun j hj => hfz _) hvs h1v).mono ?_
        rintro e w' ⟨rfl, rfl⟩
        have hs := sts_setCells [x] (0 + 0) w cur hg (by simp [hcs]; omega)
        refine ⟨_, rfl, g + 1, _, _, rfl, ⟨by simp, .inr ⟨g, _, rfl, rfl, hs.same, by omega, hcm, ?_, ?_⟩⟩, hs.ch.more (fun q _ hq => by rw [hq]), .inl rfl⟩
        · simp [hcs]; omega
        · simp
      · refine (Any2.slices_Insert_string_end_grow insLays (some ⟨g, 0, none⟩) 0 c gx 0 1 1 [] [x] w (by omega) (by omega) (by omega) (by omega) rfl rfl (fun h => by cases h) (fun a h j v hj => by simp at hj) hvs h1v).mono ?_
        rintro e w' ⟨rfl, rfl⟩
        have hgr := grownCap_bd (w := w) (n := 0 + 1) (old := c) (e := 9) (by simpa using hm)
        refine ⟨_, rfl, w.heap.size + 1, _, _, rfl, ⟨by simp, .inr ⟨w.heap.size, _, rfl, rfl, heap_alloc_new w.drew _, hgr.1, hgr.2, ?_, ?_⟩⟩, ⟨rfl, rfl, rfl, by simp, fun q y _ hy => (heap_alloc_old w.drew _ (blk_lt hy)).trans hy⟩, .inr (by omega)⟩
        · simp only [Array.size_append, List.size_toArray, size_zeroCells, insRen]
          simp [Value.cells] at hgr ⊢
          omega
        · simp
    · by_cases hroom : l + 1 ≤ c
      · refine (Any2.slices_Insert_string_shift insLays g 0 l c 0 gx 0 1 1 cs [x] w (by omega) (by omega) hroom hc63 (fun e => hgp e.symm) hcl rfl hcells (fun j hj => hthere _ (by omega)) (fun j hj => hfz _) hvs h1 h1v 9 9 curx.size cur.size (by simp [World.shape?, hgx]) (by simp [World.shape?, hg]) (by omega) (hfx _) (hfx _)).mono ?_
        rintro e w' ⟨rfl, rfl⟩
        simp only [List.drop_zero, Nat.zero_add, Nat.add_zero]
        have hgd : w.drew.heap[g]? = some (.cells cur 9 (0, 0)) := hg
        have s1 := sts_setCells cs 1 w.drew cur hgd (by omega)
        have s2 := s1.trans (sts_setCells [x] 0 _ _ s1.same (by simp; omega))
        refine ⟨_, rfl, g + 1, _, _, rfl, ⟨by simp [hcl], .inr ⟨g, _, rfl, rfl, s2.same, hroom, hcm, ?_, ?_⟩⟩, (Ch.of_drew rfl).then s2.ch (fun q _ hq => by rcases hq with hq | hq; exact hq.elim; rw [hq]), .inl rfl⟩
        · simp [hcs]; omega
        · have e1 : (List.take 1 cur.toList).length = 1 := by simp [hcs]; omega
          simp only [List.take_zero, List.nil_append, List.length_cons, List.length_nil, Nat.zero_add, List.append_assoc]
          rw [List.drop_append, e1, Nat.sub_self, List.drop_of_length_le (by omega), List.nil_append, List.drop_zero]
          simp [← hcl]
      · refine (Any2.slices_Insert_string_grow insLays g 0 l c 0 gx 0 1 1 cs [x] w (by omega) (by omega) hlc (by omega) (by omega) hcl rfl hcells hvs h1 h1v).mono ?_
        rintro e w' ⟨rfl, rfl⟩
        simp only [List.drop_zero, Nat.zero_add, Nat.add_zero]
        have hgr := grownCap_bd (w := w) (n := l + 1) (old := c) (e := 9) hm
        have hal := heap_alloc_new w (.cells ((cs.take 0).toArray ++ Builtin.zeroCells (Value.string ⟨#[]⟩).cells (l + 1) ++ Builtin.zeroCells (Value.string ⟨#[]⟩).cells (grownCap w (l + 1) c 9 - (l + 1))) 9)
        have hsz : ((cs.take 0).toArray ++ Builtin.zeroCells (Value.string ⟨#[]⟩).cells (l + 1) ++ Builtin.zeroCells (Value.string ⟨#[]⟩).cells (grownCap w (l + 1) c 9 - (l + 1))).size = grownCap w (l + 1) c 9 := by
          simp only [Array.size_append, List.size_toArray, size_zeroCells, List.take_zero, List.length_nil]
          simp [Value.cells]
          omega
        generalize hcur : ((cs.take 0).toArray ++ Builtin.zeroCells (Value.string ⟨#[]⟩).cells (l + 1) ++ Builtin.zeroCells (Value.string ⟨#[]⟩).cells (grownCap w (l + 1) c 9 - (l + 1))) = cu at hal hsz
        have c0 : Ch No w (w.alloc (.cells cu 9)) := ⟨rfl, rfl, rfl, by simp, fun q y _ hy => (heap_alloc_old w _ (blk_lt hy)).trans hy⟩
        have s1 := sts_setCells [x] 0 (w.alloc (.cells cu 9)).drew cu hal (by simp; omega)
        have s2 := sts_setCells cs 1 ((w.alloc (.cells cu 9)).drew.setCells w.heap.size 0 [x]).drew _ s1.same (by simp [hcl]; omega)
        have hch : Ch No w (((w.alloc (.cells cu 9)).drew.setCells w.heap.size 0 [x]).drew.setCells w.heap.size 1 cs) := by
          refine (((c0.and (Ch.of_drew rfl)).then s1.ch (E := fun q => q = w.heap.size) (fun q _ h => h.elim False.elim id)).and (Ch.of_drew rfl)).then s2.ch (E := No) (fun q hq h => ?_)
          have : q = w.heap.size := h.elim id id
          omega
        subst hcur
        refine ⟨_, rfl, w.heap.size + 1, _, _, rfl, ⟨by simp [hcl], .inr ⟨w.heap.size, _, rfl, rfl, s2.same, hgr.1, hgr.2, ?_, ?_⟩⟩, hch.any, .inr (by omega)⟩
        · simp only [show insRen.t 9 = 9 from rfl, List.size_toArray, List.length_append, List.length_take, List.length_drop, Array.length_toList, List.length_cons, List.length_nil, hsz, hcl]
          omega
        · simp [← hcl]



end Go.Tm
namespace Go.Tm
open Go.RowKit
theorem _root_.List.cons_getElem?_drop_succ' {α : Type} {L : List α} {j : Nat} {y : α} (h : L[j]? = some y) : y :: L.drop (j + 1) = L.drop j := by
  obtain ⟨hlt, rfl⟩ := List.getElem?_eq_some_iff.1 h
  exact (List.drop_eq_getElem_cons hlt).symm
abbrev strV (x : List UInt8) : Value := .string ⟨x.toArray⟩
section
variable {P : Program} {n : Fr} {k : K} {w : World} {d : Option Tmp} {ty : TypeId} {pos : String} {aft : Array Edge} {g : Option (Nat × Bool)}
theorem Rn.nm_eql {t t' : TypeId} {x y : Operand} {a b : List UInt8} (hx : ev k x = some (strV a)) (hy : ev k y = some (strV b)) :
    Rn P n k w { dst := d, op := .binOp .eql t x y t', type := ty, pos := pos, after := aft, guard := g } (.bool (decide (a = b))) := by
  have h := Rn.str_eql (P := P) (n := n) (w := w) (d := d) (ty := ty) (pos := pos) (aft := aft) (g := g) (t := t) (t' := t') hx hy
  simp only [ByteArray.toList_eq] at h
  have e : (a == b) = decide (a = b) := by rw [Bool.eq_iff_iff]; simp
  rw [e] at h
  exact h
theorem Rn.nm_neq {t t' : TypeId} {x y : Operand} {a b : List UInt8} (hx : ev k x = some (strV a)) (hy : ev k y = some (strV b)) :
    Rn P n k w { dst := d, op := .binOp .neq t x y t', type := ty, pos := pos, after := aft, guard := g } (.bool (decide (¬ a = b))) := by
  have h := Rn.str_neq (P := P) (n := n) (w := w) (d := d) (ty := ty) (pos := pos) (aft := aft) (g := g) (t := t) (t' := t') hx hy
  simp only [ByteArray.toList_eq] at h
  have e : (!(a == b)) = decide (¬ a = b) := by rw [Bool.eq_iff_iff]; simp
  rw [e] at h
  exact h
theorem ba_beq (a b : List UInt8) : ((⟨a.toArray⟩ : ByteArray) == ⟨b.toArray⟩) = (a == b) := by
  show (a.toArray == b.toArray) = _
  rw [Bool.eq_iff_iff]; simp
theorem KeyK.str {P : Program} {kt : TypeId} (h : P.underlying kt = some .string) : KeyK P kt strV :=
  ⟨_, h, fun a b => by simp [Instr.sameNow, ba_beq], fun b n a w => by simp [Instr.checkKey, run_underlying h], fun a => by simp [Instr.sameBits, ba_beq]⟩
theorem Rn.len_nm {t : TypeId} {x : Operand} {a : List UInt8} (ht : P.underlying t = some .string) (hx : ev k x = some (strV a)) :
    Rn P n k w { dst := d, op := .call { callee := .builtin .len, args := #[x], argTypes := #[t] }, type := ty, pos := pos, after := aft, guard := g } (.int .i64 a.length) :=
  Rn.len_string ht hx
/-- s[i:]. -/
theorem Rn.sliceLo {t e : TypeId} {sz l c : Nat} {A : Option Addr} {x y : Operand} {q : IntKind} {i : Int} (ht : P.underlying t = some (.slice e)) (hz : ∀ w, (sizeOf e).run P w = .ok sz w) (hx : ev k x = some (.slice A l c)) (hy : ev k y = some (.int q i)) (h0 : 0 ≤ i) (h1 : i ≤ l) (_hc : l ≤ c) :
    Rn P n k w { dst := d, op := .slice t x (some y) none none, type := ty, pos := pos, after := aft, guard := g } (.slice (if c = i.toNat then A else A.map (·.add (i.toNat * sz))) (l - i.toNat) (c - i.toNat)) :=
  fun a ha => by simp [execOp, ha.eval hx, ha.eval hy, Instr.sliceAt, Instr.slice, run_underlying ht, Instr.sliceBounds, Instr.sliceBound, asIntOf, h0, h1, hz]
/-- s[:i]. -/
theorem Rn.sliceHi {t e : TypeId} {sz l c : Nat} {A : Option Addr} {x y : Operand} {q : IntKind} {i : Int} (ht : P.underlying t = some (.slice e)) (hz : ∀ w, (sizeOf e).run P w = .ok sz w) (hx : ev k x = some (.slice A l c)) (hy : ev k y = some (.int q i)) (h0 : 0 ≤ i) (h1 : i ≤ c) :
    Rn P n k w { dst := d, op := .slice t x none (some y) none, type := ty, pos := pos, after := aft, guard := g } (.slice A i.toNat c) :=
  fun a ha => by
    have e : (if c = 0 then A else A.map (·.add (0 * sz))) = A := by
      cases A <;> simp [Addr.add]
    simp only [Nat.zero_mul] at e
    simp [execOp, ha.eval hx, ha.eval hy, Instr.sliceAt, Instr.slice, run_underlying ht, Instr.sliceBounds, Instr.sliceBound, asIntOf, h0, h1, hz, e]
theorem Ow.open' {r : Nat} {e : TypeId} {sz : Nat} {A : Option Addr} {l c : Nat} {cs : List Value} (h : Ow w r e sz A l c cs) (hl : 0 < l) : ∃ g cur, A = some ⟨g, 0, none⟩ ∧ r = g + 1 ∧ w.heap[g]? = some (.cells cur e (0, 0)) ∧ l ≤ c ∧ c ≤ maxLen ∧ cur.size = c * sz ∧ cur.toList.take (l * sz) = cs := by
  rcases h.2 with ⟨_, h, _⟩ | h
  · omega
  · exact h
/-- A place of an owned row is written: one cell. -/
theorem Wk.putOw {t e : TypeId} {r l c i : Nat} {A : Option Addr} {cs : List Value} {x y : Operand} {v : Value} (hz : ∀ w, (sizeOf t).run P w = .ok 1 w) (hx : ev k x = some (.pointer (some ((sAddr A).add (i * 1))))) (hy : ev k y = some v) (hv : v.oneCell' = true) (hi : i < l) (hown : Ow w r e 1 A l c cs) :
    Wk P n k w { dst := none, op := .store t x y, type := ty, pos := pos, after := aft, guard := g } (fun _ w' => Ow w' r e 1 A l c (cs.set i v) ∧ Ch (At r) w w' ∧ w'.heap.size = w.heap.size) := by
  obtain ⟨g', cur, rfl, rfl, hg, hlc, hcm, hcs, ht⟩ := hown.open' (by omega)
  have hx' : ev k x = some (.pointer (some ⟨g', i, none⟩)) := by
    rw [hx]; simp [sAddr, Addr.add_lit]
  have hsz : i < cur.size := by rw [hcs]; omega
  refine (Wk.put (cs := cur) (te := e) hz hx' hy hv (oneCell_cells hv) ⟨hg⟩ (Array.getElem?_eq_getElem hsz)).mono ?_
  intro _ w' hs
  refine ⟨⟨by simp [hown.len], .inr ⟨g', _, rfl, rfl, hs.same, hlc, hcm, by simp [hcs], ?_⟩⟩, hs.ch.more (fun q _ hq => by rw [hq]), hs.size⟩
  rw [Array.toList_setIfInBounds, Nat.mul_one, List.take_set]
  rw [Nat.mul_one] at ht
  rw [ht]
/-- A row is cut off at i: what is behind it is cleared. -/
theorem Wk.clearOw {t e : TypeId} {z : Value} {by' r l c i : Nat} {A : Option Addr} {cs : List Value} {x : Operand} (ht : P.underlying t = some (.slice e)) (hi : Inf P e z 1 by') (hz1 : z.cells = #[z]) (hzo : z.oneCell' = true)
    (hx : ev k x = some (.slice (if c = i then A else A.map (·.add (i * 1))) (l - i) (c - i))) (hil : i < l) (hown : Ow w r e 1 A l c cs) :
    Wk P n k w { dst := none, op := .call { callee := .builtin .clear, args := #[x], argTypes := #[t] }, type := ty, pos := pos, after := aft, guard := g } (fun _ w' => Ow w' r e 1 A i c (cs.take i) ∧ Ch (At r) w w' ∧ w'.heap.size = w.heap.size) := by
  obtain ⟨g', cur, rfl, rfl, hg, hlc, hcm, hcs, htk⟩ := hown.open' (by omega)
  obtain ⟨inf, h1, h2, h3, h4⟩ := hi
  have hzv : (zeroValue e).run P w = .ok z w := by simp [zeroValue, typeInfo, h1, h2]
  obtain ⟨m, hm⟩ : ∃ m, l - i = m + 1 := ⟨l - i - 1, by omega⟩
  have hne : ¬ c = i := by omega
  rw [if_neg hne, hm] at hx
  have hzc : ∀ u ∈ (Builtin.zeroCells z.cells (m + 1)).toList, u = z := fun u hu => by
    simp only [Builtin.zeroCells, hz1] at hu
    simp [Nat.mod_one] at hu
    exact hu.2.symm
  have hzl : (Builtin.zeroCells z.cells (m + 1)).toList.length = m + 1 := by simp [size_zeroCells, hz1]
  generalize hZ : (Builtin.zeroCells z.cells (m + 1)).toList = Z at hzc hzl
  have hst := run_storeCells_at P g' i e Z 0 cur w hg (by omega) (fun u hu => by rw [hzc u hu]; exact hzo)
  simp only [Nat.add_zero] at hst
  have hs := Sts.of_row (w' := w.setRow g' (cur.toList.take i ++ Z ++ cur.toList.drop (i + Z.length)).toArray) rfl hg
  refine Wk.of_run fun a ha => ⟨.tuple #[], w.setRow g' (cur.toList.take i ++ Z ++ cur.toList.drop (i + Z.length)).toArray, ?_, ⟨by simp [hown.len]; omega, .inr ⟨g', _, rfl, rfl, hs.same, by omega, hcm, ?_, ?_⟩⟩, hs.ch.more (fun q _ hq => by rw [hq]), hs.size⟩
  · simp only [Option.map_some, Addr.add_lit, Nat.zero_add, Nat.mul_one] at hx
    simp [execOp, resolve, invoke, builtin, ha.eval hx, Builtin.clear_, run_underlying ht, hzv, hZ, hst]
  · simp [hzl]; omega
  · rw [Nat.mul_one] at htk ⊢
    simp only [List.append_assoc]
    rw [List.take_append_of_le_length (by simp; omega), List.take_take, Nat.min_self, ← htk, List.take_take, Nat.min_eq_left (by omega)]
end
end Go.Tm
namespace Go.Tm
open Go.RowKit Go.Proofs
theorem filter_take_succ {L : List (List UInt8)} {x y : List UInt8} {j : Nat} (h : L[j]? = some y) : (L.take (j + 1)).filter (fun n => decide (n ≠ x)) = (L.take j).filter (fun n => decide (n ≠ x)) ++ (if y = x then [] else [y]) := by
  rw [List.take_add_one, h, List.filter_append]
  congr 1
  by_cases e : y = x <;> simp [e]
def without (x : List UInt8) (L : List (List UInt8)) : List (List UInt8) := L.filter (fun n => decide (n ≠ x))
theorem without_take_succ {L : List (List UInt8)} {x y : List UInt8} {j : Nat} (h : L[j]? = some y) : without x (L.take (j + 1)) = without x (L.take j) ++ (if y = x then [] else [y]) := filter_take_succ h
theorem without_self {x : List UInt8} {L : List (List UInt8)} (h : x ∉ L) : without x L = L := by
  unfold without
  rw [List.filter_eq_self]
  intro a ha
  have : a ≠ x := fun e => h (e ▸ ha)
  simp [this]
theorem del_keep {F T : List (List UInt8)} {m y : List UInt8} {M : List (List UInt8)} : ((F ++ (m :: M) ++ (y :: T)).map strV).set F.length (strV y) = ((F ++ [y]) ++ (M ++ [y]) ++ T).map strV := by
  simp only [List.map_append, List.map_cons, List.append_assoc, List.cons_append, List.map_nil, List.nil_append]
  rw [List.set_append_right _ _ (by simp)]
  simp
set_option maxRecDepth 100000 in
theorem infstr : Inf Tryz.prog 9 (.string ⟨#[]⟩) 1 16 := ⟨Tryz.t9, Tryz.type9, rfl, rfl, rfl⟩


set_option maxRecDepth 100000 in
theorem without1 (y x : List UInt8) (p : Nat) (w : World) (b : Bk w p #[strV x] 9) :
    Calls Tryz.prog 45 #[strV y, .pointer (some ⟨p, 0, none⟩)] w (Ret (fun v w' => v = .bool (decide (y = x)) ∧ w = w')) := by
  refine calls_of_VC (args := [strV y, .pointer (some ⟨p, 0, none⟩)]) Tryz.func45 rfl Tryz.ntmps45 rfl ?_
  refine VC.seq ?_
  refine VC.region ?_
  refine VO.mv (Rn.assign rfl) rfl rfl rfl ?_
  refine VO.nil ?_
  refine VQ.then_code ?_
  refine VC.seq ?_
  refine VC.region ?_
  refine VO.mv (Rn.move rfl) rfl rfl rfl ?_
  refine VO.mv (Rn.load Tryz.isAgg9 rfl (b.cell rfl)) rfl rfl rfl ?_
  refine VO.mv (Rn.nm_eql rfl rfl) rfl rfl rfl ?_
  refine VO.mv (Rn.assign rfl) rfl rfl rfl ?_
  refine VO.nil ?_
  refine VQ.then_code ?_
  refine VC.ret ?_
  refine VQ.ret1 rfl rfl ?_
  refine Ret.mk ?_
  exact ⟨rfl, rfl⟩

set_option maxRecDepth 100000 in
theorem index_func (L : List (List UInt8)) (S : Nat → Prop) (A : Option Addr) (c p : Nat) (x : List UInt8) (w : World) (sl : SlR S w A L.length 1 (L.map strV)) (b : Bk w p #[strV x] 9) (hL : L.length ≤ 1000000000) :
    Calls Tryz.prog 61 #[.slice A L.length c, .func (.func 45) #[] #[.pointer (some ⟨p, 0, none⟩)]] w (Ret (fun v w' => (∃ i : Int, v = .int .i64 i ∧ ((i = -1 ∧ x ∉ L) ∨ (0 ≤ i ∧ L[i.toNat]? = some x ∧ x ∉ L.take i.toNat))) ∧ w = w')) := by
  refine calls_of_VC (args := [.slice A L.length c, .func (.func 45) #[] #[.pointer (some ⟨p, 0, none⟩)]]) Tryz.func61 rfl Tryz.ntmps61 rfl ?_
  refine VC.seq ?_
  refine VC.region ?_
  refine VO.mv (Rn.assign rfl) rfl rfl rfl ?_
  refine VO.nil ?_
  refine VQ.then_code ?_
  refine VC.seq ?_
  refine VC.seq ?_
  refine VC.region ?_
  refine VO.mv (Rn.move rfl) rfl rfl rfl ?_
  refine VO.mv (Rn.len Tryz.underlying30 rfl) rfl rfl rfl ?_
  refine VO.mv (Rn.move rfl) rfl rfl rfl ?_
  refine VO.nil ?_
  refine VQ.then_code ?_
  refine VC.block ?_
  refine VC.loopS (σ := Nat) (fun i => [(0, .slice A L.length c), (1, .func (.func 45) #[] #[.pointer (some ⟨p, 0, none⟩)]), (7, .int .i64 L.length), (8, .int .i64 i)]) (fun i w' => w = w' ∧ i ≤ L.length ∧ x ∉ L.take i) (fun i => L.length - i) 0 ?_ ⟨rfl, rfl, rfl, rfl, trivial⟩ ?_
  · exact ⟨rfl, Nat.zero_le _, by simp⟩
  rintro i _ ⟨rfl, i1, hn⟩
  show VC _ _ _ _ [(0, .slice A L.length c), (1, .func (.func 45) #[] #[.pointer (some ⟨p, 0, none⟩)]), (7, .int .i64 L.length), (8, .int .i64 i)] _
  refine VC.seq ?_
  refine VC.region ?_
  refine VO.mv (Rn.lss rfl rfl) rfl rfl rfl ?_
  refine VO.nil ?_
  refine VQ.then_code ?_
  refine VC.seq ?_
  refine VC.cond_if rfl (fun hc1 => ?_) (fun hc1 => ?_)
  · skip
    refine VC.skip ?_
    refine VQ.then_code ?_
    refine VC.seq ?_
    refine VC.block ?_
    refine VC.seq ?_
    refine VC.region ?_
    refine VO.mv (Rn.move rfl) rfl rfl rfl ?_
    refine VO.mv (Rn.assign rfl) rfl rfl rfl ?_
    refine VO.nil ?_
    refine VQ.then_code ?_
    refine VC.seq ?_
    obtain ⟨y, hy⟩ : ∃ y, L[i]? = some y := ⟨_, List.getElem?_eq_getElem (by omega)⟩
    refine VC.region ?_
    refine VO.mv (Rn.move rfl) rfl rfl rfl ?_
    refine VO.mv (Rn.move rfl) rfl rfl rfl ?_
    refine VO.mv (Rn.move rfl) rfl rfl rfl ?_
    refine VO.mv (Rn.indexS Tryz.underlying30 Tryz.sizeOf9 rfl rfl (sl.ne (by omega)) (by omega) (by omega)) rfl rfl rfl ?_
    refine VO.mv (Rn.load Tryz.isAgg9 rfl (sl.one (by omega) (by rw [List.getElem?_map, show L[((i : Int)).toNat]? = some y from hy]; rfl))) rfl rfl rfl ?_
    refine VO.wk (Wk.callv Tryz.call45 rfl rfl (by rfl) (without1 y x p _ b)) rfl rfl rfl ?_
    rintro _ _ ⟨rfl, rfl⟩
    refine VO.nil ?_
    refine VQ.then_code ?_
    refine VC.cond_if rfl (fun hc2 => ?_) (fun hc2 => ?_)
    · skip
      refine VC.seq ?_
      refine VC.region ?_
      refine VO.mv (Rn.move rfl) rfl rfl rfl ?_
      refine VO.mv (Rn.assign rfl) rfl rfl rfl ?_
      refine VO.nil ?_
      refine VQ.then_code ?_
      refine VC.ret ?_
      refine VQ.block_ret ?_
      refine VQ.then_ret ?_
      refine VQ.then_ret ?_
      refine VQ.block_ret ?_
      refine VQ.then_ret ?_
      refine VQ.ret1 rfl rfl ?_
      refine Ret.mk ?_
      refine ⟨⟨_, rfl, .inr ⟨by omega, ?_, hn⟩⟩, rfl⟩
      show L[i]? = some x; rw [hy, hc2]
    · skip
      refine VC.skip ?_
      refine VQ.block_normal ?_
      refine VQ.then_code ?_
      refine VC.region ?_
      refine VO.mv (Rn.add rfl rfl (by rw [IntKind.wrap_i64]; omega)) rfl rfl rfl ?_
      refine VO.mv (Rn.move rfl) rfl rfl rfl ?_
      refine VO.nil ?_
      refine VQ.round (i + 1) (by first | omega | (dsimp only; omega)) ?_ ⟨rfl, rfl, rfl, rfl, trivial⟩
      refine ⟨rfl, by omega, ?_⟩
      rw [List.take_add_one, hy]
      simp only [Option.toList_some, List.mem_append, List.mem_singleton, not_or]; exact ⟨hn, fun e => hc2 e.symm⟩
  · skip
    refine VC.exit ?_
    refine VQ.then_exit ?_
    refine VQ.then_exit ?_
    refine VQ.block_exit ?_
    refine VQ.then_code ?_
    refine VC.seq ?_
    refine VC.region ?_
    refine VO.mv (Rn.assign rfl) rfl rfl rfl ?_
    refine VO.nil ?_
    refine VQ.then_code ?_
    refine VC.ret ?_
    refine VQ.ret1 rfl rfl ?_
    refine Ret.mk ?_
    have : i = L.length := by omega
    subst this; rw [List.take_length] at hn
    exact ⟨⟨_, rfl, .inl ⟨rfl, hn⟩⟩, rfl⟩

set_option maxRecDepth 100000 in
theorem delete_func (L : List (List UInt8)) (r : Nat) (A : Option Addr) (c p : Nat) (x : List UInt8) (w : World) (row : Ow w r 9 1 A L.length c (L.map strV)) (b : Bk w p #[strV x] 9) (hp : r ≠ p + 1) (hL : L.length ≤ 1000000000) :
    Calls Tryz.prog 44 #[.slice A L.length c, .func (.func 45) #[] #[.pointer (some ⟨p, 0, none⟩)]] w (Ret (fun v w' => v = .slice A (without x L).length c ∧ Ow w' r 9 1 A (without x L).length c ((without x L).map strV) ∧ Ch (At r) w w')) := by
  have hwl : (without x L).length ≤ L.length := List.length_filter_le _ _
  have lr := row.lt; have lb := b.lt
  refine calls_of_VC (args := [.slice A L.length c, .func (.func 45) #[] #[.pointer (some ⟨p, 0, none⟩)]]) Tryz.func44 rfl Tryz.ntmps44 rfl ?_
  refine VC.seq ?_
  refine VC.region ?_
  refine VO.mv (Rn.assign rfl) rfl rfl rfl ?_
  refine VO.nil ?_
  refine VQ.then_code ?_
  refine VC.seq ?_
  refine VC.region ?_
  refine VO.mv (Rn.move rfl) rfl rfl rfl ?_
  refine VO.mv (Rn.move rfl) rfl rfl rfl ?_
  refine VO.wk (Wk.call Tryz.call61 rfl (index_func L _ _ _ _ x _ row.sl b (by omega))) rfl rfl rfl ?_
  rintro _ _ ⟨⟨ix, rfl, hix⟩, rfl⟩
  refine VO.mv (Rn.assign rfl) rfl rfl rfl ?_
  refine VO.nil ?_
  refine VQ.then_code ?_
  refine VC.seq ?_
  refine VC.seq ?_
  refine VC.region ?_
  refine VO.mv (Rn.move rfl) rfl rfl rfl ?_
  refine VO.mv (Rn.eql rfl rfl) rfl rfl rfl ?_
  refine VO.nil ?_
  refine VQ.then_code ?_
  refine VC.cond_if rfl (fun hc1 => ?_) (fun hc1 => ?_)
  · skip
    have hnx : x ∉ L := by rcases hix with h | h; exact h.2; omega
    rw [without_self hnx]
    refine VC.seq ?_
    refine VC.region ?_
    refine VO.mv (Rn.move rfl) rfl rfl rfl ?_
    refine VO.mv (Rn.assign rfl) rfl rfl rfl ?_
    refine VO.nil ?_
    refine VQ.then_code ?_
    refine VC.ret ?_
    refine VQ.then_ret ?_
    refine VQ.ret1 rfl rfl ?_
    refine Ret.mk ?_
    exact ⟨rfl, row, (Ch.refl (At r) w)⟩
  · skip
    have hf0 : 0 ≤ ix ∧ L[ix.toNat]? = some x ∧ x ∉ L.take ix.toNat := by rcases hix with h | h; (exact absurd h.1 hc1); exact h
    have hlt : ix.toNat < L.length := (List.getElem?_eq_some_iff.1 hf0.2.1).1
    obtain ⟨m, rfl⟩ := Int.eq_ofNat_of_zero_le hf0.1
    rw [Int.toNat_natCast] at hf0 hlt
    have hlc : L.length ≤ c := by obtain ⟨_, _, _, _, _, h, _⟩ := row.open' (by omega); exact h
    have hw0 : without x (L.take (m + 1)) = L.take m := by rw [without_take_succ hf0.2.1, if_pos rfl, List.append_nil, without_self hf0.2.2]
    have hlm : (L.take m).length = m := by simp; omega
    have hdr : L.take m ++ [x] ++ L.drop (m + 1) = L := by rw [List.append_assoc, List.singleton_append, List.cons_getElem?_drop_succ' hf0.2.1, List.take_append_drop]
    refine VC.skip ?_
    refine VQ.then_code ?_
    refine VC.seq ?_
    refine VC.seq ?_
    refine VC.region ?_
    refine VO.mv (Rn.move rfl) rfl rfl rfl ?_
    refine VO.mv (Rn.add rfl rfl (by rw [IntKind.wrap_i64]; omega)) rfl rfl rfl ?_
    refine VO.mv (Rn.assign rfl) rfl rfl rfl ?_
    refine VO.nil ?_
    refine VQ.then_code ?_
    refine VC.block ?_
    refine VC.loopS (σ := Nat × Nat × List (List UInt8)) (fun (i, j, mid) => [(0, .slice A L.length c), (1, .func (.func 45) #[] #[.pointer (some ⟨p, 0, none⟩)]), (5, .int .i64 i), (6, .int .i64 j)]) (fun (i, j, mid) w' => j ≤ L.length ∧ 0 < mid.length ∧ (without x (L.take j)).length = i ∧ i + mid.length = j ∧ Ow w' r 9 1 A L.length c ((without x (L.take j) ++ mid ++ L.drop j).map strV) ∧ Bk w' p #[strV x] 9 ∧ Ch (At r) w w') (fun (i, j, mid) => L.length - j) (m, m + 1, [x]) ?_ ⟨rfl, rfl, rfl, rfl, trivial⟩ ?_
    · exact ⟨by omega, by simp, by rw [hw0, hlm], by simp, by rw [hw0, hdr]; exact row, b, (Ch.refl (At r) w)⟩
    rintro ⟨i, j, mid⟩ w1 ⟨hj, hm, hwi, hjm, row_1, b_1, CH_1⟩
    show VC _ _ _ _ [(0, .slice A L.length c), (1, .func (.func 45) #[] #[.pointer (some ⟨p, 0, none⟩)]), (5, .int .i64 i), (6, .int .i64 j)] _
    have lcz := CH_1.size
    refine VC.seq ?_
    refine VC.seq ?_
    refine VC.region ?_
    refine VO.mv (Rn.move rfl) rfl rfl rfl ?_
    refine VO.mv (Rn.move rfl) rfl rfl rfl ?_
    refine VO.mv (Rn.len Tryz.underlying30 rfl) rfl rfl rfl ?_
    refine VO.mv (Rn.lss rfl rfl) rfl rfl rfl ?_
    refine VO.nil ?_
    refine VQ.then_code ?_
    refine VC.cond_if rfl (fun hc2 => ?_) (fun hc2 => ?_)
    · skip
      refine VC.skip ?_
      refine VQ.then_code ?_
      refine VC.seq ?_
      refine VC.block ?_
      refine VC.seq ?_
      obtain ⟨y, hy⟩ : ∃ y, L[j]? = some y := ⟨_, List.getElem?_eq_getElem (by omega)⟩
      have hyr : (without x (L.take j) ++ mid ++ L.drop j)[j]? = some y := by rw [List.getElem?_append_right (by simp; omega)]; simp [show j - ((without x (L.take j)).length + mid.length) = 0 by omega, hy]
      refine VC.region ?_
      refine VO.mv (Rn.move rfl) rfl rfl rfl ?_
      refine VO.mv (Rn.move rfl) rfl rfl rfl ?_
      refine VO.mv (Rn.indexS Tryz.underlying30 Tryz.sizeOf9 rfl rfl (row_1.sl.ne (by omega)) (by omega) (by omega)) rfl rfl rfl ?_
      refine VO.mv (Rn.load Tryz.isAgg9 rfl (row_1.sl.one (by omega) (by rw [List.getElem?_map, show (without x (L.take j) ++ mid ++ L.drop j)[((j : Int)).toNat]? = some y from hyr]; rfl))) rfl rfl rfl ?_
      refine VO.mv (Rn.assign rfl) rfl rfl rfl ?_
      refine VO.nil ?_
      refine VQ.then_code ?_
      refine VC.seq ?_
      refine VC.region ?_
      refine VO.mv (Rn.move rfl) rfl rfl rfl ?_
      refine VO.mv (Rn.move rfl) rfl rfl rfl ?_
      refine VO.wk (Wk.callv Tryz.call45 rfl rfl (by rfl) (without1 y x p _ b_1)) rfl rfl rfl ?_
      rintro _ _ ⟨rfl, rfl⟩
      refine VO.mv (Rn.not_if rfl) rfl rfl rfl ?_
      refine VO.nil ?_
      refine VQ.then_code ?_
      refine VC.cond_if rfl (fun hc3 => ?_) (fun hc3 => ?_)
      · skip
        refine VC.seq ?_
        refine VC.region ?_
        refine VO.mv (Rn.move rfl) rfl rfl rfl ?_
        refine VO.mv (Rn.move rfl) rfl rfl rfl ?_
        refine VO.mv (Rn.move rfl) rfl rfl rfl ?_
        refine VO.mv (Rn.indexS Tryz.underlying30 Tryz.sizeOf9 rfl rfl (row_1.sl.ne (by omega)) (by omega) (by omega)) rfl rfl rfl ?_
        refine VO.wk0 (Wk.putOw Tryz.sizeOf9 rfl rfl rfl (by omega) row_1) rfl rfl ?_
        rintro _ w2 ⟨row2, c2, z2⟩
        have z2 := c2.size
        refine VO.nil ?_
        refine VQ.then_code ?_
        refine VC.region ?_
        refine VO.mv (Rn.move rfl) rfl rfl rfl ?_
        refine VO.mv (Rn.add rfl rfl (by rw [IntKind.wrap_i64]; omega)) rfl rfl rfl ?_
        refine VO.mv (Rn.assign rfl) rfl rfl rfl ?_
        refine VO.nil ?_
        refine VQ.block_normal ?_
        refine VQ.then_code ?_
        refine VC.region ?_
        refine VO.mv (Rn.move rfl) rfl rfl rfl ?_
        refine VO.mv (Rn.add rfl rfl (by rw [IntKind.wrap_i64]; omega)) rfl rfl rfl ?_
        refine VO.mv (Rn.assign rfl) rfl rfl rfl ?_
        refine VO.nil ?_
        refine VQ.round (i + 1, j + 1, mid.tail ++ [y]) (by (dsimp only; omega)) ?_ ⟨rfl, rfl, rfl, rfl, trivial⟩
        have hws := without_take_succ (x := x) hy
        rw [if_neg hc3] at hws
        obtain ⟨m0, mt, rfl⟩ : ∃ m0 mt, mid = m0 :: mt := by cases mid with | nil => simp at hm | cons a t => exact ⟨a, t, rfl⟩
        have hdj : L.drop j = y :: L.drop (j + 1) := (List.cons_getElem?_drop_succ' hy).symm
        have b_2 := b_1.to c2 (by first | exact id | omega)
        have CH_2 : Ch (At r) w w2 := CH_1.then c2 (by intro q h1 h2; rcases h2 with h2 | h2 <;> first | exact h2 | (exfalso; omega) | omega)
        refine ⟨by omega, by simp, by rw [hws]; simp [hwi], by simp at hjm ⊢; omega, ?_, b_2, CH_2⟩
        have h9 := row2
        rw [hdj, Int.toNat_natCast, ← hwi, del_keep] at h9
        rw [hws]; exact h9
      · skip
        refine VC.skip ?_
        refine VQ.block_normal ?_
        refine VQ.then_code ?_
        refine VC.region ?_
        refine VO.mv (Rn.move rfl) rfl rfl rfl ?_
        refine VO.mv (Rn.add rfl rfl (by rw [IntKind.wrap_i64]; omega)) rfl rfl rfl ?_
        refine VO.mv (Rn.assign rfl) rfl rfl rfl ?_
        refine VO.nil ?_
        refine VQ.round (i, j + 1, mid ++ [y]) (by (dsimp only; omega)) ?_ ⟨rfl, rfl, rfl, rfl, trivial⟩
        have hws := without_take_succ (x := x) hy
        have hyx : y = x := Classical.not_not.1 hc3
        rw [if_pos hyx, List.append_nil] at hws
        have hdj : L.drop j = y :: L.drop (j + 1) := (List.cons_getElem?_drop_succ' hy).symm
        refine ⟨by omega, by simp, by rw [hws]; exact hwi, by simp; omega, ?_, b_1, CH_1⟩
        have h9 := row_1
        rw [hdj] at h9
        rw [hws]; simpa [List.append_assoc] using h9
    · skip
      refine VC.exit ?_
      refine VQ.then_exit ?_
      refine VQ.then_exit ?_
      refine VQ.block_exit ?_
      refine VQ.then_code ?_
      refine VC.seq ?_
      refine VC.region ?_
      refine VO.mv (Rn.move rfl) rfl rfl rfl ?_
      refine VO.mv (Rn.move rfl) rfl rfl rfl ?_
      refine VO.mv (Rn.sliceLo Tryz.underlying30 Tryz.sizeOf9 rfl rfl (by omega) (by omega) hlc) rfl rfl rfl ?_
      refine VO.wk0 (Wk.clearOw Tryz.underlying30 infstr rfl rfl rfl (by omega) row_1) rfl rfl ?_
      rintro _ w3 ⟨row3, c3, z3⟩
      have z3 := c3.size
      refine VO.nil ?_
      refine VQ.then_code ?_
      refine VC.seq ?_
      refine VC.region ?_
      refine VO.mv (Rn.move rfl) rfl rfl rfl ?_
      refine VO.mv (Rn.move rfl) rfl rfl rfl ?_
      refine VO.mv (Rn.sliceHi Tryz.underlying30 Tryz.sizeOf9 rfl rfl (by omega) (by omega)) rfl rfl rfl ?_
      refine VO.mv (Rn.assign rfl) rfl rfl rfl ?_
      refine VO.nil ?_
      refine VQ.then_code ?_
      refine VC.ret ?_
      refine VQ.ret1 rfl rfl ?_
      refine Ret.mk ?_
      have hwe : without x L = without x (L.take j) := by rw [List.take_of_length_le (by omega)]
      have hil : i = (without x L).length := by rw [hwe]; exact hwi.symm
      subst hil
      have CH_3 : Ch (At r) w w3 := CH_1.then c3 (by intro q h1 h2; rcases h2 with h2 | h2 <;> first | exact h2 | (exfalso; omega) | omega)
      refine ⟨rfl, ?_, CH_3⟩
      have h9 := row3
      rw [List.map_append, List.map_append, List.append_assoc, List.take_left' (by rw [List.length_map, hwi]; rfl), ← hwe] at h9
      exact h9

end Go.Tm
