/- Lemmas of this claim, joined by program. The law GridExact walks. What a row's laid variables give the walks, gridExact. Conditions: each lemma names its own. -/
import Derived.Test.YtdgiiehbbmfgoaaGreatDoorD17
import Derived.Test.YtdgiiehbbmfgoaaGreatDoorRows
import Derived.ProofKit
import Derived.LaidMore
import Derived.LaidSub
import Derived.OpenShut
import Derived.Stop.Joined
import Derived.Stop.LaidErr
import Derived.Lib.LaidTab
import Derived.Deep.Slices
import Derived.Deep.Fields
import Derived.Deep.OwnRows
import Derived.WideKeyArgs
import Derived.ChangeSlices
set_option linter.all false
namespace Go.Tm
open Go.RowKit Go.Proofs
set_option maxRecDepth 100000 in
theorem infI64g : Inf Tryz.prog 2 (.int .i64 0) 1 8 := ⟨Tryz.t2, Tryz.type2, rfl, rfl, rfl⟩
def fG (res : List Int) (m : Nat) : Int := (res.getD m 0).tmod 68719476737
theorem tm36 (x : Int) : -68719476736 ≤ x.tmod 68719476737 ∧ x.tmod 68719476737 ≤ 68719476736 := by
  have h1 := Int.tmod_lt_of_pos x (show (0 : Int) < 68719476737 by decide)
  have h2 := Int.tmod_lt_of_pos (-x) (show (0 : Int) < 68719476737 by decide)
  rw [Int.neg_tmod] at h2
  omega
theorem fG_bd (res : List Int) (m : Nat) : -68719476736 ≤ fG res m ∧ fG res m ≤ 68719476736 := tm36 _
theorem fG_out {res : List Int} {m : Nat} (h : res.length ≤ m) : fG res m = 0 := by
  have : res.getD m 0 = 0 := by simp [List.getD, List.getElem?_eq_none h]
  unfold fG; rw [this]; rfl
theorem rowI_skip {n j : Nat} {f : Nat → Int} (h : j < n) (h0 : f j = 0) : rowI n f j = rowI n f (j + 1) := by
  unfold rowI
  obtain ⟨m, hm⟩ : ∃ m, n - j = m + 1 := ⟨n - j - 1, by omega⟩
  rw [hm, show n - (j + 1) = m by omega, List.range_succ, List.map_append]
  simp [List.replicate_succ, h0]
theorem three_of (x : Int) : ∃ R : Nat, ([1, 2, 4] : List Int).getD (x % 3).toNat 0 = (R : Int) ∧ N3 R := by
  have h1 := Int.emod_nonneg x (show (3 : Int) ≠ 0 by decide)
  have h2 := Int.emod_lt_of_pos x (show (0 : Int) < 3 by decide)
  have h3 : (x % 3).toNat = 0 ∨ (x % 3).toNat = 1 ∨ (x % 3).toNat = 2 := by omega
  rcases h3 with h | h | h <;> rw [h]
  · exact ⟨1, rfl, ⟨by decide⟩⟩
  · exact ⟨2, rfl, ⟨by decide⟩⟩
  · exact ⟨4, rfl, ⟨by decide⟩⟩
def csG (res ims : List Int) (i : Nat) : List CB := (List.range i).map (fun m => (FloatKind.f64.nearest (fG res m), FloatKind.f64.nearest (fG ims m)))
theorem csG_succ (res ims : List Int) (i : Nat) : (csG res ims (i + 1)).map cxV = (csG res ims i).map cxV ++ [.complex .f64 (FloatKind.f64.nearest (fG res i)) (FloatKind.f64.nearest (fG ims i))] := by simp [csG, List.range_succ]
abbrev aG (C : Nat) (res : List Int) (i j : Nat) : Int := fG res (i * C + j)
theorem ab36 (C : Nat) (res ims : List Int) : B36 (aG C res) (aG C ims) := fun _ _ => ⟨fG_bd _ _, fG_bd _ _⟩
theorem aG_sm (C : Nat) (res : List Int) (i j : Nat) : Sm (aG C res i j) := by
  have h := fG_bd res (i * C + j)
  show Sm (fG res (i * C + j))
  exact sm_of (by omega) (by omega)
theorem csG_gr (R C : Nat) (res ims : List Int) {n : Nat} (hn : n = R * C) : GrU R C (aG C res) (aG C ims) (csG res ims n) := by
  refine ⟨by simp [csG, hn], fun i j hi hj => ?_⟩
  have h := idx_lt hi hj
  have e : (csG res ims n).getD (i * C + j) (0, 0) = (FloatKind.f64.nearest (fG res (i * C + j)), FloatKind.f64.nearest (fG ims (i * C + j))) := by simp [csG, List.getD, hn, h]
  have h1 := fG_bd res (i * C + j); have h2 := fG_bd ims (i * C + j)
  rw [e]
  exact whC_int (sm_of (by omega) (by omega)) (sm_of (by omega) (by omega))
theorem GrU.flat {R C : Nat} {f g : Nat → Nat → Int} {zs : List CB} (h : GrU R C f g zs) {m : Nat} (hm : m < R * C) : WhC (cx (zs.getD m (0, 0))) (f (m / C) (m % C)) (g (m / C) (m % C)) := by
  have hC : 0 < C := Nat.pos_of_ne_zero fun e => by rw [e, Nat.mul_zero] at hm; omega
  have := h.get (m / C) (m % C) (Nat.div_lt_of_lt_mul (by rw [Nat.mul_comm]; exact hm)) (Nat.mod_lt _ hC)
  rwa [show m / C * C + m % C = m by rw [Nat.mul_comm]; exact Nat.div_add_mod m C] at this
abbrev pX (R C k l : Nat) (a b : Nat → Nat → Int) (i j : Nat) : Int := (rt (tq R i k + tq C j l) (a i j) (b i j)).1
abbrev pY (R C k l : Nat) (a b : Nat → Nat → Int) (i j : Nat) : Int := (rt (tq R i k + tq C j l) (a i j) (b i j)).2
def sG (C : Nat) (p : Nat → Nat → Int) (i j : Nat) : Int := isum (fun i' => isum (p i') C) i + isum (p i) j
theorem sG_zero (C : Nat) (p : Nat → Nat → Int) : sG C p 0 0 = 0 := rfl
theorem sG_succ (C : Nat) (p : Nat → Nat → Int) (i j : Nat) : sG C p i j + p i j = sG C p i (j + 1) := by unfold sG; rw [isum]; omega
theorem sG_row (C : Nat) (p : Nat → Nat → Int) (i : Nat) : sG C p i C = sG C p (i + 1) 0 := by unfold sG; rw [isum, isum]; omega
theorem sG_end (R C k l : Nat) (a b : Nat → Nat → Int) : sG C (pX R C k l a b) R 0 = X2 R C a b k l ∧ sG C (pY R C k l a b) R 0 = Y2 R C a b k l := by
  obtain ⟨e1, e2⟩ := X2_eq R C a b k l
  rw [e1, e2]
  unfold sG
  exact ⟨Int.add_zero _, Int.add_zero _⟩
theorem sG_bd {C : Nat} (hC : C ≤ 4) {p : Nat → Nat → Int} (h : ∀ i j, (p i j).natAbs ≤ 68719476736) {i j : Nat} (hi : i ≤ 4) (hj : j ≤ 4) : (sG C p i j).natAbs ≤ 1374389534720 := by
  have h1 : ∀ i', (isum (p i') C).natAbs ≤ 274877906944 := fun i' => by
    have := isum_bdI (f := p i') (B := 68719476736) (fun j => h i' j) C
    have h2 : C * 68719476736 ≤ 4 * 68719476736 := Nat.mul_le_mul_right _ hC
    omega
  have h3 := isum_bdI (f := fun i' => isum (p i') C) (B := 274877906944) h1 i
  have h4 : i * 274877906944 ≤ 4 * 274877906944 := Nat.mul_le_mul_right _ hi
  have h5 := isum_bdI (f := p i) (B := 68719476736) (fun j => h i j) j
  have h6 : j * 68719476736 ≤ 4 * 68719476736 := Nat.mul_le_mul_right _ hj
  unfold sG; omega
theorem pX_bd (R C k l : Nat) {a b : Nat → Nat → Int} (h : B36 a b) (i j : Nat) : (pX R C k l a b i j).natAbs ≤ 68719476736 ∧ (pY R C k l a b i j).natAbs ≤ 68719476736 := by
  have := h i j
  exact rt_bd (B := 68719476736) (by omega) (by omega) _
set_option maxRecDepth 100000 in
theorem inf3w70 : Inf Tryz.prog 3 (.int .i64 0) 1 8 := ⟨Tryz.t3, Tryz.type3, rfl, rfl, rfl⟩
set_option maxRecDepth 100000 in
theorem inf53w70 : Inf Tryz.prog 53 (.complex .f64 0 0) 1 16 := ⟨Tryz.t53, Tryz.type53, rfl, rfl, rfl⟩
theorem bld52_0_1w70 {v0 v1 : Value} (h : [v0, v1].all Value.oneCell' = true) (w : World) : (Instr.build 52 ([(0, v0), (1, v1)] : List (Nat × Value)).toArray).run Tryz.prog w = .ok (.agg #[v0, v1, .slice none 0 0]) w := by
  simp only [List.all_cons, Bool.and_eq_true, List.all_nil, and_true] at h
  have hv0 := oneCell_cells (v := v0) (by simp_all)
  have hv1 := oneCell_cells (v := v1) (by simp_all)
  have h1 := fill_set (fun i => ([(0, 1), (1, 1), (2, 1)] : List (Nat × Nat))[i]?) [(0, v0), (1, v1)] [.int .i64 0, .int .i64 0, .slice none 0 0] (by simp [okF, agg_cells, hv0, hv1, Nat.beq, Nat.ble])
  simp [setF, agg_cells, hv0, hv1] at h1
  simp [Instr.build, Tryz.runUnderlying52, Tryz.zeroValue52, Tryz.sizeOf3, Tryz.sizeOf39, agg_cells, h1]
set_option maxHeartbeats 8000000 in
set_option maxRecDepth 100000 in
theorem law_GridExact (E : Addr) (SX : Nat → Prop) (r c : Int) (RA IA : Option Addr) (rl rc il ic : Nat) (res ims : List Int) (w : World) (sr : SlR SX w RA rl 1 (res.map IV)) (si : SlR SX w IA il 1 (ims.map IV)) (hX : ∀ q, SX q → q < w.heap.size) (hrl : rl ≤ 9223372036854775807) (hil : il ≤ 9223372036854775807) (er : ErrL E w) (st : StT w) (tab : TabB w.heap.size w) (hG : 12 ≤ w.heap.size) :
  Calls Tryz.prog 5 #[.int .i64 r, .int .i64 c, .slice RA rl rc, .slice IA il ic] w (Ret (fun v w' => v = .bool true ∧ Ch No w w')) := by
 have hrlen : res.length = rl := by have := sr.len; simpa using this
 have hilen : ims.length = il := by have := si.len; simpa using this
 obtain ⟨R, hRe⟩ := three_of (IntKind.u64.wrap r)
 obtain ⟨C, hCe⟩ := three_of (IntKind.u64.wrap c)
 have h3R := hRe.2; have h3C := hCe.2
 have hR := h3R.bd; have hC := h3C.bd
 obtain ⟨NN, hN⟩ : ∃ NN, NN = R * C := ⟨_, rfl⟩
 have hNb : NN ≤ 16 := by rw [hN]; exact Nat.mul_le_mul hR.2 hC.2
 have hN0 : 0 < NN := by rw [hN]; exact Nat.mul_pos hR.1 hC.1
 have hNm : (R : Int) * (C : Int) = (NN : Int) := by rw [hN, Int.natCast_mul]
 refine calls_of_VC (args := [.int .i64 r, .int .i64 c, .slice RA rl rc, .slice IA il ic]) Tryz.func5 rfl Tryz.ntmps5 rfl (VC.seq (VC.region (VO.mv (Rn.assign rfl) rfl rfl rfl (VO.nil (VQ.then_code (VC.seq (VC.seq ?_)))))))
 refine VC.region (VO.wk (Wk.call Tryz.call24 rfl (law24_fixed E _ er st ((tab).up (by omega)) (by omega))) rfl rfl rfl ?_)
 rintro _ w1 ⟨rfl, c1⟩
 have z1 := c1.size
 refine VO.mv (Rn.not rfl) rfl rfl rfl (VO.nil (VQ.then_code (VC.cond_false rfl (VC.skip (VQ.then_code (VC.cut (σ := Nat) (fun z0 => [(2, .slice RA rl rc), (3, .slice IA il ic), (9, .int .i64 R), (10, .int .i64 C)]) (fun z0 w' => w1.heap.size ≤ w'.heap.size ∧ SlR SX w' RA rl 1 (res.map IV) ∧ SlR SX w' IA il 1 (ims.map IV) ∧ StT w' ∧ TabB w.heap.size w' ∧ Ch No w w') ?_ ?_))))))
 ·
  refine VC.drawsT 15 (.mv 1 (.mv 2 (.mv 3 (.mv 4 (.mv 8 (.mv 9 (.mv 10 (.mv 11 (.two 0 (.mv 5 (.two 6 (.mv 14 (.wk 7 (.mv 12 (.wk 13 .nil)))) 7 (.mv 12 (.two 6 (.mv 14 (.wk 13 .nil)) 13 (.wk 6 (.mv 14 .nil)))))) 7 (.mv 12 (.two 0 (.mv 5 (.two 6 (.mv 14 (.wk 13 .nil)) 13 (.wk 6 (.mv 14 .nil)))) 13 (.wk 0 (.mv 5 (.wk 6 (.mv 14 .nil))))))))))))))) (fun w1 w' => Ch (No) w1 w') mixed (by kernel_rfl) (fun _ _ => Ch.refl _ _) ?_
  intro w2 D2
  have c2 := Ch.of_drew D2; have z2 := c2.size
  have sr_2 := sr.keep (c1.trans c2)
  have si_2 := si.keep (c1.trans c2)
  have er_2 := er.keep (c1.trans c2)
  refine VT.mv (fun w' hS => Rn.move rfl) rfl rfl rfl rfl (VT.mv (fun w' hS => Rn.conv Tryz.underlying3 Tryz.underlying50 rfl) rfl rfl rfl rfl ?_)
  refine VT.mv (fun w' hS => Rn.rem0 rfl rfl (by rw [IntKind.wrap_u64]; omega) (by decide)) rfl rfl rfl rfl ?_
  refine VT.mv (fun w' hS => Rn.conv_in Tryz.underlying50 Tryz.underlying3 rfl (by rw [IntKind.wrap_i64]; omega)) rfl rfl rfl rfl ?_
  refine VT.mv (fun w' hS => Rn.move rfl) rfl rfl rfl rfl (VT.mv (fun w' hS => Rn.conv Tryz.underlying3 Tryz.underlying50 rfl) rfl rfl rfl rfl ?_)
  refine VT.mv (fun w' hS => Rn.rem0 rfl rfl (by rw [IntKind.wrap_u64]; omega) (by decide)) rfl rfl rfl rfl ?_
  refine VT.mv (fun w' hS => Rn.conv_in Tryz.underlying50 Tryz.underlying3 rfl (by rw [IntKind.wrap_i64]; omega)) rfl rfl rfl rfl ?_
  refine VT.two ?_ ?_
  ·
   refine VT.wk (Wk.lit Tryz.underlying36 inf3w70 (by decide) rfl rfl (by rfl) (by decide) (by decide) (by rfl)) rfl rfl rfl rfl ?_
   rintro _ w3 ⟨p3, rfl, N3⟩
   have c3 := N3.ch
   have e3 := N3.p; have z3 := N3.size
   have l32 := SlR.of_new (sz := 1) (l := 3) N3 rfl
   have l32o := Ow.of_new (sz := 1) (l := 3) N3 rfl (by decide)
   have RD_3 := (Ch.refl (No) w2).and c3
   refine ⟨RD_3, ?_⟩
   refine VT.mv (fun w' hS => Rn.indexS Tryz.underlying36 Tryz.sizeOf3 rfl rfl ⟨_, rfl⟩ (by omega) (by omega)) rfl rfl rfl rfl (VT.two ?_ ?_)
   ·
    refine VT.late (Rn.load Tryz.isAgg3 rfl (by have h9 := ((show SlR _ _ _ _ _ ((([1, 2, 4] : List Int)).map IV) from l32)).getI (i := IntKind.u64.wrap r % 3) (by omega) (by omega); rw [hRe.1] at h9; exact h9)) rfl rfl rfl rfl RD_3 ?_
    refine VT.mv (fun w' hS => Rn.assign rfl) rfl rfl rfl rfl (VT.wk (Wk.lit Tryz.underlying36 inf3w70 (by decide) rfl rfl (by rfl) (by decide) (by decide) (by rfl)) rfl rfl rfl rfl ?_)
    rintro _ w4 ⟨p4, rfl, N4⟩
    have c4 := N4.ch
    have e4 := N4.p; have z4 := N4.size
    have l39 := SlR.of_new (sz := 1) (l := 3) N4 rfl
    have l39o := Ow.of_new (sz := 1) (l := 3) N4 rfl (by decide)
    have RD_4 := RD_3.and c4
    refine ⟨RD_4, ?_⟩
    refine VT.mv (fun w' hS => Rn.indexS Tryz.underlying36 Tryz.sizeOf3 rfl rfl ⟨_, rfl⟩ (by omega) (by omega)) rfl rfl rfl rfl ?_
    refine VT.late (Rn.load Tryz.isAgg3 rfl (by have h9 := ((show SlR _ _ _ _ _ ((([1, 2, 4] : List Int)).map IV) from l39)).getI (i := IntKind.u64.wrap c % 3) (by omega) (by omega); rw [hCe.1] at h9; exact h9)) rfl rfl rfl rfl RD_4 ?_
    refine VT.done (VO.mv (Rn.assign rfl) rfl rfl rfl (VO.nil (VQ.noPanic (VQ.cut 0 ?_ ⟨rfl, rfl, rfl, rfl, trivial⟩))))
    have sr_4 := sr_2.keep (c3.trans c4)
    have si_4 := si_2.keep (c3.trans c4)
    have st_4 := st.keep (c1.trans (c2.trans (c3.trans c4)))
    have tab_4 := tab.keep (c1.trans (c2.trans (c3.trans c4)))
    have CH_4 := (Ch.refl (No) w).and (c1.trans (c2.trans (c3.trans c4)))
    exact ⟨by omega, sr_4, si_4, st_4, tab_4, CH_4⟩
   ·
    refine VT.wk (Wk.lit Tryz.underlying36 inf3w70 (by decide) rfl rfl (by rfl) (by decide) (by decide) (by rfl)) rfl rfl rfl rfl ?_
    rintro _ w5 ⟨p5, rfl, N5⟩
    have c5 := N5.ch
    have e5 := N5.p; have z5 := N5.size
    have l39 := SlR.of_new (sz := 1) (l := 3) N5 rfl
    have l39o := Ow.of_new (sz := 1) (l := 3) N5 rfl (by decide)
    have RD_5 := RD_3.and c5
    refine ⟨RD_5, ?_⟩
    refine VT.mv (fun w' hS => Rn.indexS Tryz.underlying36 Tryz.sizeOf3 rfl rfl ⟨_, rfl⟩ (by omega) (by omega)) rfl rfl rfl rfl (VT.two ?_ ?_)
    ·
     have l32_5 := l32.keep c5
     refine VT.late (Rn.load Tryz.isAgg3 rfl (by have h9 := ((show SlR _ _ _ _ _ ((([1, 2, 4] : List Int)).map IV) from l32_5)).getI (i := IntKind.u64.wrap r % 3) (by omega) (by omega); rw [hRe.1] at h9; exact h9)) rfl rfl rfl rfl RD_5 ?_
     refine VT.mv (fun w' hS => Rn.assign rfl) rfl rfl rfl rfl ?_
     refine VT.late (Rn.load Tryz.isAgg3 rfl (by have h9 := ((show SlR _ _ _ _ _ ((([1, 2, 4] : List Int)).map IV) from l39)).getI (i := IntKind.u64.wrap c % 3) (by omega) (by omega); rw [hCe.1] at h9; exact h9)) rfl rfl rfl rfl RD_5 ?_
     refine VT.done (VO.mv (Rn.assign rfl) rfl rfl rfl (VO.nil (VQ.noPanic (VQ.cut 0 ?_ ⟨rfl, rfl, rfl, rfl, trivial⟩))))
     have sr_5 := sr_2.keep (c3.trans c5)
     have si_5 := si_2.keep (c3.trans c5)
     have st_5 := st.keep (c1.trans (c2.trans (c3.trans c5)))
     have tab_5 := tab.keep (c1.trans (c2.trans (c3.trans c5)))
     have CH_5 := (Ch.refl (No) w).and (c1.trans (c2.trans (c3.trans c5)))
     exact ⟨by omega, sr_5, si_5, st_5, tab_5, CH_5⟩
    ·
     refine VT.late (Rn.load Tryz.isAgg3 rfl (by have h9 := ((show SlR _ _ _ _ _ ((([1, 2, 4] : List Int)).map IV) from l39)).getI (i := IntKind.u64.wrap c % 3) (by omega) (by omega); rw [hCe.1] at h9; exact h9)) rfl rfl rfl rfl RD_5 ?_
     have l32_5 := l32.keep c5
     refine VT.late (Rn.load Tryz.isAgg3 rfl (by have h9 := ((show SlR _ _ _ _ _ ((([1, 2, 4] : List Int)).map IV) from l32_5)).getI (i := IntKind.u64.wrap r % 3) (by omega) (by omega); rw [hRe.1] at h9; exact h9)) rfl rfl rfl rfl RD_5 ?_
     refine VT.mv (fun w' hS => Rn.assign rfl) rfl rfl rfl rfl (VT.done (VO.mv (Rn.assign rfl) rfl rfl rfl (VO.nil (VQ.noPanic (VQ.cut 0 ?_ ⟨rfl, rfl, rfl, rfl, trivial⟩)))))
     have sr_5 := sr_2.keep (c3.trans c5)
     have si_5 := si_2.keep (c3.trans c5)
     have st_5 := st.keep (c1.trans (c2.trans (c3.trans c5)))
     have tab_5 := tab.keep (c1.trans (c2.trans (c3.trans c5)))
     have CH_5 := (Ch.refl (No) w).and (c1.trans (c2.trans (c3.trans c5)))
     exact ⟨by omega, sr_5, si_5, st_5, tab_5, CH_5⟩
  ·
   refine VT.wk (Wk.lit Tryz.underlying36 inf3w70 (by decide) rfl rfl (by rfl) (by decide) (by decide) (by rfl)) rfl rfl rfl rfl ?_
   rintro _ w6 ⟨p6, rfl, N6⟩
   have c6 := N6.ch
   have e6 := N6.p; have z6 := N6.size
   have l39 := SlR.of_new (sz := 1) (l := 3) N6 rfl
   have l39o := Ow.of_new (sz := 1) (l := 3) N6 rfl (by decide)
   have RD_6 := (Ch.refl (No) w2).and c6
   refine ⟨RD_6, ?_⟩
   refine VT.mv (fun w' hS => Rn.indexS Tryz.underlying36 Tryz.sizeOf3 rfl rfl ⟨_, rfl⟩ (by omega) (by omega)) rfl rfl rfl rfl (VT.two ?_ ?_)
   ·
    refine VT.wk (Wk.lit Tryz.underlying36 inf3w70 (by decide) rfl rfl (by rfl) (by decide) (by decide) (by rfl)) rfl rfl rfl rfl ?_
    rintro _ w7 ⟨p7, rfl, N7⟩
    have c7 := N7.ch
    have e7 := N7.p; have z7 := N7.size
    have l32 := SlR.of_new (sz := 1) (l := 3) N7 rfl
    have l32o := Ow.of_new (sz := 1) (l := 3) N7 rfl (by decide)
    have RD_7 := RD_6.and c7
    refine ⟨RD_7, ?_⟩
    refine VT.mv (fun w' hS => Rn.indexS Tryz.underlying36 Tryz.sizeOf3 rfl rfl ⟨_, rfl⟩ (by omega) (by omega)) rfl rfl rfl rfl (VT.two ?_ ?_)
    ·
     refine VT.late (Rn.load Tryz.isAgg3 rfl (by have h9 := ((show SlR _ _ _ _ _ ((([1, 2, 4] : List Int)).map IV) from l32)).getI (i := IntKind.u64.wrap r % 3) (by omega) (by omega); rw [hRe.1] at h9; exact h9)) rfl rfl rfl rfl RD_7 ?_
     refine VT.mv (fun w' hS => Rn.assign rfl) rfl rfl rfl rfl ?_
     have l39_7 := l39.keep c7
     refine VT.late (Rn.load Tryz.isAgg3 rfl (by have h9 := ((show SlR _ _ _ _ _ ((([1, 2, 4] : List Int)).map IV) from l39_7)).getI (i := IntKind.u64.wrap c % 3) (by omega) (by omega); rw [hCe.1] at h9; exact h9)) rfl rfl rfl rfl RD_7 ?_
     refine VT.done (VO.mv (Rn.assign rfl) rfl rfl rfl (VO.nil (VQ.noPanic (VQ.cut 0 ?_ ⟨rfl, rfl, rfl, rfl, trivial⟩))))
     have sr_7 := sr_2.keep (c6.trans c7)
     have si_7 := si_2.keep (c6.trans c7)
     have st_7 := st.keep (c1.trans (c2.trans (c6.trans c7)))
     have tab_7 := tab.keep (c1.trans (c2.trans (c6.trans c7)))
     have CH_7 := (Ch.refl (No) w).and (c1.trans (c2.trans (c6.trans c7)))
     exact ⟨by omega, sr_7, si_7, st_7, tab_7, CH_7⟩
    ·
     have l39_7 := l39.keep c7
     refine VT.late (Rn.load Tryz.isAgg3 rfl (by have h9 := ((show SlR _ _ _ _ _ ((([1, 2, 4] : List Int)).map IV) from l39_7)).getI (i := IntKind.u64.wrap c % 3) (by omega) (by omega); rw [hCe.1] at h9; exact h9)) rfl rfl rfl rfl RD_7 ?_
     refine VT.late (Rn.load Tryz.isAgg3 rfl (by have h9 := ((show SlR _ _ _ _ _ ((([1, 2, 4] : List Int)).map IV) from l32)).getI (i := IntKind.u64.wrap r % 3) (by omega) (by omega); rw [hRe.1] at h9; exact h9)) rfl rfl rfl rfl RD_7 ?_
     refine VT.mv (fun w' hS => Rn.assign rfl) rfl rfl rfl rfl (VT.done (VO.mv (Rn.assign rfl) rfl rfl rfl (VO.nil (VQ.noPanic (VQ.cut 0 ?_ ⟨rfl, rfl, rfl, rfl, trivial⟩)))))
     have sr_7 := sr_2.keep (c6.trans c7)
     have si_7 := si_2.keep (c6.trans c7)
     have st_7 := st.keep (c1.trans (c2.trans (c6.trans c7)))
     have tab_7 := tab.keep (c1.trans (c2.trans (c6.trans c7)))
     have CH_7 := (Ch.refl (No) w).and (c1.trans (c2.trans (c6.trans c7)))
     exact ⟨by omega, sr_7, si_7, st_7, tab_7, CH_7⟩
   ·
    refine VT.late (Rn.load Tryz.isAgg3 rfl (by have h9 := ((show SlR _ _ _ _ _ ((([1, 2, 4] : List Int)).map IV) from l39)).getI (i := IntKind.u64.wrap c % 3) (by omega) (by omega); rw [hCe.1] at h9; exact h9)) rfl rfl rfl rfl RD_6 ?_
    refine VT.wk (Wk.lit Tryz.underlying36 inf3w70 (by decide) rfl rfl (by rfl) (by decide) (by decide) (by rfl)) rfl rfl rfl rfl ?_
    rintro _ w8 ⟨p8, rfl, N8⟩
    have c8 := N8.ch
    have e8 := N8.p; have z8 := N8.size
    have l32 := SlR.of_new (sz := 1) (l := 3) N8 rfl
    have l32o := Ow.of_new (sz := 1) (l := 3) N8 rfl (by decide)
    have RD_8 := RD_6.and c8
    refine ⟨RD_8, ?_⟩
    refine VT.mv (fun w' hS => Rn.indexS Tryz.underlying36 Tryz.sizeOf3 rfl rfl ⟨_, rfl⟩ (by omega) (by omega)) rfl rfl rfl rfl ?_
    refine VT.late (Rn.load Tryz.isAgg3 rfl (by have h9 := ((show SlR _ _ _ _ _ ((([1, 2, 4] : List Int)).map IV) from l32)).getI (i := IntKind.u64.wrap r % 3) (by omega) (by omega); rw [hRe.1] at h9; exact h9)) rfl rfl rfl rfl RD_8 ?_
    refine VT.mv (fun w' hS => Rn.assign rfl) rfl rfl rfl rfl (VT.done (VO.mv (Rn.assign rfl) rfl rfl rfl (VO.nil (VQ.noPanic (VQ.cut 0 ?_ ⟨rfl, rfl, rfl, rfl, trivial⟩)))))
    have sr_8 := sr_2.keep (c6.trans c8)
    have si_8 := si_2.keep (c6.trans c8)
    have st_8 := st.keep (c1.trans (c2.trans (c6.trans c8)))
    have tab_8 := tab.keep (c1.trans (c2.trans (c6.trans c8)))
    have CH_8 := (Ch.refl (No) w).and (c1.trans (c2.trans (c6.trans c8)))
    exact ⟨by omega, sr_8, si_8, st_8, tab_8, CH_8⟩
 rintro z0 w9 ⟨hsz3, sr_9, si_9, st_9, tab_9, CH_9⟩
 show VC _ _ _ _ [(2, .slice RA rl rc), (3, .slice IA il ic), (9, .int .i64 R), (10, .int .i64 C)] _
 refine VC.seq (VC.region (VO.mv (Rn.move rfl) rfl rfl rfl (VO.mv (Rn.move rfl) rfl rfl rfl ?_)))
 refine VO.mv (Rn.mul rfl rfl (by rw [IntKind.wrap_i64]; omega)) rfl rfl rfl ?_
 refine VO.mv (Rn.assign rfl) rfl rfl rfl (VO.nil (VQ.then_code (VC.cut (σ := Nat × Nat) (fun (pa, pb) => [(2, .slice RA rl rc), (3, .slice IA il ic), (9, .int .i64 R), (10, .int .i64 C), (11, .int .i64 NN), (12, .slice (some ⟨pa, 0, none⟩) NN NN), (13, .slice (some ⟨pb, 0, none⟩) NN NN)]) (fun (pa, pb) w' => (w9.heap.size ≤ pa ∧ w9.heap.size ≤ pb ∧ ¬ pa = pb) ∧ w9.heap.size ≤ w'.heap.size ∧ IR 2 w' (pa + 1) (some ⟨pa, 0, none⟩) NN NN (rowI NN (fG res) 0) ∧ IR 2 w' (pb + 1) (some ⟨pb, 0, none⟩) NN NN (rowI NN (fG ims) 0) ∧ SlR SX w' RA rl 1 (res.map IV) ∧ SlR SX w' IA il 1 (ims.map IV) ∧ StT w' ∧ TabB w.heap.size w' ∧ Ch No w w') ?_ ?_)))
 ·
  rw [hNm]
  refine VC.drawsT 5 (.mv 0 (.mv 2 (.two 1 (.mv 4 (.wk 3 .nil)) 3 (.wk 1 (.mv 4 .nil))))) (fun w1 w' => Ch (No) w1 w') mixed (by kernel_rfl) (fun _ _ => Ch.refl _ _) ?_
  intro w10 D10
  have c10 := Ch.of_drew D10; have z10 := c10.size
  refine VT.mv (fun w' hS => Rn.move rfl) rfl rfl rfl rfl (VT.mv (fun w' hS => Rn.move rfl) rfl rfl rfl rfl (VT.two ?_ ?_))
  ·
   refine VT.wk (Wk.mkI Tryz.underlying49 infI64g rfl rfl (by omega) (by omega) (by omega) (fG res)) rfl rfl rfl rfl ?_
   rintro _ w11 ⟨p11, rfl, ra11, c11, e11, yy11⟩
   have z11 := c11.size
   have RD_11 := (Ch.refl (No) w10).and c11
   refine ⟨RD_11, ?_⟩
   refine VT.mv (fun w' hS => Rn.assign rfl) rfl rfl rfl rfl (VT.wk (Wk.mkI Tryz.underlying49 infI64g rfl rfl (by omega) (by omega) (by omega) (fG ims)) rfl rfl rfl rfl ?_)
   rintro _ w12 ⟨p12, rfl, rb12, c12, e12, yy12⟩
   have z12 := c12.size
   have RD_12 := RD_11.and c12
   refine ⟨RD_12, ?_⟩
   refine VT.done (VO.mv (Rn.assign rfl) rfl rfl rfl (VO.nil (VQ.noPanic (VQ.cut (p11, p12) ?_ ⟨rfl, rfl, rfl, rfl, rfl, rfl, rfl, trivial⟩))))
   have ra_12 := ra11.keep c12
   have sr_12 := sr_9.keep (c10.trans (c11.trans c12))
   have si_12 := si_9.keep (c10.trans (c11.trans c12))
   have st_12 := st_9.keep (c10.trans (c11.trans c12))
   have tab_12 := tab_9.keep (c10.trans (c11.trans c12))
   have CH_12 := CH_9.and (c10.trans (c11.trans c12))
   exact ⟨⟨by omega, by omega, by omega⟩, by omega, ra_12, rb12, sr_12, si_12, st_12, tab_12, CH_12⟩
  ·
   refine VT.wk (Wk.mkI Tryz.underlying49 infI64g rfl rfl (by omega) (by omega) (by omega) (fG ims)) rfl rfl rfl rfl ?_
   rintro _ w13 ⟨p13, rfl, rb13, c13, e13, yy13⟩
   have z13 := c13.size
   have RD_13 := (Ch.refl (No) w10).and c13
   refine ⟨RD_13, ?_⟩
   refine VT.wk (Wk.mkI Tryz.underlying49 infI64g rfl rfl (by omega) (by omega) (by omega) (fG res)) rfl rfl rfl rfl ?_
   rintro _ w14 ⟨p14, rfl, ra14, c14, e14, yy14⟩
   have z14 := c14.size
   have RD_14 := RD_13.and c14
   refine ⟨RD_14, ?_⟩
   refine VT.mv (fun w' hS => Rn.assign rfl) rfl rfl rfl rfl (VT.done (VO.mv (Rn.assign rfl) rfl rfl rfl (VO.nil (VQ.noPanic (VQ.cut (p14, p13) ?_ ⟨rfl, rfl, rfl, rfl, rfl, rfl, rfl, trivial⟩)))))
   have rb_14 := rb13.keep c14
   have sr_14 := sr_9.keep (c10.trans (c13.trans c14))
   have si_14 := si_9.keep (c10.trans (c13.trans c14))
   have st_14 := st_9.keep (c10.trans (c13.trans c14))
   have tab_14 := tab_9.keep (c10.trans (c13.trans c14))
   have CH_14 := CH_9.and (c10.trans (c13.trans c14))
   exact ⟨⟨by omega, by omega, by omega⟩, by omega, ra14, rb_14, sr_14, si_14, st_14, tab_14, CH_14⟩
 rintro ⟨pa, pb⟩ w15 ⟨⟨hpa, hpb, hpab⟩, hsz5, ra_15, rb_15, sr_15, si_15, st_15, tab_15, CH_15⟩
 show VC _ _ _ _ [(2, .slice RA rl rc), (3, .slice IA il ic), (9, .int .i64 R), (10, .int .i64 C), (11, .int .i64 NN), (12, .slice (some ⟨pa, 0, none⟩) NN NN), (13, .slice (some ⟨pb, 0, none⟩) NN NN)] _
 have yra9 := Ow.lt ra_15; have yrb9 := Ow.lt rb_15
 refine VC.seq (VC.region (VO.mv (Rn.move rfl) rfl rfl rfl (VO.mv (Rn.move rfl) rfl rfl rfl (VO.mv (Rn.build rfl (bld52_0_1w70 rfl)) rfl rfl rfl (VO.wk (Wk.alloc Tryz.zeroValue52) rfl rfl rfl ?_)))))
 rintro _ w16 ⟨p16, rfl, N16⟩
 have c16 := N16.ch
 have e16 := N16.p; have z16 := N16.size
 have b14 := Bk.new N16
 refine VO.wk0 (Wk.puts Tryz.sizeOf52 rfl rfl rfl rfl b14 (Nat.le_of_ble_eq_true rfl)) rfl rfl ?_
 intro _ w17 Z17
 have c17 := Z17.ch; have z17 := Z17.size
 have b14_17 := Bk.put Z17
 refine VO.nil (VQ.then_code (VC.seq (VC.seq (VC.region (VO.mv (Rn.assign rfl) rfl rfl rfl (VO.nil (VQ.then_code ?_)))))))
 refine VC.block ?_
 have cc_15_17 : Ch No w15 w17 := (Ch.then (E := No) c16 c17 (by intro q h1 h2; rcases h2 with h2 | h2 <;> first | exact h2 | (exfalso; omega)))
 have ra_17 := ra_15.keep cc_15_17
 have rb_17 := rb_15.keep cc_15_17
 have sr_17 := sr_15.keep cc_15_17
 have si_17 := si_15.keep cc_15_17
 have st_17 := st_15.keep cc_15_17
 have tab_17 := tab_15.keep cc_15_17
 have CH_17 := CH_15.and cc_15_17
 refine VC.loopS (σ := Nat × Nat × Option Addr × Nat) (fun (i, r1, A1, c1) => [(2, .slice RA rl rc), (3, .slice IA il ic), (9, .int .i64 R), (10, .int .i64 C), (11, .int .i64 NN), (12, .slice (some ⟨pa, 0, none⟩) NN NN), (13, .slice (some ⟨pb, 0, none⟩) NN NN), (14, .pointer (some ⟨p16, 0, none⟩)), (15, .int .i64 i)]) (fun (i, r1, A1, c1) w' => i ≤ NN ∧ (r1 = 0 ∨ w.heap.size < r1) ∧ ¬ r1 = pa + 1 ∧ ¬ r1 = pb + 1 ∧ ¬ r1 = p16 + 1 ∧ w17.heap.size ≤ w'.heap.size ∧ IR 2 w' (pa + 1) (some ⟨pa, 0, none⟩) NN NN (rowI NN (fG res) i) ∧ IR 2 w' (pb + 1) (some ⟨pb, 0, none⟩) NN NN (rowI NN (fG ims) i) ∧ CR 53 w' r1 A1 i c1 (csG res ims i) ∧ Bk w' p16 #[.int .i64 R, .int .i64 C, .slice A1 i c1] 52 ∧ SlR SX w' RA rl 1 (res.map IV) ∧ SlR SX w' IA il 1 (ims.map IV) ∧ StT w' ∧ TabB w.heap.size w' ∧ Ch (No) w w') (fun (i, r1, A1, c1) => NN - i) (0, 0, none, 0) ?_ ⟨rfl, rfl, rfl, rfl, rfl, rfl, rfl, rfl, rfl, trivial⟩ ?_
 · exact ⟨(by omega), (.inl rfl), (by omega), (by omega), (by omega), (Nat.le_refl _), ra_17, rb_17, (Ow.nil _ _ _), b14_17, sr_17, si_17, st_17, tab_17, CH_17⟩
 rintro ⟨i, r1, A1, c1⟩ w18 ⟨hile, hr1, hra, hrb, hrc, hsz18, ra_18, rb_18, gc_18, b14_18, sr_18, si_18, st_18, tab_18, CH_18⟩
 show VC _ _ _ _ [(2, .slice RA rl rc), (3, .slice IA il ic), (9, .int .i64 R), (10, .int .i64 C), (11, .int .i64 NN), (12, .slice (some ⟨pa, 0, none⟩) NN NN), (13, .slice (some ⟨pb, 0, none⟩) NN NN), (14, .pointer (some ⟨p16, 0, none⟩)), (15, .int .i64 i)] _
 have yg9 := Ow.lt gc_18
 refine VC.seq (VC.seq (VC.region (VO.mv (Rn.move rfl) rfl rfl rfl (VO.mv (Rn.move rfl) rfl rfl rfl (VO.mv (Rn.lss rfl rfl) rfl rfl rfl (VO.nil (VQ.then_code ?_)))))))
 refine VC.cond_if rfl (fun hc1 => ?_) (fun hc1 => ?_)
 ·
  refine VC.skip (VQ.then_code (VC.seq (VC.block (VC.cut (σ := Nat) (fun z1 => [(2, .slice RA rl rc), (3, .slice IA il ic), (9, .int .i64 R), (10, .int .i64 C), (11, .int .i64 NN), (12, .slice (some ⟨pa, 0, none⟩) NN NN), (13, .slice (some ⟨pb, 0, none⟩) NN NN), (14, .pointer (some ⟨p16, 0, none⟩)), (15, .int .i64 i)]) (fun z1 w' => w18.heap.size ≤ w'.heap.size ∧ IR 2 w' (pa + 1) (some ⟨pa, 0, none⟩) NN NN (rowI NN (fG res) (i + 1)) ∧ IR 2 w' (pb + 1) (some ⟨pb, 0, none⟩) NN NN (rowI NN (fG ims) i) ∧ CR 53 w' r1 A1 i c1 (csG res ims i) ∧ Bk w' p16 #[.int .i64 R, .int .i64 C, .slice A1 i c1] 52 ∧ SlR SX w' RA rl 1 (res.map IV) ∧ SlR SX w' IA il 1 (ims.map IV) ∧ StT w' ∧ TabB w.heap.size w' ∧ Ch No w w') ?_ ?_))))
  ·
   refine VC.seq ?_
   have hiN : i < NN := by omega
   refine VC.region (VO.mv (Rn.move rfl) rfl rfl rfl (VO.mv (Rn.move rfl) rfl rfl rfl (VO.mv (Rn.len Tryz.underlying49 rfl) rfl rfl rfl (VO.mv (Rn.lss rfl rfl) rfl rfl rfl (VO.nil (VQ.then_code (VC.cond_if rfl (fun hc2 => ?_) (fun hc2 => ?_))))))))
   ·
    refine VC.region (VO.mv (Rn.move rfl) rfl rfl rfl (VO.mv (Rn.move rfl) rfl rfl rfl (VO.mv (Rn.move rfl) rfl rfl rfl (VO.mv (Rn.move rfl) rfl rfl rfl (VO.mv (Rn.indexS Tryz.underlying49 Tryz.sizeOf2 rfl rfl ((sr_18).ne (by omega)) (by omega) (by omega)) rfl rfl rfl (VO.mv (Rn.load Tryz.isAgg2 rfl ((sr_18).getI (by omega) (by omega))) rfl rfl rfl (VO.mv (Rn.rem rfl rfl (by decide)) rfl rfl rfl ?_)))))))
    refine VO.mv (Rn.indexS Tryz.underlying49 Tryz.sizeOf2 rfl rfl (ra_18.sl.ne (by omega)) (by omega) (by omega)) rfl rfl rfl (VO.wk0 (Wk.putI Tryz.sizeOf2 rfl rfl ra_18 rfl rfl (by omega) (by omega)) rfl rfl ?_)
    rintro _ w19 ⟨ra19, c19, z19⟩
    have z19 := c19.size
    refine VO.nil (VQ.cut 0 ?_ ⟨rfl, rfl, rfl, rfl, rfl, rfl, rfl, rfl, rfl, trivial⟩)
    have rb_19 := rb_18.to c19 (by first | exact fun _ _ _ _ => id | (intro q h1 h2 hx h3; omega))
    have gc_19 := gc_18.to c19 (by first | exact fun _ _ _ _ => id | (intro q h1 h2 hx h3; omega))
    have b14_19 := b14_18.to c19 (by first | exact id | omega)
    have sr_19 := sr_18.to c19 (by first | exact fun _ _ _ _ => id | (intro q h1 h2 hx h3; have := hX q h2; omega))
    have si_19 := si_18.to c19 (by first | exact fun _ _ _ _ => id | (intro q h1 h2 hx h3; have := hX q h2; omega))
    have st_19 := st_18.to c19 (by first | exact fun _ _ _ _ => id | (intro q h1 h2 hx h3; omega))
    have tab_19 := tab_18.to c19 (by first | exact fun _ _ _ _ => id | (intro q h1 h2 hx h3; omega))
    have CH_19 : Ch (No) w w19 := CH_18.then c19 (by intro q h1 h2; rcases h2 with h2 | h2 <;> first | exact h2 | (exfalso; omega) | omega)
    exact ⟨by omega, ra19, rb_19, gc_19, b14_19, sr_19, si_19, st_19, tab_19, CH_19⟩
   ·
    refine VC.skip (VQ.cut 0 ?_ ⟨rfl, rfl, rfl, rfl, rfl, rfl, rfl, rfl, rfl, trivial⟩)
    have hskip : rowI NN (fG res) i = rowI NN (fG res) (i + 1) := rowI_skip hiN (fG_out (by omega))
    exact ⟨by omega, (by rw [← hskip]; exact ra_18), rb_18, gc_18, b14_18, sr_18, si_18, st_18, tab_18, CH_18⟩
  rintro z1 w20 ⟨hszi, ra_20, rb_20, gc_20, b14_20, sr_20, si_20, st_20, tab_20, CH_20⟩
  show VC _ _ _ _ [(2, .slice RA rl rc), (3, .slice IA il ic), (9, .int .i64 R), (10, .int .i64 C), (11, .int .i64 NN), (12, .slice (some ⟨pa, 0, none⟩) NN NN), (13, .slice (some ⟨pb, 0, none⟩) NN NN), (14, .pointer (some ⟨p16, 0, none⟩)), (15, .int .i64 i)] _
  refine VC.cut (σ := Nat) (fun z2 => [(2, .slice RA rl rc), (3, .slice IA il ic), (9, .int .i64 R), (10, .int .i64 C), (11, .int .i64 NN), (12, .slice (some ⟨pa, 0, none⟩) NN NN), (13, .slice (some ⟨pb, 0, none⟩) NN NN), (14, .pointer (some ⟨p16, 0, none⟩)), (15, .int .i64 i)]) (fun z2 w' => w20.heap.size ≤ w'.heap.size ∧ IR 2 w' (pa + 1) (some ⟨pa, 0, none⟩) NN NN (rowI NN (fG res) (i + 1)) ∧ IR 2 w' (pb + 1) (some ⟨pb, 0, none⟩) NN NN (rowI NN (fG ims) (i + 1)) ∧ CR 53 w' r1 A1 i c1 (csG res ims i) ∧ Bk w' p16 #[.int .i64 R, .int .i64 C, .slice A1 i c1] 52 ∧ SlR SX w' RA rl 1 (res.map IV) ∧ SlR SX w' IA il 1 (ims.map IV) ∧ StT w' ∧ TabB w.heap.size w' ∧ Ch No w w') ?_ ?_
  ·
   refine VC.seq ?_
   have hiN : i < NN := by omega
   refine VC.region (VO.mv (Rn.move rfl) rfl rfl rfl (VO.mv (Rn.move rfl) rfl rfl rfl (VO.mv (Rn.len Tryz.underlying49 rfl) rfl rfl rfl (VO.mv (Rn.lss rfl rfl) rfl rfl rfl (VO.nil (VQ.then_code (VC.cond_if rfl (fun hc3 => ?_) (fun hc3 => ?_))))))))
   ·
    refine VC.region (VO.mv (Rn.move rfl) rfl rfl rfl (VO.mv (Rn.move rfl) rfl rfl rfl (VO.mv (Rn.move rfl) rfl rfl rfl (VO.mv (Rn.move rfl) rfl rfl rfl (VO.mv (Rn.indexS Tryz.underlying49 Tryz.sizeOf2 rfl rfl ((si_20).ne (by omega)) (by omega) (by omega)) rfl rfl rfl (VO.mv (Rn.load Tryz.isAgg2 rfl ((si_20).getI (by omega) (by omega))) rfl rfl rfl (VO.mv (Rn.rem rfl rfl (by decide)) rfl rfl rfl ?_)))))))
    refine VO.mv (Rn.indexS Tryz.underlying49 Tryz.sizeOf2 rfl rfl (rb_20.sl.ne (by omega)) (by omega) (by omega)) rfl rfl rfl (VO.wk0 (Wk.putI Tryz.sizeOf2 rfl rfl rb_20 rfl rfl (by omega) (by omega)) rfl rfl ?_)
    rintro _ w21 ⟨rb21, c21, z21⟩
    have z21 := c21.size
    refine VO.nil (VQ.cut 0 ?_ ⟨rfl, rfl, rfl, rfl, rfl, rfl, rfl, rfl, rfl, trivial⟩)
    have ra_21 := ra_20.to c21 (by first | exact fun _ _ _ _ => id | (intro q h1 h2 hx h3; omega))
    have gc_21 := gc_20.to c21 (by first | exact fun _ _ _ _ => id | (intro q h1 h2 hx h3; omega))
    have b14_21 := b14_20.to c21 (by first | exact id | omega)
    have sr_21 := sr_20.to c21 (by first | exact fun _ _ _ _ => id | (intro q h1 h2 hx h3; have := hX q h2; omega))
    have si_21 := si_20.to c21 (by first | exact fun _ _ _ _ => id | (intro q h1 h2 hx h3; have := hX q h2; omega))
    have st_21 := st_20.to c21 (by first | exact fun _ _ _ _ => id | (intro q h1 h2 hx h3; omega))
    have tab_21 := tab_20.to c21 (by first | exact fun _ _ _ _ => id | (intro q h1 h2 hx h3; omega))
    have CH_21 : Ch (No) w w21 := CH_20.then c21 (by intro q h1 h2; rcases h2 with h2 | h2 <;> first | exact h2 | (exfalso; omega) | omega)
    exact ⟨by omega, ra_21, rb21, gc_21, b14_21, sr_21, si_21, st_21, tab_21, CH_21⟩
   ·
    refine VC.skip (VQ.cut 0 ?_ ⟨rfl, rfl, rfl, rfl, rfl, rfl, rfl, rfl, rfl, trivial⟩)
    have hskip : rowI NN (fG ims) i = rowI NN (fG ims) (i + 1) := rowI_skip hiN (fG_out (by omega))
    exact ⟨by omega, ra_20, (by rw [← hskip]; exact rb_20), gc_20, b14_20, sr_20, si_20, st_20, tab_20, CH_20⟩
  rintro z2 w22 ⟨hszi, ra_22, rb_22, gc_22, b14_22, sr_22, si_22, st_22, tab_22, CH_22⟩
  show VC _ _ _ _ [(2, .slice RA rl rc), (3, .slice IA il ic), (9, .int .i64 R), (10, .int .i64 C), (11, .int .i64 NN), (12, .slice (some ⟨pa, 0, none⟩) NN NN), (13, .slice (some ⟨pb, 0, none⟩) NN NN), (14, .pointer (some ⟨p16, 0, none⟩)), (15, .int .i64 i)] _
  refine VC.draws 16 [(0, true), (1, true), (2, true), (3, true), (4, true), (5, true), (6, true), (7, true), (8, true), (9, true), (10, true), (11, true), (12, true), (13, false), (14, false), (15, true)] (fun w1 w' => Ch (At r1) w1 w') mixed (by kernel_rfl) (fun _ _ => Ch.refl _ _) ?_
  intro w23 D23
  have c23 := Ch.of_drew D23; have z23 := c23.size
  have sr_23 := sr_22.keep c23
  have si_23 := si_22.keep c23
  have ra_23 := ra_22.keep c23
  have rb_23 := rb_22.keep c23
  have b14_23 := b14_22.keep c23
  have gc_23 := gc_22.keep c23
  refine VH.mv (fun w' hS => Rn.field Tryz.underlying52 rfl Tryz.sizeOf39 rfl rfl rfl) rfl rfl rfl rfl (VH.mv (fun w' hS => Rn.load Tryz.isAgg39 rfl ((b14_23.to hS (by first | exact id | omega)).cell rfl)) rfl rfl rfl rfl (VH.mv (fun w' hS => Rn.move rfl) rfl rfl rfl rfl (VH.mv (fun w' hS => Rn.move rfl) rfl rfl rfl rfl (VH.mv (fun w' hS => Rn.indexS Tryz.underlying49 Tryz.sizeOf2 rfl rfl (ra_23.sl.ne (by omega)) (by omega) (by omega)) rfl rfl rfl rfl ?_))))
  refine VH.mv (fun w' hS => Rn.load Tryz.isAgg2 rfl ((ra_23.to hS (by first | exact fun _ _ _ _ => id | (intro q h1 h2 hx h3; omega))).sl.getI (by omega) (by omega))) rfl rfl rfl rfl ?_
  refine VH.mv (fun w' hS => Rn.conv_if Tryz.underlying2 Tryz.underlying25 rfl) rfl rfl rfl rfl (VH.mv (fun w' hS => Rn.move rfl) rfl rfl rfl rfl (VH.mv (fun w' hS => Rn.move rfl) rfl rfl rfl rfl (VH.mv (fun w' hS => Rn.indexS Tryz.underlying49 Tryz.sizeOf2 rfl rfl (rb_23.sl.ne (by omega)) (by omega) (by omega)) rfl rfl rfl rfl ?_)))
  refine VH.mv (fun w' hS => Rn.load Tryz.isAgg2 rfl ((rb_23.to hS (by first | exact fun _ _ _ _ => id | (intro q h1 h2 hx h3; omega))).sl.getI (by omega) (by omega))) rfl rfl rfl rfl ?_
  refine VH.mv (fun w' hS => Rn.conv_if Tryz.underlying2 Tryz.underlying25 rfl) rfl rfl rfl rfl (VH.mv (fun w' hS => Rn.complex rfl rfl) rfl rfl rfl rfl (VH.wk (Wk.lit Tryz.underlying39 inf53w70 (by decide) rfl rfl (by rfl) (by decide) (by decide) (by rfl)) rfl rfl rfl rfl ?_))
  rintro _ w24 ⟨p24, rfl, N24⟩
  have c24 := N24.ch
  have e24 := N24.p; have z24 := N24.size
  have l98 := SlR.of_new (sz := 1) (l := 1) N24 rfl
  have l98o := Ow.of_new (sz := 1) (l := 1) N24 rfl (by decide)
  have RD_24 := (Ch.refl (At r1) w23).and c24
  refine ⟨RD_24, ?_⟩
  have gc_24 := gc_23.keep c24
  refine VH.wk (Wk.append (S := _) Tryz.underlying39 inf53w70 rfl (by decide) rfl rfl gc_24 l98 (by rfl) (fun h => by simp at h) (by omega) (by simp only [maxLen]; omega)) rfl rfl rfl rfl ?_
  rintro _ w25 ⟨r25, A25, k25, rfl, o25, c25, q25⟩
  have z25 := c25.size
  have y25 := o25.lt
  have hga := rowI_get (n := NN) (f := fG res) (show i < i + 1 by omega); have hgb := rowI_get (n := NN) (f := fG ims) (show i < i + 1 by omega)
  have RD_25 : Ch (At r1) w23 w25 := RD_24.then c25 (by intro q h1 h2; rcases h2 with h2 | h2 <;> first | exact h2 | (exfalso; omega) | omega)
  refine ⟨RD_25, ?_⟩
  refine VH.mv (fun w' hS => Rn.field Tryz.underlying52 rfl Tryz.sizeOf39 rfl rfl rfl) rfl rfl rfl rfl (VH.done ?_)
  have b14_24 := b14_23.keep c24
  have b14_25 := b14_24.to c25 (by first | exact id | omega)
  refine VO.wk0 (Wk.put Tryz.sizeOf39 rfl rfl rfl rfl b14_25 rfl) rfl rfl ?_
  intro _ w26 Z26
  have c26 := Z26.ch; have z26 := Z26.size
  have b14_26 := Bk.put Z26
  refine VO.nil (VQ.noPanic (VQ.block_normal (VQ.then_code (VC.region (VO.mv (Rn.move rfl) rfl rfl rfl ?_)))))
  refine VO.mv (Rn.add rfl rfl (by rw [IntKind.wrap_i64]; omega)) rfl rfl rfl ?_
  refine VO.mv (Rn.assign rfl) rfl rfl rfl (VO.nil ?_)
  refine VQ.round (i + 1, r25, A25, k25) (by first | omega | (dsimp only; omega)) ?_ ⟨rfl, rfl, rfl, rfl, rfl, rfl, rfl, rfl, rfl, trivial⟩
  have ra_24 := ra_23.keep c24
  have ra_25 := ra_24.to c25 (by first | exact fun _ _ _ _ => id | (intro q h1 h2 hx h3; omega))
  have ra_26 := ra_25.to c26 (by first | exact fun _ _ _ _ => id | (intro q h1 h2 hx h3; omega))
  have rb_24 := rb_23.keep c24
  have rb_25 := rb_24.to c25 (by first | exact fun _ _ _ _ => id | (intro q h1 h2 hx h3; omega))
  have rb_26 := rb_25.to c26 (by first | exact fun _ _ _ _ => id | (intro q h1 h2 hx h3; omega))
  have gc_26 := o25.to c26 (by first | exact fun _ _ _ _ => id | (intro q h1 h2 hx h3; omega))
  have sr_24 := sr_23.keep c24
  have sr_25 := sr_24.to c25 (by first | exact fun _ _ _ _ => id | (intro q h1 h2 hx h3; have := hX q h2; omega))
  have sr_26 := sr_25.to c26 (by first | exact fun _ _ _ _ => id | (intro q h1 h2 hx h3; have := hX q h2; omega))
  have si_24 := si_23.keep c24
  have si_25 := si_24.to c25 (by first | exact fun _ _ _ _ => id | (intro q h1 h2 hx h3; have := hX q h2; omega))
  have si_26 := si_25.to c26 (by first | exact fun _ _ _ _ => id | (intro q h1 h2 hx h3; have := hX q h2; omega))
  have st_24 := st_22.keep (c23.trans c24)
  have st_25 := st_24.to c25 (by first | exact fun _ _ _ _ => id | (intro q h1 h2 hx h3; omega))
  have st_26 := st_25.to c26 (by first | exact fun _ _ _ _ => id | (intro q h1 h2 hx h3; omega))
  have tab_24 := tab_22.keep (c23.trans c24)
  have tab_25 := tab_24.to c25 (by first | exact fun _ _ _ _ => id | (intro q h1 h2 hx h3; omega))
  have tab_26 := tab_25.to c26 (by first | exact fun _ _ _ _ => id | (intro q h1 h2 hx h3; omega))
  have CH_24 := CH_22.and (c23.trans c24)
  have CH_25 : Ch (No) w w25 := CH_24.then c25 (by intro q h1 h2; rcases h2 with h2 | h2 <;> first | exact h2 | (exfalso; omega) | omega)
  have CH_26 : Ch (No) w w26 := CH_25.then c26 (by intro q h1 h2; rcases h2 with h2 | h2 <;> first | exact h2 | (exfalso; omega) | omega)
  exact ⟨(by omega), (by omega), (by omega), (by omega), (by omega), (by omega), ra_26, rb_26, (by show Ow _ _ _ _ _ _ _ _; rw [csG_succ]; have h9 := gc_26; rw [show ((i : Int)).toNat = i from rfl, hga, hgb] at h9; exact h9), b14_26, sr_26, si_26, st_26, tab_26, CH_26⟩
 ·
  refine VC.exit (VQ.then_exit (VQ.then_exit (VQ.block_exit (VQ.then_code (VC.seq ?_)))))
  obtain rfl : NN = i := by omega
  refine VC.region (VO.mv (Rn.loads Tryz.isAgg52 Tryz.sizeOf52 rfl rfl (b14_18.all' rfl)) rfl rfl rfl ?_)
  refine VO.wk (Wk.call Tryz.call25 rfl (grid_Forward _ R C NN _ _ _ (aG C res) (aG C ims) _ (gc_18).sl (fun q hq => by have := Ow.lt gc_18; omega) h3R h3C hN (ab36 _ _ _) (csG_gr R C res ims hN) st_18 ((tab_18).up (by omega)) (by omega))) rfl rfl rfl ?_
  rintro _ w27 ⟨r27, A27, k27, os_fw, rfl, fw27, hg_fw, yg27, c27⟩
  have yw27 := Ow.lt fw27
  have z27 := c27.size
  refine VO.mv (Rn.move rfl) rfl rfl rfl (VO.mv (Rn.extract rfl rfl) rfl rfl rfl (VO.mv (Rn.extract rfl rfl) rfl rfl rfl (VO.wk (Wk.alloc Tryz.zeroValue52) rfl rfl rfl ?_)))
  rintro _ w28 ⟨p28, rfl, N28⟩
  have c28 := N28.ch
  have e28 := N28.p; have z28 := N28.size
  have b16 := Bk.new N28
  refine VO.wk0 (Wk.puts Tryz.sizeOf52 rfl rfl rfl rfl b16 (Nat.le_of_ble_eq_true rfl)) rfl rfl ?_
  intro _ w29 Z29
  have c29 := Z29.ch; have z29 := Z29.size
  have b16_29 := Bk.put Z29
  refine VO.mv (Rn.assign rfl) rfl rfl rfl (VO.nil (VQ.then_code (VC.seq (VC.region (VO.mv (Rn.loads Tryz.isAgg52 Tryz.sizeOf52 rfl rfl (b16_29.all' rfl)) rfl rfl rfl ?_)))))
  have cc_27_29 : Ch No w27 w29 := (Ch.then (E := No) c28 c29 (by intro q h1 h2; rcases h2 with h2 | h2 <;> first | exact h2 | (exfalso; omega)))
  have fw_29 := fw27.keep cc_27_29
  have cc_18_29 : Ch No w18 w29 := (Ch.then (E := No) (c27.and c28) c29 (by intro q h1 h2; rcases h2 with h2 | h2 <;> first | exact h2 | (exfalso; omega)))
  have st_29 := st_18.keep cc_18_29
  have tab_29 := tab_18.keep cc_18_29
  refine VO.wk (Wk.call Tryz.call26 rfl (grid_Inverse _ R C NN _ _ _ (aG C res) (aG C ims) _ (fw_29).sl (fun q hq => by have := Ow.lt fw_29; omega) h3R h3C hN (ab36 _ _ _) hg_fw st_29 ((tab_29).up (by omega)) (by omega))) rfl rfl rfl ?_
  rintro _ w30 ⟨r30, A30, k30, os_bk, rfl, bk30, hg_bk, yg30, c30⟩
  have yw30 := Ow.lt bk30
  have z30 := c30.size
  refine VO.mv (Rn.move rfl) rfl rfl rfl (VO.mv (Rn.extract rfl rfl) rfl rfl rfl (VO.mv (Rn.extract rfl rfl) rfl rfl rfl (VO.wk (Wk.alloc Tryz.zeroValue52) rfl rfl rfl ?_)))
  rintro _ w31 ⟨p31, rfl, N31⟩
  have c31 := N31.ch
  have e31 := N31.p; have z31 := N31.size
  have b18 := Bk.new N31
  refine VO.wk0 (Wk.puts Tryz.sizeOf52 rfl rfl rfl rfl b18 (Nat.le_of_ble_eq_true rfl)) rfl rfl ?_
  intro _ w32 Z32
  have c32 := Z32.ch; have z32 := Z32.size
  have b18_32 := Bk.put Z32
  refine VO.mv (Rn.assign rfl) rfl rfl rfl (VO.nil (VQ.then_code (VC.seq (VC.seq (VC.region (VO.mv (Rn.move rfl) rfl rfl rfl (VO.mv (Rn.nil_neq_nil Tryz.underlying29 rfl) rfl rfl rfl ?_)))))))
  refine VO.mv (Rn.move rfl) rfl rfl rfl (VO.mv (Rn.move rfl) rfl rfl rfl (VO.mv (Rn.nil_neq_nil Tryz.underlying29 rfl) rfl rfl rfl (VO.mv (Rn.pick_false rfl rfl) rfl rfl rfl (VO.mv (Rn.move rfl) rfl rfl rfl (VO.mv (Rn.field Tryz.underlying52 rfl Tryz.sizeOf39 rfl rfl rfl) rfl rfl rfl ?_)))))
  have cc_29_32 : Ch No w29 w32 := (Ch.then (E := No) (c30.and c31) c32 (by intro q h1 h2; rcases h2 with h2 | h2 <;> first | exact h2 | (exfalso; omega)))
  have b16_32 := b16_29.keep cc_29_32
  refine VO.mv (Rn.load Tryz.isAgg39 rfl (b16_32.cell rfl)) rfl rfl rfl (VO.mv (Rn.len Tryz.underlying39 rfl) rfl rfl rfl (VO.mv (Rn.move rfl) rfl rfl rfl (VO.mv (Rn.neqF rfl rfl rfl) rfl rfl rfl (VO.mv (Rn.pick_false rfl rfl) rfl rfl rfl (VO.mv (Rn.move rfl) rfl rfl rfl (VO.mv (Rn.field Tryz.underlying52 rfl Tryz.sizeOf39 rfl rfl rfl) rfl rfl rfl (VO.mv (Rn.load Tryz.isAgg39 rfl (b18_32.cell rfl)) rfl rfl rfl ?_)))))))
  refine VO.mv (Rn.len Tryz.underlying39 rfl) rfl rfl rfl (VO.mv (Rn.move rfl) rfl rfl rfl (VO.mv (Rn.neqF rfl rfl rfl) rfl rfl rfl (VO.mv (Rn.pick_false rfl rfl) rfl rfl rfl (VO.nil (VQ.then_code (VC.cond_false rfl (VC.skip ?_)))))))
  refine VQ.then_code (VC.seq (VC.seq (VC.region (VO.mv (Rn.assign rfl) rfl rfl rfl (VO.nil (VQ.then_code (VC.block ?_)))))))
  have cc_18_32 : Ch No w18 w32 := (Ch.then (E := No) (((Ch.then (E := No) (c27.and c28) c29 (by intro q h1 h2; rcases h2 with h2 | h2 <;> first | exact h2 | (exfalso; omega))).and c30).and c31) c32 (by intro q h1 h2; rcases h2 with h2 | h2 <;> first | exact h2 | (exfalso; omega)))
  have ra_32 := ra_18.keep cc_18_32
  have rb_32 := rb_18.keep cc_18_32
  have gc_32 := gc_18.keep cc_18_32
  have b14_32 := b14_18.keep cc_18_32
  have fw_32 := fw_29.keep cc_29_32
  have cc_30_32 : Ch No w30 w32 := (Ch.then (E := No) c31 c32 (by intro q h1 h2; rcases h2 with h2 | h2 <;> first | exact h2 | (exfalso; omega)))
  have bk_32 := bk30.keep cc_30_32
  have CH_32 := CH_18.and cc_18_32
  refine VC.loopS (σ := Nat) (fun k => [(9, .int .i64 R), (10, .int .i64 C), (12, .slice (some ⟨pa, 0, none⟩) NN NN), (13, .slice (some ⟨pb, 0, none⟩) NN NN), (14, .pointer (some ⟨p16, 0, none⟩)), (16, .pointer (some ⟨p28, 0, none⟩)), (18, .pointer (some ⟨p31, 0, none⟩)), (20, .int .i64 k)]) (fun k w' => k ≤ R ∧ w32.heap.size ≤ w'.heap.size ∧ IR 2 w' (pa + 1) (some ⟨pa, 0, none⟩) NN NN (rowI NN (fG res) NN) ∧ IR 2 w' (pb + 1) (some ⟨pb, 0, none⟩) NN NN (rowI NN (fG ims) NN) ∧ CR 53 w' r1 A1 NN c1 (csG res ims NN) ∧ Bk w' p16 #[.int .i64 R, .int .i64 C, .slice A1 NN c1] 52 ∧ CR 53 w' r27 A27 NN k27 os_fw ∧ Bk w' p28 #[.int .i64 R, .int .i64 C, .slice A27 NN k27] 52 ∧ CR 53 w' r30 A30 NN k30 os_bk ∧ Bk w' p31 #[.int .i64 R, .int .i64 C, .slice A30 NN k30] 52 ∧ Ch (No) w w') (fun k => R - k) 0 ?_ ⟨rfl, rfl, rfl, rfl, rfl, rfl, rfl, rfl, trivial⟩ ?_
  · exact ⟨(by omega), (Nat.le_refl _), ra_32, rb_32, gc_32, b14_32, fw_32, b16_32, bk_32, b18_32, CH_32⟩
  rintro k w33 ⟨hkle, hsz33, ra_33, rb_33, gc_33, b14_33, fw_33, b16_33, bk_33, b18_33, CH_33⟩
  show VC _ _ _ _ [(9, .int .i64 R), (10, .int .i64 C), (12, .slice (some ⟨pa, 0, none⟩) NN NN), (13, .slice (some ⟨pb, 0, none⟩) NN NN), (14, .pointer (some ⟨p16, 0, none⟩)), (16, .pointer (some ⟨p28, 0, none⟩)), (18, .pointer (some ⟨p31, 0, none⟩)), (20, .int .i64 k)] _
  refine VC.seq (VC.seq (VC.region (VO.mv (Rn.move rfl) rfl rfl rfl (VO.mv (Rn.move rfl) rfl rfl rfl (VO.mv (Rn.lss rfl rfl) rfl rfl rfl (VO.nil (VQ.then_code ?_)))))))
  refine VC.cond_if rfl (fun hc4 => ?_) (fun hc4 => ?_)
  ·
   refine VC.skip (VQ.then_code (VC.seq (VC.block (VC.seq (VC.region (VO.mv (Rn.assign rfl) rfl rfl rfl (VO.nil ?_)))))))
   refine VQ.then_code (VC.block (VC.loopS (σ := Nat) (fun l => [(9, .int .i64 R), (10, .int .i64 C), (12, .slice (some ⟨pa, 0, none⟩) NN NN), (13, .slice (some ⟨pb, 0, none⟩) NN NN), (14, .pointer (some ⟨p16, 0, none⟩)), (16, .pointer (some ⟨p28, 0, none⟩)), (18, .pointer (some ⟨p31, 0, none⟩)), (20, .int .i64 k), (21, .int .i64 l)]) (fun l w' => l ≤ C ∧ w33.heap.size ≤ w'.heap.size ∧ IR 2 w' (pa + 1) (some ⟨pa, 0, none⟩) NN NN (rowI NN (fG res) NN) ∧ IR 2 w' (pb + 1) (some ⟨pb, 0, none⟩) NN NN (rowI NN (fG ims) NN) ∧ CR 53 w' r1 A1 NN c1 (csG res ims NN) ∧ Bk w' p16 #[.int .i64 R, .int .i64 C, .slice A1 NN c1] 52 ∧ CR 53 w' r27 A27 NN k27 os_fw ∧ Bk w' p28 #[.int .i64 R, .int .i64 C, .slice A27 NN k27] 52 ∧ CR 53 w' r30 A30 NN k30 os_bk ∧ Bk w' p31 #[.int .i64 R, .int .i64 C, .slice A30 NN k30] 52 ∧ Ch (No) w w') (fun l => C - l) 0 ?_ ⟨rfl, rfl, rfl, rfl, rfl, rfl, rfl, rfl, rfl, trivial⟩ ?_))
   · exact ⟨(by omega), (Nat.le_refl _), ra_33, rb_33, gc_33, b14_33, fw_33, b16_33, bk_33, b18_33, CH_33⟩
   rintro l w34 ⟨hlle, hsz34, ra_34, rb_34, gc_34, b14_34, fw_34, b16_34, bk_34, b18_34, CH_34⟩
   show VC _ _ _ _ [(9, .int .i64 R), (10, .int .i64 C), (12, .slice (some ⟨pa, 0, none⟩) NN NN), (13, .slice (some ⟨pb, 0, none⟩) NN NN), (14, .pointer (some ⟨p16, 0, none⟩)), (16, .pointer (some ⟨p28, 0, none⟩)), (18, .pointer (some ⟨p31, 0, none⟩)), (20, .int .i64 k), (21, .int .i64 l)] _
   refine VC.seq (VC.seq (VC.region (VO.mv (Rn.move rfl) rfl rfl rfl (VO.mv (Rn.move rfl) rfl rfl rfl (VO.mv (Rn.lss rfl rfl) rfl rfl rfl (VO.nil (VQ.then_code ?_)))))))
   refine VC.cond_if rfl (fun hc5 => ?_) (fun hc5 => ?_)
   ·
    refine VC.skip (VQ.then_code (VC.seq (VC.block (VC.seq (VC.region (VO.mv (Rn.assign rfl) rfl rfl rfl (VO.mv (Rn.assign rfl) rfl rfl rfl ?_)))))))
    refine VO.nil (VQ.then_code (VC.seq (VC.seq (VC.region (VO.mv (Rn.assign rfl) rfl rfl rfl (VO.nil (VQ.then_code ?_)))))))
    refine VC.block (VC.loopS (σ := Nat × Int × Int) (fun (i, x, y) => [(9, .int .i64 R), (10, .int .i64 C), (12, .slice (some ⟨pa, 0, none⟩) NN NN), (13, .slice (some ⟨pb, 0, none⟩) NN NN), (14, .pointer (some ⟨p16, 0, none⟩)), (16, .pointer (some ⟨p28, 0, none⟩)), (18, .pointer (some ⟨p31, 0, none⟩)), (20, .int .i64 k), (21, .int .i64 l), (22, .int .i64 x), (23, .int .i64 y), (24, .int .i64 i)]) (fun (i, x, y) w' => i ≤ R ∧ x = sG C (pX R C k l (aG C res) (aG C ims)) i 0 ∧ y = sG C (pY R C k l (aG C res) (aG C ims)) i 0 ∧ w34.heap.size ≤ w'.heap.size ∧ IR 2 w' (pa + 1) (some ⟨pa, 0, none⟩) NN NN (rowI NN (fG res) NN) ∧ IR 2 w' (pb + 1) (some ⟨pb, 0, none⟩) NN NN (rowI NN (fG ims) NN) ∧ CR 53 w' r1 A1 NN c1 (csG res ims NN) ∧ Bk w' p16 #[.int .i64 R, .int .i64 C, .slice A1 NN c1] 52 ∧ CR 53 w' r27 A27 NN k27 os_fw ∧ Bk w' p28 #[.int .i64 R, .int .i64 C, .slice A27 NN k27] 52 ∧ CR 53 w' r30 A30 NN k30 os_bk ∧ Bk w' p31 #[.int .i64 R, .int .i64 C, .slice A30 NN k30] 52 ∧ Ch (No) w w') (fun (i, x, y) => R - i) (0, 0, 0) ?_ ⟨rfl, rfl, rfl, rfl, rfl, rfl, rfl, rfl, rfl, rfl, rfl, rfl, trivial⟩ ?_)
    · exact ⟨(by omega), (sG_zero _ _).symm, (sG_zero _ _).symm, (Nat.le_refl _), ra_34, rb_34, gc_34, b14_34, fw_34, b16_34, bk_34, b18_34, CH_34⟩
    rintro ⟨i, x, y⟩ w35 ⟨hile, hx, hy, hsz35, ra_35, rb_35, gc_35, b14_35, fw_35, b16_35, bk_35, b18_35, CH_35⟩
    show VC _ _ _ _ [(9, .int .i64 R), (10, .int .i64 C), (12, .slice (some ⟨pa, 0, none⟩) NN NN), (13, .slice (some ⟨pb, 0, none⟩) NN NN), (14, .pointer (some ⟨p16, 0, none⟩)), (16, .pointer (some ⟨p28, 0, none⟩)), (18, .pointer (some ⟨p31, 0, none⟩)), (20, .int .i64 k), (21, .int .i64 l), (22, .int .i64 x), (23, .int .i64 y), (24, .int .i64 i)] _
    refine VC.seq (VC.seq (VC.region (VO.mv (Rn.move rfl) rfl rfl rfl (VO.mv (Rn.move rfl) rfl rfl rfl (VO.mv (Rn.lss rfl rfl) rfl rfl rfl (VO.nil (VQ.then_code ?_)))))))
    refine VC.cond_if rfl (fun hc6 => ?_) (fun hc6 => ?_)
    ·
     refine VC.skip (VQ.then_code (VC.seq (VC.block (VC.seq (VC.region (VO.mv (Rn.assign rfl) rfl rfl rfl (VO.nil ?_)))))))
     refine VQ.then_code (VC.block (VC.loopS (σ := Nat × Int × Int) (fun (j, x2, y2) => [(9, .int .i64 R), (10, .int .i64 C), (12, .slice (some ⟨pa, 0, none⟩) NN NN), (13, .slice (some ⟨pb, 0, none⟩) NN NN), (14, .pointer (some ⟨p16, 0, none⟩)), (16, .pointer (some ⟨p28, 0, none⟩)), (18, .pointer (some ⟨p31, 0, none⟩)), (20, .int .i64 k), (21, .int .i64 l), (22, .int .i64 x2), (23, .int .i64 y2), (24, .int .i64 i), (25, .int .i64 j)]) (fun (j, x2, y2) w' => j ≤ C ∧ x2 = sG C (pX R C k l (aG C res) (aG C ims)) i j ∧ y2 = sG C (pY R C k l (aG C res) (aG C ims)) i j ∧ w35.heap.size ≤ w'.heap.size ∧ IR 2 w' (pa + 1) (some ⟨pa, 0, none⟩) NN NN (rowI NN (fG res) NN) ∧ IR 2 w' (pb + 1) (some ⟨pb, 0, none⟩) NN NN (rowI NN (fG ims) NN) ∧ CR 53 w' r1 A1 NN c1 (csG res ims NN) ∧ Bk w' p16 #[.int .i64 R, .int .i64 C, .slice A1 NN c1] 52 ∧ CR 53 w' r27 A27 NN k27 os_fw ∧ Bk w' p28 #[.int .i64 R, .int .i64 C, .slice A27 NN k27] 52 ∧ CR 53 w' r30 A30 NN k30 os_bk ∧ Bk w' p31 #[.int .i64 R, .int .i64 C, .slice A30 NN k30] 52 ∧ Ch (No) w w') (fun (j, x2, y2) => C - j) (0, x, y) ?_ ⟨rfl, rfl, rfl, rfl, rfl, rfl, rfl, rfl, rfl, rfl, rfl, rfl, rfl, trivial⟩ ?_))
     · exact ⟨(by omega), hx, hy, (Nat.le_refl _), ra_35, rb_35, gc_35, b14_35, fw_35, b16_35, bk_35, b18_35, CH_35⟩
     rintro ⟨j, x2, y2⟩ w36 ⟨hjle, hx2, hy2, hsz36, ra_36, rb_36, gc_36, b14_36, fw_36, b16_36, bk_36, b18_36, CH_36⟩
     show VC _ _ _ _ [(9, .int .i64 R), (10, .int .i64 C), (12, .slice (some ⟨pa, 0, none⟩) NN NN), (13, .slice (some ⟨pb, 0, none⟩) NN NN), (14, .pointer (some ⟨p16, 0, none⟩)), (16, .pointer (some ⟨p28, 0, none⟩)), (18, .pointer (some ⟨p31, 0, none⟩)), (20, .int .i64 k), (21, .int .i64 l), (22, .int .i64 x2), (23, .int .i64 y2), (24, .int .i64 i), (25, .int .i64 j)] _
     refine VC.seq (VC.seq (VC.region (VO.mv (Rn.move rfl) rfl rfl rfl (VO.mv (Rn.move rfl) rfl rfl rfl (VO.mv (Rn.lss rfl rfl) rfl rfl rfl (VO.nil (VQ.then_code ?_)))))))
     refine VC.cond_if rfl (fun hc7 => ?_) (fun hc7 => ?_)
     ·
      refine VC.skip (VQ.then_code (VC.seq (VC.block (VC.seq ?_))))
      have hi9 : i < R := by omega
      have hj9 : j < C := by omega
      obtain ⟨iC, hiC⟩ : ∃ m, m = i * C := ⟨_, rfl⟩
      have e2 : (i : Int) * (C : Int) = (iC : Int) := by rw [hiC, Int.natCast_mul]
      have l2 : iC + j < NN := by have := idx_lt hi9 hj9; omega
      have t2 : ((i : Int) * (C : Int) + (j : Int)).toNat = i * C + j := by omega
      have hga : (rowI NN (fG res) NN).getD ((i : Int) * (C : Int) + (j : Int)).toNat 0 = aG C res i j := by rw [t2]; exact rowI_get (by omega)
      have hgb : (rowI NN (fG ims) NN).getD ((i : Int) * (C : Int) + (j : Int)).toNat 0 = aG C ims i j := by rw [t2]; exact rowI_get (by omega)
      refine VC.draws 17 [(0, true), (1, true), (2, true), (3, true), (4, true), (5, true), (6, true), (7, true), (8, true), (9, true), (10, true), (11, true), (12, true), (13, true), (14, true), (15, true), (16, true)] (fun w1 w' => Ch (No) w1 w') mixed (by kernel_rfl) (fun _ _ => Ch.refl _ _) ?_
      intro w37 D37
      have c37 := Ch.of_drew D37; have z37 := c37.size
      have ra_37 := ra_36.keep c37
      have rb_37 := rb_36.keep c37
      have b14_37 := b14_36.keep c37
      have gc_37 := gc_36.keep c37
      have fw_37 := fw_36.keep c37
      have b16_37 := b16_36.keep c37
      have bk_37 := bk_36.keep c37
      have b18_37 := b18_36.keep c37
      refine VH.mv (fun w' hS => Rn.move rfl) rfl rfl rfl rfl (VH.mv (fun w' hS => Rn.move rfl) rfl rfl rfl rfl (VH.mv (fun w' hS => Rn.move rfl) rfl rfl rfl rfl ?_))
      refine VH.mv (fun w' hS => Rn.mul rfl rfl (by rw [IntKind.wrap_i64]; omega)) rfl rfl rfl rfl ?_
      refine VH.mv (fun w' hS => Rn.move rfl) rfl rfl rfl rfl ?_
      refine VH.mv (fun w' hS => Rn.add rfl rfl (by rw [IntKind.wrap_i64]; omega)) rfl rfl rfl rfl ?_
      refine VH.mv (fun w' hS => Rn.indexS Tryz.underlying49 Tryz.sizeOf2 rfl rfl (ra_37.sl.ne (by omega)) (by omega) (by omega)) rfl rfl rfl rfl (VH.mv (fun w' hS => Rn.load Tryz.isAgg2 rfl ((ra_37.keep hS).sl.getI (by omega) (by omega))) rfl rfl rfl rfl (VH.mv (fun w' hS => Rn.move rfl) rfl rfl rfl rfl (VH.mv (fun w' hS => Rn.move rfl) rfl rfl rfl rfl (VH.mv (fun w' hS => Rn.move rfl) rfl rfl rfl rfl ?_))))
      refine VH.mv (fun w' hS => Rn.mul rfl rfl (by rw [IntKind.wrap_i64]; omega)) rfl rfl rfl rfl ?_
      refine VH.mv (fun w' hS => Rn.move rfl) rfl rfl rfl rfl ?_
      refine VH.mv (fun w' hS => Rn.add rfl rfl (by rw [IntKind.wrap_i64]; omega)) rfl rfl rfl rfl ?_
      refine VH.mv (fun w' hS => Rn.indexS Tryz.underlying49 Tryz.sizeOf2 rfl rfl (rb_37.sl.ne (by omega)) (by omega) (by omega)) rfl rfl rfl rfl (VH.mv (fun w' hS => Rn.load Tryz.isAgg2 rfl ((rb_37.keep hS).sl.getI (by omega) (by omega))) rfl rfl rfl rfl (VH.mv (fun w' hS => Rn.assign rfl) rfl rfl rfl rfl (VH.done (VO.mv (Rn.assign rfl) rfl rfl rfl (VO.nil (VQ.noPanic (VQ.then_code ?_)))))))
      refine VC.seq (VC.seq (VC.region (VO.mv (Rn.assign rfl) rfl rfl rfl (VO.nil (VQ.then_code (VC.block ?_))))))
      obtain ⟨v1, hv1⟩ : ∃ v, v = 4 / R * i := ⟨_, rfl⟩
      obtain ⟨v2, hv2⟩ : ∃ v, v = 4 / R * i * k := ⟨_, rfl⟩
      obtain ⟨v3, hv3⟩ : ∃ v, v = 4 / C * j := ⟨_, rfl⟩
      obtain ⟨v4, hv4⟩ : ∃ v, v = 4 / C * j * l := ⟨_, rfl⟩
      have hm1 : (4 : Int) / (R : Int) * (i : Int) = (v1 : Int) := by rw [hv1]; push_cast; rfl
      have hm2 : (4 : Int) / (R : Int) * (i : Int) * (k : Int) = (v2 : Int) := by rw [hv2]; push_cast; rfl
      have hm3 : (4 : Int) / (C : Int) * (j : Int) = (v3 : Int) := by rw [hv3]; push_cast; rfl
      have hm4 : (4 : Int) / (C : Int) * (j : Int) * (l : Int) = (v4 : Int) := by rw [hv4]; push_cast; rfl
      have hd1 : 4 / R ≤ 4 := Nat.div_le_self _ _; have hd2 : 4 / C ≤ 4 := Nat.div_le_self _ _
      have hb1 : v1 ≤ 4 * 4 := by rw [hv1]; exact Nat.mul_le_mul hd1 (by omega)
      have hb2 : v2 ≤ 4 * 4 * 4 := by rw [hv2]; exact Nat.mul_le_mul (Nat.mul_le_mul hd1 (by omega)) (by omega)
      have hb3 : v3 ≤ 4 * 4 := by rw [hv3]; exact Nat.mul_le_mul hd2 (by omega)
      have hb4 : v4 ≤ 4 * 4 * 4 := by rw [hv4]; exact Nat.mul_le_mul (Nat.mul_le_mul hd2 (by omega)) (by omega)
      have hlex := law_exp (i := i) (j := j) (k := k) (l := l) h3R.h h3C.h
      rw [← hv2, ← hv4] at hlex
      have CH_37 := CH_36.and c37
      refine VC.loopS (σ := Nat × Int × Int) (fun (t, p, q) => [(9, .int .i64 R), (10, .int .i64 C), (12, .slice (some ⟨pa, 0, none⟩) NN NN), (13, .slice (some ⟨pb, 0, none⟩) NN NN), (14, .pointer (some ⟨p16, 0, none⟩)), (16, .pointer (some ⟨p28, 0, none⟩)), (18, .pointer (some ⟨p31, 0, none⟩)), (20, .int .i64 k), (21, .int .i64 l), (22, .int .i64 x2), (23, .int .i64 y2), (24, .int .i64 i), (25, .int .i64 j), (26, .int .i64 p), (27, .int .i64 q), (28, .int .i64 t)]) (fun (t, p, q) w' => t ≤ (v2 + v4) % 4 ∧ (p, q) = rt t (aG C res i j) (aG C ims i j) ∧ w37.heap.size ≤ w'.heap.size ∧ IR 2 w' (pa + 1) (some ⟨pa, 0, none⟩) NN NN (rowI NN (fG res) NN) ∧ IR 2 w' (pb + 1) (some ⟨pb, 0, none⟩) NN NN (rowI NN (fG ims) NN) ∧ CR 53 w' r1 A1 NN c1 (csG res ims NN) ∧ Bk w' p16 #[.int .i64 R, .int .i64 C, .slice A1 NN c1] 52 ∧ CR 53 w' r27 A27 NN k27 os_fw ∧ Bk w' p28 #[.int .i64 R, .int .i64 C, .slice A27 NN k27] 52 ∧ CR 53 w' r30 A30 NN k30 os_bk ∧ Bk w' p31 #[.int .i64 R, .int .i64 C, .slice A30 NN k30] 52 ∧ Ch (No) w w') (fun (t, p, q) => (v2 + v4) % 4 - t) (0, _, _) ?_ ⟨rfl, rfl, rfl, rfl, rfl, rfl, rfl, rfl, rfl, rfl, rfl, rfl, rfl, rfl, rfl, rfl, trivial⟩ ?_
      · exact ⟨(Nat.zero_le _), (by rw [hga, hgb]; rfl), (Nat.le_refl _), ra_37, rb_37, gc_37, b14_37, fw_37, b16_37, bk_37, b18_37, CH_37⟩
      rintro ⟨t, p, q⟩ w38 ⟨htle, hpq, hsz38, ra_38, rb_38, gc_38, b14_38, fw_38, b16_38, bk_38, b18_38, CH_38⟩
      show VC _ _ _ _ [(9, .int .i64 R), (10, .int .i64 C), (12, .slice (some ⟨pa, 0, none⟩) NN NN), (13, .slice (some ⟨pb, 0, none⟩) NN NN), (14, .pointer (some ⟨p16, 0, none⟩)), (16, .pointer (some ⟨p28, 0, none⟩)), (18, .pointer (some ⟨p31, 0, none⟩)), (20, .int .i64 k), (21, .int .i64 l), (22, .int .i64 x2), (23, .int .i64 y2), (24, .int .i64 i), (25, .int .i64 j), (26, .int .i64 p), (27, .int .i64 q), (28, .int .i64 t)] _
      refine VC.seq (VC.seq ?_)
      obtain ⟨v1, hv1⟩ : ∃ v, v = 4 / R * i := ⟨_, rfl⟩
      obtain ⟨v2, hv2⟩ : ∃ v, v = 4 / R * i * k := ⟨_, rfl⟩
      obtain ⟨v3, hv3⟩ : ∃ v, v = 4 / C * j := ⟨_, rfl⟩
      obtain ⟨v4, hv4⟩ : ∃ v, v = 4 / C * j * l := ⟨_, rfl⟩
      have hm1 : (4 : Int) / (R : Int) * (i : Int) = (v1 : Int) := by rw [hv1]; push_cast; rfl
      have hm2 : (4 : Int) / (R : Int) * (i : Int) * (k : Int) = (v2 : Int) := by rw [hv2]; push_cast; rfl
      have hm3 : (4 : Int) / (C : Int) * (j : Int) = (v3 : Int) := by rw [hv3]; push_cast; rfl
      have hm4 : (4 : Int) / (C : Int) * (j : Int) * (l : Int) = (v4 : Int) := by rw [hv4]; push_cast; rfl
      have hd1 : 4 / R ≤ 4 := Nat.div_le_self _ _; have hd2 : 4 / C ≤ 4 := Nat.div_le_self _ _
      have hb1 : v1 ≤ 4 * 4 := by rw [hv1]; exact Nat.mul_le_mul hd1 (by omega)
      have hb2 : v2 ≤ 4 * 4 * 4 := by rw [hv2]; exact Nat.mul_le_mul (Nat.mul_le_mul hd1 (by omega)) (by omega)
      have hb3 : v3 ≤ 4 * 4 := by rw [hv3]; exact Nat.mul_le_mul hd2 (by omega)
      have hb4 : v4 ≤ 4 * 4 * 4 := by rw [hv4]; exact Nat.mul_le_mul (Nat.mul_le_mul hd2 (by omega)) (by omega)
      have hlex := law_exp (i := i) (j := j) (k := k) (l := l) h3R.h h3C.h
      rw [← hv2, ← hv4] at hlex
      have hb9 := rt_bd (B := 68719476736) (a := aG C res i j) (b := aG C ims i j) (by have := ab36 C res ims i j; omega) (by have := ab36 C res ims i j; omega) t
      rw [← hpq] at hb9
      have hb91 : p.natAbs ≤ 68719476736 := hb9.1; have hb92 : q.natAbs ≤ 68719476736 := hb9.2
      refine VC.draws 16 [(0, true), (1, true), (2, true), (3, true), (4, true), (5, true), (6, true), (7, true), (8, true), (9, true), (10, true), (11, true), (12, true), (13, true), (14, true), (15, true)] (fun w1 w' => Ch (No) w1 w') mixed (by kernel_rfl) (fun _ _ => Ch.refl _ _) ?_
      intro w39 D39
      have c39 := Ch.of_drew D39; have z39 := c39.size
      refine VH.mv (fun w' hS => Rn.move rfl) rfl rfl rfl rfl (VH.mv (fun w' hS => Rn.move rfl) rfl rfl rfl rfl (VH.mv (fun w' hS => Rn.quo0 rfl rfl (by omega) (by omega) (by omega)) rfl rfl rfl rfl (VH.mv (fun w' hS => Rn.move rfl) rfl rfl rfl rfl ?_)))
      refine VH.mv (fun w' hS => Rn.mul rfl rfl (by rw [IntKind.wrap_i64]; omega)) rfl rfl rfl rfl ?_
      refine VH.mv (fun w' hS => Rn.move rfl) rfl rfl rfl rfl ?_
      refine VH.mv (fun w' hS => Rn.mul rfl rfl (by rw [IntKind.wrap_i64]; omega)) rfl rfl rfl rfl ?_
      refine VH.mv (fun w' hS => Rn.move rfl) rfl rfl rfl rfl (VH.mv (fun w' hS => Rn.quo0 rfl rfl (by omega) (by omega) (by omega)) rfl rfl rfl rfl (VH.mv (fun w' hS => Rn.move rfl) rfl rfl rfl rfl ?_))
      refine VH.mv (fun w' hS => Rn.mul rfl rfl (by rw [IntKind.wrap_i64]; omega)) rfl rfl rfl rfl ?_
      refine VH.mv (fun w' hS => Rn.move rfl) rfl rfl rfl rfl ?_
      refine VH.mv (fun w' hS => Rn.mul rfl rfl (by rw [IntKind.wrap_i64]; omega)) rfl rfl rfl rfl ?_
      refine VH.mv (fun w' hS => Rn.add rfl rfl (by rw [IntKind.wrap_i64]; omega)) rfl rfl rfl rfl ?_
      refine VH.mv (fun w' hS => Rn.rem0 rfl rfl (by omega) (by omega)) rfl rfl rfl rfl (VH.mv (fun w' hS => Rn.lss rfl rfl) rfl rfl rfl rfl (VH.done (VO.nil (VQ.noPanic (VQ.then_code (VC.cond_if rfl (fun hc8 => ?_) (fun hc8 => ?_)))))))
      ·
       refine VC.skip (VQ.then_code (VC.seq (VC.block (VC.region (VO.mv (Rn.move rfl) rfl rfl rfl (VO.mv (Rn.move rfl) rfl rfl rfl ?_))))))
       refine VO.mv (Rn.neg rfl (by rw [IntKind.wrap_i64]; omega)) rfl rfl rfl ?_
       refine VO.mv (Rn.assign rfl) rfl rfl rfl (VO.mv (Rn.assign rfl) rfl rfl rfl (VO.nil (VQ.block_normal (VQ.then_code (VC.region (VO.mv (Rn.move rfl) rfl rfl rfl ?_))))))
       refine VO.mv (Rn.add rfl rfl (by rw [IntKind.wrap_i64]; omega)) rfl rfl rfl ?_
       refine VO.mv (Rn.assign rfl) rfl rfl rfl (VO.nil ?_)
       refine VQ.round (t + 1, q, -p) (by first | omega | (dsimp only; omega)) ?_ ⟨rfl, rfl, rfl, rfl, rfl, rfl, rfl, rfl, rfl, rfl, rfl, rfl, rfl, rfl, rfl, rfl, trivial⟩
       have ra_39 := ra_38.keep c39
       have rb_39 := rb_38.keep c39
       have gc_39 := gc_38.keep c39
       have b14_39 := b14_38.keep c39
       have fw_39 := fw_38.keep c39
       have b16_39 := b16_38.keep c39
       have bk_39 := bk_38.keep c39
       have b18_39 := b18_38.keep c39
       have CH_39 := CH_38.and c39
       exact ⟨(by omega), (by show _ = ((rt t (aG C res i j) (aG C ims i j)).2, -(rt t (aG C res i j) (aG C ims i j)).1); rw [← hpq]), (by omega), ra_39, rb_39, gc_39, b14_39, fw_39, b16_39, bk_39, b18_39, CH_39⟩
      ·
       refine VC.exit (VQ.then_exit (VQ.then_exit (VQ.block_exit (VQ.then_code (VC.seq ?_)))))
       have ht9 : t = (v2 + v4) % 4 := by omega
       rw [ht9, hlex, rt_mod] at hpq
       have hpx : p = (pX R C k l (aG C res) (aG C ims)) i j := congrArg Prod.fst hpq; have hpy : q = (pY R C k l (aG C res) (aG C ims)) i j := congrArg Prod.snd hpq
       have hbx := sG_bd hC.2 (p := (pX R C k l (aG C res) (aG C ims))) (fun i j => (pX_bd R C k l (ab36 C res ims) i j).1) (i := i) (j := j) (by omega) (by omega)
       have hby := sG_bd hC.2 (p := (pY R C k l (aG C res) (aG C ims))) (fun i j => (pX_bd R C k l (ab36 C res ims) i j).2) (i := i) (j := j) (by omega) (by omega)
       refine VC.region (VO.mv (Rn.move rfl) rfl rfl rfl (VO.mv (Rn.move rfl) rfl rfl rfl ?_))
       refine VO.mv (Rn.add rfl rfl (by rw [IntKind.wrap_i64]; omega)) rfl rfl rfl ?_
       refine VO.mv (Rn.assign rfl) rfl rfl rfl (VO.nil (VQ.then_code (VC.region (VO.mv (Rn.move rfl) rfl rfl rfl (VO.mv (Rn.move rfl) rfl rfl rfl ?_)))))
       refine VO.mv (Rn.add rfl rfl (by rw [IntKind.wrap_i64]; omega)) rfl rfl rfl ?_
       refine VO.mv (Rn.assign rfl) rfl rfl rfl (VO.nil (VQ.block_normal (VQ.then_code (VC.region (VO.mv (Rn.move rfl) rfl rfl rfl ?_)))))
       refine VO.mv (Rn.add rfl rfl (by rw [IntKind.wrap_i64]; omega)) rfl rfl rfl ?_
       refine VO.mv (Rn.assign rfl) rfl rfl rfl (VO.nil ?_)
       refine VQ.round (j + 1, x2 + p, y2 + q) (by first | omega | (dsimp only; omega)) ?_ ⟨rfl, rfl, rfl, rfl, rfl, rfl, rfl, rfl, rfl, rfl, rfl, rfl, rfl, trivial⟩
       have ra_39 := ra_38.keep c39
       have rb_39 := rb_38.keep c39
       have gc_39 := gc_38.keep c39
       have b14_39 := b14_38.keep c39
       have fw_39 := fw_38.keep c39
       have b16_39 := b16_38.keep c39
       have bk_39 := bk_38.keep c39
       have b18_39 := b18_38.keep c39
       have CH_39 := CH_38.and c39
       exact ⟨(by omega), (by rw [← sG_succ, ← hx2, hpx]), (by rw [← sG_succ, ← hy2, hpy]), (by omega), ra_39, rb_39, gc_39, b14_39, fw_39, b16_39, bk_39, b18_39, CH_39⟩
     ·
      refine VC.exit (VQ.then_exit (VQ.then_exit (VQ.block_exit (VQ.block_normal (VQ.then_code (VC.region (VO.mv (Rn.move rfl) rfl rfl rfl ?_)))))))
      refine VO.mv (Rn.add rfl rfl (by rw [IntKind.wrap_i64]; omega)) rfl rfl rfl ?_
      refine VO.mv (Rn.assign rfl) rfl rfl rfl (VO.nil ?_)
      refine VQ.round (i + 1, x2, y2) (by first | omega | (dsimp only; omega)) ?_ ⟨rfl, rfl, rfl, rfl, rfl, rfl, rfl, rfl, rfl, rfl, rfl, rfl, trivial⟩
      exact ⟨(by omega), (by rw [← sG_row, hx2, show j = C by omega]), (by rw [← sG_row, hy2, show j = C by omega]), (by omega), ra_36, rb_36, gc_36, b14_36, fw_36, b16_36, bk_36, b18_36, CH_36⟩
    ·
     refine VC.exit (VQ.then_exit (VQ.then_exit (VQ.block_exit (VQ.then_code (VC.seq ?_)))))
     have ei : i = R := by omega
     rw [ei] at hx hy
     rw [(sG_end R C k l (aG C res) (aG C ims)).1] at hx
     rw [(sG_end R C k l (aG C res) (aG C ims)).2] at hy
     obtain ⟨kC, hkC⟩ : ∃ m, m = k * C := ⟨_, rfl⟩
     have e3 : (k : Int) * (C : Int) = (kC : Int) := by rw [hkC, Int.natCast_mul]
     have hk9 : k < R := by omega
     have hl9 : l < C := by omega
     have l3 : kC + l < NN := by have := idx_lt hk9 hl9; omega
     have t3 : ((k : Int) * (C : Int) + (l : Int)).toNat = k * C + l := by omega
     have hbx := sG_bd hC.2 (p := (pX R C k l (aG C res) (aG C ims))) (fun i j => (pX_bd R C k l (ab36 C res ims) i j).1) (i := R) (j := 0) (by omega) (by omega)
     have hby := sG_bd hC.2 (p := (pY R C k l (aG C res) (aG C ims))) (fun i j => (pX_bd R C k l (ab36 C res ims) i j).2) (i := R) (j := 0) (by omega) (by omega)
     rw [(sG_end R C k l (aG C res) (aG C ims)).1] at hbx; rw [(sG_end R C k l (aG C res) (aG C ims)).2] at hby
     have hsx : Sm (X2 R C (aG C res) (aG C ims) k l) := sm_of (by omega) (by omega)
     have hsy : Sm (Y2 R C (aG C res) (aG C ims) k l) := sm_of (by omega) (by omega)
     have hce : ceq (os_fw.getD ((k : Int) * (C : Int) + (l : Int)).toNat (0, 0)) (FloatKind.f64.nearest x, FloatKind.f64.nearest y) = true := by rw [t3, hx, hy]; exact ceq_true (hg_fw.get k l hk9 hl9) (whC_int hsx hsy) hsx hsy
     refine VC.region (VO.mv (Rn.field Tryz.underlying52 rfl Tryz.sizeOf39 rfl rfl rfl) rfl rfl rfl (VO.mv (Rn.load Tryz.isAgg39 rfl (b16_35.cell rfl)) rfl rfl rfl (VO.mv (Rn.move rfl) rfl rfl rfl (VO.mv (Rn.move rfl) rfl rfl rfl ?_))))
     refine VO.mv (Rn.mul rfl rfl (by rw [IntKind.wrap_i64]; omega)) rfl rfl rfl ?_
     refine VO.mv (Rn.move rfl) rfl rfl rfl ?_
     refine VO.mv (Rn.add rfl rfl (by rw [IntKind.wrap_i64]; omega)) rfl rfl rfl ?_
     refine VO.mv (Rn.indexS Tryz.underlying39 Tryz.sizeOf53 rfl rfl (fw_35.sl.ne (by omega)) (by omega) (by omega)) rfl rfl rfl (VO.mv (Rn.load Tryz.isAgg53 rfl (fw_35.sl.getC (by omega) (by omega))) rfl rfl rfl (VO.mv (Rn.move rfl) rfl rfl rfl (VO.mv (Rn.conv_if Tryz.underlying2 Tryz.underlying25 rfl) rfl rfl rfl (VO.mv (Rn.move rfl) rfl rfl rfl (VO.mv (Rn.conv_if Tryz.underlying2 Tryz.underlying25 rfl) rfl rfl rfl (VO.mv (Rn.complex rfl rfl) rfl rfl rfl (VO.mv (Rn.cneqF rfl rfl hce) rfl rfl rfl ?_)))))))
     refine VO.nil (VQ.then_code (VC.cond_false rfl (VC.skip (VQ.block_normal (VQ.then_code (VC.region (VO.mv (Rn.move rfl) rfl rfl rfl ?_)))))))
     refine VO.mv (Rn.add rfl rfl (by rw [IntKind.wrap_i64]; omega)) rfl rfl rfl ?_
     refine VO.mv (Rn.assign rfl) rfl rfl rfl (VO.nil ?_)
     refine VQ.round (l + 1) (by first | omega | (dsimp only; omega)) ?_ ⟨rfl, rfl, rfl, rfl, rfl, rfl, rfl, rfl, rfl, trivial⟩
     exact ⟨(by omega), (by omega), ra_35, rb_35, gc_35, b14_35, fw_35, b16_35, bk_35, b18_35, CH_35⟩
   ·
    refine VC.exit (VQ.then_exit (VQ.then_exit (VQ.block_exit (VQ.block_normal (VQ.then_code (VC.region (VO.mv (Rn.move rfl) rfl rfl rfl ?_)))))))
    refine VO.mv (Rn.add rfl rfl (by rw [IntKind.wrap_i64]; omega)) rfl rfl rfl ?_
    refine VO.mv (Rn.assign rfl) rfl rfl rfl (VO.nil ?_)
    refine VQ.round (k + 1) (by first | omega | (dsimp only; omega)) ?_ ⟨rfl, rfl, rfl, rfl, rfl, rfl, rfl, rfl, trivial⟩
    exact ⟨(by omega), (by omega), ra_34, rb_34, gc_34, b14_34, fw_34, b16_34, bk_34, b18_34, CH_34⟩
  ·
   refine VC.exit (VQ.then_exit (VQ.then_exit (VQ.block_exit (VQ.then_code (VC.seq (VC.seq (VC.region ?_)))))))
   refine VO.mv (Rn.field Tryz.underlying52 rfl Tryz.sizeOf39 rfl rfl rfl) rfl rfl rfl (VO.mv (Rn.load Tryz.isAgg39 rfl (b14_33.cell rfl)) rfl rfl rfl (VO.mv (Rn.len Tryz.underlying39 rfl) rfl rfl rfl (VO.mv (Rn.move rfl) rfl rfl rfl (VO.nil (VQ.then_code (VC.block (VC.loopS (σ := Nat) (fun i => [(14, .pointer (some ⟨p16, 0, none⟩)), (18, .pointer (some ⟨p31, 0, none⟩)), (211, .int .i64 NN), (212, .int .i64 i)]) (fun i w' => i ≤ NN ∧ w33.heap.size ≤ w'.heap.size ∧ CR 53 w' r1 A1 NN c1 (csG res ims NN) ∧ Bk w' p16 #[.int .i64 R, .int .i64 C, .slice A1 NN c1] 52 ∧ CR 53 w' r30 A30 NN k30 os_bk ∧ Bk w' p31 #[.int .i64 R, .int .i64 C, .slice A30 NN k30] 52 ∧ Ch (No) w w') (fun i => NN - i) 0 ?_ ⟨rfl, rfl, rfl, rfl, trivial⟩ ?_)))))))
   · exact ⟨(by omega), (Nat.le_refl _), gc_33, b14_33, bk_33, b18_33, CH_33⟩
   rintro i w40 ⟨hile, hsz40, gc_40, b14_40, bk_40, b18_40, CH_40⟩
   show VC _ _ _ _ [(14, .pointer (some ⟨p16, 0, none⟩)), (18, .pointer (some ⟨p31, 0, none⟩)), (211, .int .i64 NN), (212, .int .i64 i)] _
   refine VC.seq (VC.region (VO.mv (Rn.lss rfl rfl) rfl rfl rfl (VO.nil (VQ.then_code (VC.seq (VC.cond_if rfl (fun hc9 => ?_) (fun hc9 => ?_)))))))
   ·
    refine VC.skip (VQ.then_code (VC.seq (VC.block (VC.seq (VC.region (VO.mv (Rn.move rfl) rfl rfl rfl (VO.mv (Rn.assign rfl) rfl rfl rfl ?_)))))))
    refine VO.nil (VQ.then_code (VC.seq (VC.draws 11 [(0, true), (1, true), (2, true), (3, true), (4, true), (5, true), (6, true), (7, true), (8, true), (9, true), (10, true)] (fun w1 w' => Ch (No) w1 w') mixed (by kernel_rfl) (fun _ _ => Ch.refl _ _) ?_)))
    intro w41 D41
    have c41 := Ch.of_drew D41; have z41 := c41.size
    have b14_41 := b14_40.keep c41
    have gc_41 := gc_40.keep c41
    have bk_41 := bk_40.keep c41
    have b18_41 := b18_40.keep c41
    refine VH.mv (fun w' hS => Rn.field Tryz.underlying52 rfl Tryz.sizeOf39 rfl rfl rfl) rfl rfl rfl rfl (VH.mv (fun w' hS => Rn.load Tryz.isAgg39 rfl ((b18_41.keep hS).cell rfl)) rfl rfl rfl rfl (VH.mv (fun w' hS => Rn.move rfl) rfl rfl rfl rfl (VH.mv (fun w' hS => Rn.indexS Tryz.underlying39 Tryz.sizeOf53 rfl rfl (bk_41.sl.ne (by omega)) (by omega) (by omega)) rfl rfl rfl rfl (VH.mv (fun w' hS => Rn.load Tryz.isAgg53 rfl ((bk_41.keep hS).sl.getC (by omega) (by omega))) rfl rfl rfl rfl (VH.mv (fun w' hS => Rn.field Tryz.underlying52 rfl Tryz.sizeOf39 rfl rfl rfl) rfl rfl rfl rfl (VH.mv (fun w' hS => Rn.load Tryz.isAgg39 rfl ((b14_41.keep hS).cell rfl)) rfl rfl rfl rfl (VH.mv (fun w' hS => Rn.move rfl) rfl rfl rfl rfl ?_)))))))
    refine VH.mv (fun w' hS => Rn.indexS Tryz.underlying39 Tryz.sizeOf53 rfl rfl (gc_41.sl.ne (by omega)) (by omega) (by omega)) rfl rfl rfl rfl (VH.mv (fun w' hS => Rn.load Tryz.isAgg53 rfl ((gc_41.keep hS).sl.getC (by omega) (by omega))) rfl rfl rfl rfl (VH.mv (fun w' hS => Rn.cneqF rfl rfl (ceq_true (hg_bk.flat (by omega)) ((csG_gr R C res ims hN).flat (by omega)) (aG_sm _ _ _ _) (aG_sm _ _ _ _))) rfl rfl rfl rfl (VH.done (VO.nil (VQ.noPanic (VQ.then_code (VC.cond_false rfl ?_)))))))
    refine VC.skip (VQ.block_normal (VQ.then_code (VC.region ?_)))
    refine VO.mv (Rn.add rfl rfl (by rw [IntKind.wrap_i64]; omega)) rfl rfl rfl ?_
    refine VO.mv (Rn.move rfl) rfl rfl rfl (VO.nil ?_)
    refine VQ.round (i + 1) (by first | omega | (dsimp only; omega)) ?_ ⟨rfl, rfl, rfl, rfl, trivial⟩
    have CH_41 := CH_40.and c41
    exact ⟨(by omega), (by omega), gc_41, b14_41, bk_41, b18_41, CH_41⟩
   ·
    refine VC.exit (VQ.then_exit (VQ.then_exit (VQ.block_exit (VQ.then_code (VC.seq (VC.region (VO.mv (Rn.assign rfl) rfl rfl rfl ?_)))))))
    refine VO.nil (VQ.then_code (VC.ret (VQ.ret1 rfl rfl (Ret.mk ?_))))
    exact ⟨rfl, CH_40⟩
end Go.Tm
namespace Go.Tm
open Go.RowKit Go.Proofs Go.ChangeShapes Go.WideShapes Go.Deep
open Go.Proofs.YtdgiiehbbmfgoaaGreatDoor
theorem laidVars_at {P : Program} {w : World} : ∀ {l : List (String × DataW Unit)} {ps : List MemPlace} (i : Nat) {x : String × DataW Unit}, DataW.LaidVars P w l ps → l[i]? = some x → ∃ ps', DataW.LaidVars P w [x] ps' ∧ ps'.Sublist ps
  | [], _, _, _, _, h => by simp at h
  | (n, d) :: r, ps, 0, x, h, hi => by
    obtain ⟨g, t, cs, fuel, p, q, e1, e2, e3, e4, hr, rfl⟩ := h
    simp only [List.getElem?_cons_zero, Option.some.injEq] at hi
    subst hi
    exact ⟨_, ⟨g, t, cs, fuel, p, [], e1, e2, e3, e4, rfl, rfl⟩, by rw [List.append_nil]; exact List.sublist_append_left _ _⟩
  | (n, d) :: r, ps, i + 1, x, h, hi => by
    obtain ⟨g, t, cs, fuel, p, q, e1, e2, e3, e4, hr, rfl⟩ := h
    obtain ⟨ps', h1, h2⟩ := laidVars_at i hr (by simpa using hi)
    exact ⟨ps', h1, h2.trans (List.sublist_append_right _ _)⟩
theorem _root_.Go.laidMet.at {P : Program} {w : World} {l : List (String × DataW Unit)} {x : String × DataW Unit} (h : laidMet P l w) (i : Nat) (hi : l[i]? = some x) : laidMet P [x] w := by
  obtain ⟨ps, hl, hnd, hrows⟩ := h
  obtain ⟨ps', h1, h2⟩ := laidVars_at i hl hi
  exact ⟨ps', h1, h2.nodup hnd, fun b off hp => hrows b off (h2.subset hp)⟩
noncomputable abbrev laidL : List (String × DataW Unit) := Rows.gridExactRow.laid
theorem gn_of {W : World} (h : laidMet Tryz.prog laidL W) : 12 ≤ W.heap.size := by
  obtain ⟨ps, ⟨g0, t0, cs0, f0, p0, q0, hg0, ht0, hv0, hd0, _, e0⟩, _, hrows⟩ := h.at 1 rfl
  have hg : Tryz.prog.globalNamed "math/bits.deBruijn64tab" = some 11 := by kernel_rfl
  obtain rfl := Option.some.inj (hg.symm.trans hg0)
  unfold World.var? at hv0
  rw [hg] at hv0
  simp only [Option.bind_some] at hv0
  split at hv0
  · rename_i hx
    have := blk_lt hx
    omega
  · cases hv0
theorem tab_of {W : World} (h : laidMet Tryz.prog laidL W) (hgn : 12 ≤ W.heap.size) : TabB W.heap.size W := by
  have hg : Tryz.prog.globalNamed "internal/strconv.uint64pow10" = some 9 := by kernel_rfl
  refine ⟨Lib.tabIs_of_head hg (by kernel_rfl) Tryz.underlying281 Tryz.underlying23 (by kernel_rfl) (by kernel_rfl) (h.at 2 (by kernel_rfl)), fun g e => ?_⟩
  obtain rfl := Option.some.inj (hg.symm.trans e)
  omega
section
variable {H : Type} {enc : TypeId × Value → H} {P : Program} {w : World} {base : Nat} {spare : Nat → Bool} {held : Bool}
theorem struct_cells {e : TypeId} {fs : Array Field} {fuel : Nat} {cs : List Value} {x : DataW H × List MemPlace} (he : P.underlying e = some (.struct fs))
    (hone : oneCellFields P fs = true) (hC : P.cellsOf e = fs.size) (h : DataW.trod enc P w base spare held fuel e cs = some x) :
    ∃ (ys : List (DataW H × List MemPlace)) (n : Nat), x.1 = .agg (ys.map (·.1)) ∧ cs.length = fs.size ∧ ∀ (j : Nat) (f : Field), fs[j]? = some f → ∃ (v : Value) (y : DataW H × List MemPlace), cs[j]? = some v ∧ ys[j]? = some y ∧ DataW.trod enc P w base spare held n f.type [v] = some y := by
  obtain ⟨ys, n', hn', hy, hlen, hyl, hf⟩ := DataW.trod_struct he h
  rw [hC] at hlen
  refine ⟨ys, n', by rw [hy], hlen, fun j f hj => ?_⟩
  obtain ⟨ho, hk⟩ := hone_of hone j f hj
  have hjl : j < fs.size := (Array.getElem?_eq_some_iff.1 hj).1
  have hv : cs[j]? = some (cs[j]'(by omega)) := List.getElem?_eq_getElem (by omega)
  have h1 := hf j f hj
  rw [ho, hk] at h1
  have hone' : (cs.drop j).take 1 = [cs[j]'(by omega)] := by
    rw [List.drop_eq_getElem_cons (by omega)]
    rfl
  rw [hone'] at h1
  have hys : ys[j]? = some (ys[j]'(by omega)) := List.getElem?_eq_getElem (by omega)
  exact ⟨_, _, hv, hys, h1.trans hys⟩
end
def stL : List (List UInt8 × Bool × Bool × Int × Bool) := [([], false, false, 0, false), ([103, 97, 116, 104, 101, 114], true, true, 0, false), ([115, 99, 97, 116, 116, 101, 114], true, true, 0, false), ([122, 101, 114, 111], false, false, 0, false), ([116, 119, 105, 115, 116], false, false, 16384, true), ([102, 108, 121], false, true, 5, false), ([100, 105, 114, 101, 99, 116], true, true, 64, false), ([99, 104, 105, 114, 112], false, false, 16384, false), ([102, 105, 108, 108], false, false, 16384, false), ([116, 105, 109, 101, 115], true, false, 0, false), ([99, 111, 110, 106], false, false, 0, false), ([111, 118, 101, 114], false, false, 16384, false)]
def stD : List (DataW Unit) := stL.map fun e => .agg [.lit (.string e.1), .lit (.bool e.2.1), .lit (.bool e.2.2.1), .lit (.int .i64 e.2.2.2.1), .lit (.bool e.2.2.2.2)]
def stK (i : Fin 12) : Bool := match stL[i.1]? with
  | some e => e.2.1 == kSrc i.1 && e.2.2.1 == kJmp i.1 && e.2.2.2.1 == kN i.1 && e.2.2.2.2 == kK i.1
  | none => false
theorem stK_spec {i : Nat} (hi : i < 12) (h : stK ⟨i, hi⟩ = true) : ∃ t, stD[i]? = some (.agg [.lit (.string t), .lit (.bool (kSrc i)), .lit (.bool (kJmp i)), .lit (.int .i64 (kN i)), .lit (.bool (kK i))]) := by
  unfold stK at h
  split at h
  · rename_i e he
    simp only [Bool.and_eq_true, beq_iff_eq] at h
    obtain ⟨⟨⟨h1, h2⟩, h3⟩, h4⟩ := h
    exact ⟨e.1, by rw [stD, List.getElem?_map, he, ← h1, ← h2, ← h3, ← h4]; rfl⟩
  · cases h
theorem add_glob (g k : Nat) : (⟨g, 0, none⟩ : Addr).add k = ⟨g, k, none⟩ := by
  by_cases hk : k = 0
  · subst hk; rfl
  · simp [Addr.add, hk]
theorem st_of {W : World} (h : laidMet Tryz.prog laidL W) : StT W := by
  obtain ⟨ps, ⟨g0, t0, cs0, f0, p0, q0, hg0, ht0, hv0, hd0, _, e0⟩, _, _⟩ := h.at 10 rfl
  obtain rfl := Option.some.inj ((show Tryz.prog.globalNamed "timbre/steps.table" = some 8 by kernel_rfl).symm.trans hg0)
  obtain rfl := Option.some.inj ((show (Tryz.prog.globals[8]?).map (·.type) = some 222 by kernel_rfl).symm.trans ht0)
  obtain ⟨xs, m1, rfl, hx1, hlen, hn12, hel⟩ := DataW.trod_array Tryz.underlying222 hd0
  have hxs := congrArg Prod.fst hx1
  have ck : Tryz.prog.cellsOf 221 = 5 := by kernel_rfl
  have c9 : Tryz.prog.cellsOf 9 = 1 := by kernel_rfl
  have c4 : Tryz.prog.cellsOf 4 = 1 := by kernel_rfl
  have c3 : Tryz.prog.cellsOf 3 = 1 := by kernel_rfl
  have key : ∀ (i : Nat) (t : List UInt8) (a b : Bool) (n : Int) (k : Bool), (xs.map (·.1))[i]? = some (.agg [.lit (.string t), .lit (.bool a), .lit (.bool b), .lit (.int .i64 n), .lit (.bool k)]) →
      ∃ s : ByteArray, CaR (· < 12) W ((⟨8, 0, none⟩ : Addr).add (i * 5)) [.string s, .bool a, .bool b, .int .i64 n, .bool k] := by
    intro i t a b n k hi
    rw [List.getElem?_map, Option.map_eq_some_iff] at hi
    obtain ⟨x, hx, hxd⟩ := hi
    have hi12 : i < 12 := by have := (List.getElem?_eq_some_iff.1 hx).1; omega
    have h1 := hel i hi12
    rw [hx, ck] at h1
    obtain ⟨ys, n', hy, hcl, hf⟩ := struct_cells Tryz.underlying221 (by kernel_rfl) (by kernel_rfl) h1
    obtain ⟨v0, y0, g0, k0, f0⟩ := hf 0 _ rfl
    obtain ⟨v1, y1, g1, k1, f1⟩ := hf 1 _ rfl
    obtain ⟨v2, y2, g2, k2, f2⟩ := hf 2 _ rfl
    obtain ⟨v3, y3, g3, k3, f3⟩ := hf 3 _ rfl
    obtain ⟨v4, y4, g4, k4, f4⟩ := hf 4 _ rfl
    obtain ⟨s, e0', e0'', _⟩ := DataW.trod_string Tryz.underlying9 f0
    obtain ⟨b1, e1', e1''⟩ := DataW.trod_bool Tryz.underlying4 f1
    obtain ⟨b2, e2', e2''⟩ := DataW.trod_bool Tryz.underlying4 f2
    obtain ⟨z3, e3', e3'', _⟩ := DataW.trod_int Tryz.underlying3 f3
    obtain ⟨b4, e4', e4''⟩ := DataW.trod_bool Tryz.underlying4 f4
    rw [hy] at hxd
    simp only [DataW.agg.injEq] at hxd
    subst e0'' e1'' e2'' e3'' e4''
    have q1 := congrArg (fun l => l[1]?) hxd; have q2 := congrArg (fun l => l[2]?) hxd; have q3 := congrArg (fun l => l[3]?) hxd; have q4 := congrArg (fun l => l[4]?) hxd
    simp only [List.getElem?_map, k1, k2, k3, k4, Option.map_some, List.getElem?_cons_succ, List.getElem?_cons_zero, Option.some.injEq, DataW.lit.injEq, Lit.bool.injEq, Lit.int.injEq, true_and] at q1 q2 q3 q4
    subst q1 q2 q3 q4
    simp only [List.cons.injEq, and_true] at e0' e1' e2' e3' e4'
    subst e0' e1' e2' e3' e4'
    have cell : ∀ j v, j < 5 → ((cs0.toList.drop (i * 5)).take 5)[j]? = some v → W.cell? (((⟨8, 0, none⟩ : Addr).add (i * 5)).add j) = some v := by
      intro j v hj5 hj
      rw [List.getElem?_take, if_pos hj5, List.getElem?_drop, Array.getElem?_toList] at hj
      have := World.var?_cell hg0 hv0 (i * 5 + j)
      rw [hj] at this
      rw [← this, Go.Deep.add_add, add_glob]
    refine ⟨s, fun j v hj => ?_, by rw [add_block]; decide⟩
    match j, hj with
    | 0, hj => obtain rfl := Option.some.inj hj; exact cell 0 _ (by decide) g0
    | 1, hj => obtain rfl := Option.some.inj hj; exact cell 1 _ (by decide) g1
    | 2, hj => obtain rfl := Option.some.inj hj; exact cell 2 _ (by decide) g2
    | 3, hj => obtain rfl := Option.some.inj hj; exact cell 3 _ (by decide) g3
    | 4, hj => obtain rfl := Option.some.inj hj; exact cell 4 _ (by decide) g4
    | j + 5, hj => simp at hj
  have hD : xs.map (·.1) = stD := by
    simp only [DataW.agg.injEq, Rows.laid_timbre_steps_table] at hxs
    exact hxs.symm
  rw [hD] at key
  have all : ∀ i, ∃ s : ByteArray, i < 12 → CaR (· < 12) W ((⟨8, 0, none⟩ : Addr).add (i * 5)) [.string s, .bool (kSrc i), .bool (kJmp i), .int .i64 (kN i), .bool (kK i)] := by
    intro i
    by_cases hi : i < 12
    · have h2 := (by decide : ∀ i : Fin 12, stK i = true) ⟨i, hi⟩
      obtain ⟨t, ht⟩ := stK_spec hi h2
      obtain ⟨s, hs⟩ := key i _ _ _ _ _ ht
      exact ⟨s, fun _ => hs⟩
    · exact ⟨⟨#[]⟩, fun h => absurd h hi⟩
  obtain ⟨nm, hnm⟩ := Classical.axiomOfChoice all
  exact ⟨nm, hnm⟩
theorem lowStar : "*" ++ "errors.errorString" = "*errors.errorString" := by decide
theorem rowErr (u : TypeId) (h : Tryz.prog.typeName? 3 u = some "*errors.errorString") : u = 288 :=
  typeName_ptr_named (nm := "errors.errorString") (by rw [lowStar]; kernel_rfl) (by kernel_rfl) (by decide) u (by rw [lowStar]; exact h)
set_option maxRecDepth 100000 in
theorem errL_of {W : World} (h0 : laidMet Tryz.prog laidL W) : ∃ E, ErrL E W := by
  have h := h0.at 4 rfl
  obtain ⟨ps, ⟨g0, t0, cs0, f0, p0, q0, hg0, ht0, hv0, hd0, _, e0⟩, _, hrows⟩ := h
  obtain rfl := Option.some.inj ((show Tryz.prog.globalNamed "timbre/api.ErrLength" = some 1 by kernel_rfl).symm.trans hg0)
  obtain rfl := Option.some.inj ((show (Tryz.prog.globals[1]?).map (·.type) = some 29 by kernel_rfl).symm.trans ht0)
  subst e0
  obtain ⟨l0⟩ := cs0
  have ok0 : ∀ u v, l0 = [.iface u v] → Value.okWide Tryz.prog W .any 0 u v := fun u v e => by
    subst e
    exact (hrows 1 0 (by simp [MemPlace.row])).2 u v (by simpa using World.var?_cell hg0 hv0 0)
  obtain ⟨a0, s0, rfl, hc0, hs0, hz0, hp0⟩ := errorString_of_trod Tryz.underlying29 rowErr Tryz.underlying288 Tryz.underlying307 rfl rfl Tryz.underlying9 (by kernel_rfl) (by kernel_rfl) hd0 ok0
  exact ⟨a0, ⟨by simpa using World.var?_cell hg0 hv0 0⟩⟩
end Go.Tm
