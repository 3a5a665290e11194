/- Lemmas of this claim, joined by program. The law RingWhole walks. What a row's laid variables give the walks, ringWhole. Conditions: each lemma names its own. -/
import Derived.Test.YtdgiiehbbmfgoaaGreatDoorC17
import Derived.Test.YtdgiiehbbmfgoaaGreatDoorRows
import Derived.ProofKit
import Derived.LaidMore
import Derived.LaidSub
import Derived.OpenShut
import Derived.Stop.Joined
import Derived.Lib.LaidTab
import Derived.Deep.Slices
import Derived.Deep.Fields
import Derived.Deep.OwnRows
import Derived.WideKeyArgs
import Derived.ChangeSlices
set_option linter.all false
namespace Go.Tm
open Go.RowKit Go.Proofs
theorem nsum_int (f : Nat → Nat) : ∀ n, ((nsum f n : Nat) : Int) = isum (fun i => (f i : Int)) n
  | 0 => rfl
  | n + 1 => by
    have := nsum_int f n
    show ((nsum f n + f n : Nat) : Int) = isum (fun i => (f i : Int)) n + (f n : Int)
    omega
theorem nsum_neg (f : Nat → Nat) (n : Nat) : nsum (fun i => f ((n - i) % n)) n = nsum f n := by
  have h1 := nsum_int (fun i => f ((n - i) % n)) n
  have h2 := nsum_int f n
  have h3 := isum_neg (fun i => (f i : Int)) n
  have h4 : isum (fun i => ((f ((n - i) % n) : Nat) : Int)) n = isum (fun i => (f i : Int)) n := h3
  omega
theorem WhU.row {N : Nat} {f : Nat → Gs} {zs : List CB} (h : WhU N (fun k => (f k).1) (fun k => (f k).2) N zs) : WhU N (re (rowG N f)) (im (rowG N f)) N zs :=
  h.cast fun k hk => by unfold re im; rw [rowG_get hk]; exact ⟨rfl, rfl⟩
theorem row_sm {N : Nat} {f : Nat → Gs} (h : ∀ k, k < N → Sm (f k).1 ∧ Sm (f k).2) (k : Nat) (hk : k < N) : Sm (re (rowG N f) k) ∧ Sm (im (rowG N f) k) := by
  unfold re im; rw [rowG_get hk]; exact h k hk
theorem fold_zero (n : Nat) (L : Nat → Int) (k : Nat) : fold n L 0 k = 0 := by unfold fold; rw [if_neg (by omega), if_neg (by omega)]; rfl
section
variable {n : Nat} {us vs xs ys : Nat → Int}
theorem sm_bd {a : Int} (h : a.natAbs ≤ 2251799813685248) : Sm a := by unfold Sm; omega
theorem lin_sm (g1 : GB us vs n) (g2 : GB xs ys n) (k : Nat) : Sm (lin n (fR us vs xs ys) n k) ∧ Sm (lin n (fI us vs xs ys) n k) := by
  have := lin_bd g1 g2 k (Nat.le_refl n)
  exact ⟨sm_bd (by omega), sm_bd (by omega)⟩
theorem cyc_sm (g1 : GB us vs n) (g2 : GB xs ys n) (k : Nat) (hk : k < n) : Sm (cyc n (fR us vs xs ys) k) ∧ Sm (cyc n (fI us vs xs ys) k) := by
  have h := cy_tame (k := k) g1 g2 (by omega)
  exact ⟨h.1.sm, h.2.sm⟩
theorem lin_swap (k : Nat) (hn : 0 < n) : lin n (fR xs ys us vs) n k = lin n (fR us vs xs ys) n k ∧ lin n (fI xs ys us vs) n k = lin n (fI us vs xs ys) n k :=
  ⟨lin_comm _ _ (fun _ _ => (g_comm _ _ _ _).1) hn, lin_comm _ _ (fun _ _ => (g_comm _ _ _ _).2) hn⟩
theorem cyc_swap {k : Nat} (hk : k < n) : cyc n (fR xs ys us vs) k = cyc n (fR us vs xs ys) k ∧ cyc n (fI xs ys us vs) k = cyc n (fI us vs xs ys) k :=
  ⟨cyc_comm _ _ (fun _ _ => (g_comm _ _ _ _).1) hk, cyc_comm _ _ (fun _ _ => (g_comm _ _ _ _).2) hk⟩
end
def tuF (hs : List Gs) (n i k : Nat) : Gs := if (n - k) % n < i then (re hs ((n - k) % n), -im hs ((n - k) % n)) else (0, 0)
theorem tu_zero (hs : List Gs) (n : Nat) : rowG n (tuF hs n 0) = List.replicate n (0, 0) := by
  rw [← rowG_zero]; exact rowG_congr fun k _ => by unfold tuF; rw [if_neg (by omega)]
theorem neg_mod {n i k : Nat} (hi : i < n) (hk : k < n) : k = (n - i) % n ↔ (n - k) % n = i := by
  by_cases a : i = 0
  · subst a
    by_cases b : k = 0
    · subst b; simp
    · rw [Nat.sub_zero, Nat.mod_self, Nat.mod_eq_of_lt (by omega)]; omega
  · by_cases b : k = 0
    · subst b; rw [Nat.sub_zero, Nat.mod_self, Nat.mod_eq_of_lt (by omega)]; omega
    · rw [Nat.mod_eq_of_lt (by omega), Nat.mod_eq_of_lt (by omega)]; omega
theorem tu_set {hs : List Gs} {n i : Nat} (hi : i < n) : (rowG n (tuF hs n i)).set ((n - i) % n) (re hs i, -im hs i) = rowG n (tuF hs n (i + 1)) := by
  rw [rowG_set (Nat.mod_lt _ (by omega))]
  refine rowG_congr fun k hk => ?_
  have hh := neg_mod hi hk
  unfold tuF
  by_cases c : k = (n - i) % n
  · rw [if_pos c, hh.1 c, if_pos (by omega)]
  · rw [if_neg c]
    have d : ¬ (n - k) % n = i := fun e => c (hh.2 e)
    by_cases e : (n - k) % n < i
    · rw [if_pos e, if_pos (by omega)]
    · rw [if_neg e, if_neg (by omega)]
theorem tu_get {hs : List Gs} {n k : Nat} (hk : k < n) : re (rowG n (tuF hs n n)) k = re hs ((n - k) % n) ∧ im (rowG n (tuF hs n n)) k = -im hs ((n - k) % n) := by
  unfold re im
  rw [rowG_get hk, tuF, if_pos (Nat.mod_lt _ (by omega))]; exact ⟨rfl, rfl⟩
theorem tu_GB {hs : List Gs} {n : Nat} (h : GB (re hs) (im hs) n) : GB (re (rowG n (tuF hs n n))) (im (rowG n (tuF hs n n))) n := ⟨by
  rw [nsum_congr (g := fun k => (re hs ((n - k) % n)).natAbs + (im hs ((n - k) % n)).natAbs) n (fun k hk => by rw [(tu_get hk).1, (tu_get hk).2, Int.natAbs_neg]), nsum_neg (fun k => (re hs k).natAbs + (im hs k).natAbs) n]
  exact h.le⟩
theorem co_turn {hs : List Gs} {n k : Nat} {us vs : Nat → Int} (hk : k < n) : isum (coR n us vs (re hs) (im hs) k) n = cyc n (fR us vs (re (rowG n (tuF hs n n))) (im (rowG n (tuF hs n n)))) k ∧ isum (coI n us vs (re hs) (im hs) k) n = cyc n (fI us vs (re (rowG n (tuF hs n n))) (im (rowG n (tuF hs n n)))) k := by
  constructor
  · have h := corr_cyc (n := n) (k := k) (fun i j => gRe (us i) (vs i) (re hs j) (-im hs j)) hk
    refine h.symm.trans (isum_congr n fun i hi => ?_)
    obtain ⟨e1, e2⟩ := tu_get (hs := hs) (n := n) (k := (k + n - i) % n) (Nat.mod_lt _ (by omega))
    show gRe _ _ _ _ = gRe _ _ _ _
    rw [e1, e2]
  · have h := corr_cyc (n := n) (k := k) (fun i j => gIm (us i) (vs i) (re hs j) (-im hs j)) hk
    refine h.symm.trans (isum_congr n fun i hi => ?_)
    obtain ⟨e1, e2⟩ := tu_get (hs := hs) (n := n) (k := (k + n - i) % n) (Nat.mod_lt _ (by omega))
    show gIm _ _ _ _ = gIm _ _ _ _
    rw [e1, e2]
set_option maxRecDepth 100000 in
theorem inf64w65 : Inf Tryz.prog 64 (.agg #[.int .i64 0, .int .i64 0]) 2 16 := ⟨Tryz.t64, Tryz.type64, rfl, rfl, rfl⟩
theorem bld64_0_1w65 {v0 v1 : Value} (h : [v0, v1].all Value.oneCell' = true) (w : World) : (Instr.build 64 ([(0, v0), (1, v1)] : List (Nat × Value)).toArray).run Tryz.prog w = .ok (.agg #[v0, v1]) w := by
  simp only [List.all_cons, Bool.and_eq_true, List.all_nil, and_true] at h
  have hv0 := oneCell_cells (v := v0) (by simp_all)
  have hv1 := oneCell_cells (v := v1) (by simp_all)
  have h1 := fill_set (fun i => ([(0, 1), (1, 1)] : List (Nat × Nat))[i]?) [(0, v0), (1, v1)] [.int .i64 0, .int .i64 0] (by simp [okF, agg_cells, hv0, hv1, Nat.beq, Nat.ble])
  simp [setF, agg_cells, hv0, hv1] at h1
  simp [Instr.build, Tryz.runUnderlying64, Tryz.zeroValue64, Tryz.sizeOf3, agg_cells, h1]
set_option maxHeartbeats 2000000 in
set_option maxRecDepth 100000 in
theorem law25_cyclic (SA SB : Nat → Prop) (A B : Option Addr) (n ca cb : Nat) (gs hs : List Gs) (w : World) (sa : SlR SA w A n 2 (gVs gs)) (sb : SlR SB w B n 2 (gVs hs)) (hA : ∀ q, SA q → q < w.heap.size) (hB : ∀ q, SB q → q < w.heap.size) (hn : 1 ≤ n ∧ n ≤ 1024) (g1 : GB (re gs) (im gs) n) (g2 : GB (re hs) (im hs) n) :
    Calls Tryz.prog 33 #[.slice A n ca, .slice B n cb] w (Ret (fun v w' => ∃ q, v = .slice (some ⟨q, 0, none⟩) n n ∧ GR 64 w' (q + 1) (some ⟨q, 0, none⟩) n n (rowG n (fun k => (cyc n (fR (re gs) (im gs) (re hs) (im hs)) k, cyc n (fI (re gs) (im gs) (re hs) (im hs)) k))) ∧ w.heap.size ≤ q ∧ Ch No w w')) := by
  refine calls_of_VC (args := [.slice A n ca, .slice B n cb]) Tryz.func33 rfl Tryz.ntmps33 rfl (VC.seq (VC.region (VO.mv (Rn.assign rfl) rfl rfl rfl (VO.nil (VQ.then_code (VC.seq (VC.region ?_)))))))
  refine VO.mv (Rn.move rfl) rfl rfl rfl (VO.mv (Rn.len Tryz.underlying57 rfl) rfl rfl rfl (VO.mv (Rn.assign rfl) rfl rfl rfl (VO.nil (VQ.then_code (VC.seq (VC.region (VO.mv (Rn.move rfl) rfl rfl rfl ?_)))))))
  refine VO.wk (Wk.mkG Tryz.underlying57 inf64w65 rfl rfl (by omega) (by omega) (by omega)) rfl rfl rfl ?_
  rintro _ w1 ⟨p1, rfl, o1, c1, e1, z1⟩
  refine VO.mv (Rn.assign rfl) rfl rfl rfl (VO.nil (VQ.then_code (VC.seq (VC.seq (VC.region (VO.mv (Rn.move rfl) rfl rfl rfl (VO.mv (Rn.move rfl) rfl rfl rfl ?_)))))))
  have sa_1 := sa.keep c1
  have sb_1 := sb.keep c1
  refine VO.wk (Wk.call Tryz.call31 rfl (law25_linear _ _ _ _ n n _ _ gs hs _ sa_1 sb_1 (fun q hq => by have := hA q hq; omega) (fun q hq => by have := hB q hq; omega) ⟨by omega, by omega, by omega, by omega⟩ g1 g2)) rfl rfl rfl ?_
  rintro _ w2 ⟨q2, rfl, ln2, e2, c2⟩
  have yl2 := Ow.lt ln2
  have z2 := c2.size
  refine VO.mv (Rn.len Tryz.underlying57 rfl) rfl rfl rfl (VO.mv (Rn.move rfl) rfl rfl rfl (VO.nil (VQ.then_code (VC.block ?_))))
  have ou_2 := o1.keep c2
  have CH_2 := (Ch.refl (No) w).and (c1.trans c2)
  refine VC.loopS (σ := Nat) (fun i => [(5, .int .i64 n), (6, .slice (some ⟨p1, 0, none⟩) n n), (15, .slice (some ⟨q2, 0, none⟩) (n + n - 1) (n + n - 1)), (16, .int .i64 ((n + n - 1) : Nat)), (17, .int .i64 i)]) (fun i w' => i ≤ (n + n - 1) ∧ w2.heap.size ≤ w'.heap.size ∧ GR 64 w' (p1 + 1) (some ⟨p1, 0, none⟩) n n (rowG n (fun k => (fold n (lin n (fR (re gs) (im gs) (re hs) (im hs)) n) i k, fold n (lin n (fI (re gs) (im gs) (re hs) (im hs)) n) i k))) ∧ GR 64 w' (q2 + 1) (some ⟨q2, 0, none⟩) (n + n - 1) (n + n - 1) (rowG (n + n - 1) (fun k => (lin n (fR (re gs) (im gs) (re hs) (im hs)) n k, lin n (fI (re gs) (im gs) (re hs) (im hs)) n k))) ∧ Ch (No) w w') (fun i => (n + n - 1) - i) 0 ?_ ⟨rfl, rfl, rfl, rfl, rfl, trivial⟩ ?_
  · exact ⟨(by omega), (Nat.le_refl _), (by rw [rowG_congr (g := fun _ => (0, 0)) (fun k _ => by rw [fold_zero, fold_zero]), rowG_zero]; exact ou_2), ln2, CH_2⟩
  rintro i w3 ⟨hi, hsz3, ou_3, ln_3, CH_3⟩
  show VC _ _ _ _ [(5, .int .i64 n), (6, .slice (some ⟨p1, 0, none⟩) n n), (15, .slice (some ⟨q2, 0, none⟩) (n + n - 1) (n + n - 1)), (16, .int .i64 ((n + n - 1) : Nat)), (17, .int .i64 i)] _
  have hml := Nat.mod_lt i (show 0 < n by omega)
  have hme : (i : Int) % (n : Int) = ((i % n : Nat) : Int) := rfl
  refine VC.seq (VC.region (VO.mv (Rn.lss rfl rfl) rfl rfl rfl (VO.nil (VQ.then_code (VC.seq (VC.cond_if rfl (fun hc1 => ?_) (fun hc1 => ?_)))))))
  · skip
    refine VC.skip (VQ.then_code (VC.seq (VC.block (VC.seq (VC.region (VO.mv (Rn.move rfl) rfl rfl rfl (VO.mv (Rn.indexS Tryz.underlying57 Tryz.sizeOf64 rfl rfl (ln_3.sl.ne (by omega)) (by omega) (by omega)) rfl rfl rfl ?_)))))))
    refine VO.mv (Rn.loads Tryz.isAgg64 Tryz.sizeOf64 rfl rfl (SlR.partG (ln_3.sl) (by omega) (by omega))) rfl rfl rfl (VO.wk (Wk.alloc Tryz.zeroValue64) rfl rfl rfl ?_)
    rintro _ w4 ⟨p4, rfl, N4⟩
    have c4 := N4.ch
    have e4 := N4.p; have z4 := N4.size
    have b8 := Bk.new N4
    refine VO.mv (Rn.assign rfl) rfl rfl rfl (VO.wk0 (Wk.puts Tryz.sizeOf64 rfl rfl rfl rfl b8 (Nat.le_of_ble_eq_true rfl)) rfl rfl ?_)
    intro _ w5 Z5
    have c5 := Z5.ch; have z5 := Z5.size
    have b8_5 := Bk.put Z5
    refine VO.nil (VQ.then_code (VC.seq ?_))
    have hd2 : ((rowG n (fun k => (fold n (lin n (fR (re gs) (im gs) (re hs) (im hs)) n) i k, fold n (lin n (fI (re gs) (im gs) (re hs) (im hs)) n) i k))).getD ((i : Int) % (n : Int)).toNat (0, 0)).1 = fold n (lin n (fR (re gs) (im gs) (re hs) (im hs)) n) i (i % n) := congrArg Prod.fst (rowG_get (n := n) (f := (fun k => (fold n (lin n (fR (re gs) (im gs) (re hs) (im hs)) n) i k, fold n (lin n (fI (re gs) (im gs) (re hs) (im hs)) n) i k))) (k := i % n) hml)
    have hb1 := fold_bd (n := n) (i := i) (k := i % n) (fun k => (lin_bd g1 g2 k (Nat.le_refl n)).1)
    have hb2 := fold_bd (n := n) (i := i) (k := i % n) (fun k => (lin_bd g1 g2 k (Nat.le_refl n)).2)
    have hx0 := rowG_get (n := (n + n - 1)) (f := fun k => (lin n (fR (re gs) (im gs) (re hs) (im hs)) n k, lin n (fI (re gs) (im gs) (re hs) (im hs)) n k)) (k := i) (by omega)
    have hx1 : ((rowG (n + n - 1) (fun k => (lin n (fR (re gs) (im gs) (re hs) (im hs)) n k, lin n (fI (re gs) (im gs) (re hs) (im hs)) n k))).getD ((i : Int)).toNat (0, 0)).1 = lin n (fR (re gs) (im gs) (re hs) (im hs)) n i := congrArg Prod.fst hx0
    have hx2 : ((rowG (n + n - 1) (fun k => (lin n (fR (re gs) (im gs) (re hs) (im hs)) n k, lin n (fI (re gs) (im gs) (re hs) (im hs)) n k))).getD ((i : Int)).toNat (0, 0)).2 = lin n (fI (re gs) (im gs) (re hs) (im hs)) n i := congrArg Prod.snd hx0
    have hb3 := lin_bd g1 g2 i (Nat.le_refl n)
    refine VC.draws 12 [(0, true), (1, true), (2, true), (3, true), (4, true), (5, true), (6, true), (7, true), (8, true), (9, true), (10, true), (11, true)] (fun w1 w' => Ch (No) w1 w') mixed (by kernel_rfl) (fun _ _ => Ch.refl _ _) ?_
    intro w6 D6
    have c6 := Ch.of_drew D6; have z6 := c6.size
    have cc_3_6 : Ch No w3 w6 := ((Ch.then (E := No) c4 c5 (by intro q h1 h2; rcases h2 with h2 | h2 <;> first | exact h2 | (exfalso; omega))).and c6)
    have ou_6 := ou_3.keep cc_3_6
    have ln_6 := ln_3.keep cc_3_6
    have b8_6 := b8_5.keep c6
    refine VH.mv (fun w' hS => Rn.move rfl) rfl rfl rfl rfl (VH.mv (fun w' hS => Rn.move rfl) rfl rfl rfl rfl (VH.mv (fun w' hS => Rn.move rfl) rfl rfl rfl rfl (VH.mv (fun w' hS => Rn.rem0 rfl rfl (by omega) (by omega)) rfl rfl rfl rfl (VH.mv (fun w' hS => Rn.indexS Tryz.underlying57 Tryz.sizeOf64 rfl rfl (ou_6.sl.ne (by omega)) (by omega) (by omega)) rfl rfl rfl rfl (VH.mv (fun w' hS => Rn.fieldA Tryz.underlying64 rfl Tryz.sizeOf3 rfl rfl rfl) rfl rfl rfl rfl (VH.mv (fun w' hS => Rn.load Tryz.isAgg3 rfl (SlR.getG0 ((ou_6.keep hS).sl) (by omega) (by omega))) rfl rfl rfl rfl (VH.mv (fun w' hS => Rn.field Tryz.underlying64 rfl Tryz.sizeOf3 rfl rfl rfl) rfl rfl rfl rfl ?_)))))))
    refine VH.mv (fun w' hS => Rn.load Tryz.isAgg3 rfl ((b8_6.keep hS).cell rfl)) rfl rfl rfl rfl ?_
    refine VH.mv (fun w' hS => Rn.add rfl rfl (by rw [IntKind.wrap_i64]; omega)) rfl rfl rfl rfl ?_
    refine VH.mv (fun w' hS => Rn.indexS Tryz.underlying57 Tryz.sizeOf64 rfl rfl (ou_6.sl.ne (by omega)) (by omega) (by omega)) rfl rfl rfl rfl (VH.mv (fun w' hS => Rn.fieldA Tryz.underlying64 rfl Tryz.sizeOf3 rfl rfl rfl) rfl rfl rfl rfl (VH.done (VO.wk0 (Wk.putG0 Tryz.sizeOf3 rfl rfl (by omega) ou_6) rfl rfl ?_)))
    rintro _ w7 ⟨o7, c7, z7⟩
    have y7 := Ow.lt o7
    refine VO.nil (VQ.noPanic (VQ.then_code ?_))
    have ou9 : GR 64 w7 (p1 + 1) (some ⟨p1, 0, none⟩) n n (rowG n (fun k => (fold n (lin n (fR (re gs) (im gs) (re hs) (im hs)) n) (i + 1) k, fold n (lin n (fI (re gs) (im gs) (re hs) (im hs)) n) i k))) := by have h9 := o7; rw [hx1] at h9; rw [← fold_set1 (n := n) (i := i) (L := (lin n (fR (re gs) (im gs) (re hs) (im hs)) n)) (G := fun k => fold n (lin n (fI (re gs) (im gs) (re hs) (im hs)) n) i k) (show i < 2 * n by omega) (by omega) rfl]; exact h9
    have hd4 : ((rowG n (fun k => (fold n (lin n (fR (re gs) (im gs) (re hs) (im hs)) n) (i + 1) k, fold n (lin n (fI (re gs) (im gs) (re hs) (im hs)) n) i k))).getD ((i : Int) % (n : Int)).toNat (0, 0)).2 = fold n (lin n (fI (re gs) (im gs) (re hs) (im hs)) n) i (i % n) := congrArg Prod.snd (rowG_get (n := n) (f := (fun k => (fold n (lin n (fR (re gs) (im gs) (re hs) (im hs)) n) (i + 1) k, fold n (lin n (fI (re gs) (im gs) (re hs) (im hs)) n) i k))) (k := i % n) hml)
    refine VC.draws 12 [(0, true), (1, true), (2, true), (3, true), (4, true), (5, true), (6, true), (7, true), (8, true), (9, true), (10, true), (11, true)] (fun w1 w' => Ch (No) w1 w') mixed (by kernel_rfl) (fun _ _ => Ch.refl _ _) ?_
    intro w8 D8
    have c8 := Ch.of_drew D8; have z8 := c8.size
    have ou_8 := ou9.keep c8
    have ln_7 := ln_6.to c7 (by first | exact fun _ _ _ _ => id | (intro q h1 h2 hx h3; omega))
    have ln_8 := ln_7.keep c8
    have b8_7 := b8_6.to c7 (by first | exact id | omega)
    have b8_8 := b8_7.keep c8
    refine VH.mv (fun w' hS => Rn.move rfl) rfl rfl rfl rfl (VH.mv (fun w' hS => Rn.move rfl) rfl rfl rfl rfl (VH.mv (fun w' hS => Rn.move rfl) rfl rfl rfl rfl (VH.mv (fun w' hS => Rn.rem0 rfl rfl (by omega) (by omega)) rfl rfl rfl rfl (VH.mv (fun w' hS => Rn.indexS Tryz.underlying57 Tryz.sizeOf64 rfl rfl (ou_8.sl.ne (by omega)) (by omega) (by omega)) rfl rfl rfl rfl (VH.mv (fun w' hS => Rn.fieldA Tryz.underlying64 rfl Tryz.sizeOf3 rfl rfl rfl) rfl rfl rfl rfl (VH.mv (fun w' hS => Rn.load Tryz.isAgg3 rfl (SlR.getG1 ((ou_8.keep hS).sl) (by omega) (by omega))) rfl rfl rfl rfl (VH.mv (fun w' hS => Rn.field Tryz.underlying64 rfl Tryz.sizeOf3 rfl rfl rfl) rfl rfl rfl rfl ?_)))))))
    refine VH.mv (fun w' hS => Rn.load Tryz.isAgg3 rfl ((b8_8.keep hS).cell rfl)) rfl rfl rfl rfl ?_
    refine VH.mv (fun w' hS => Rn.add rfl rfl (by rw [IntKind.wrap_i64]; omega)) rfl rfl rfl rfl ?_
    refine VH.mv (fun w' hS => Rn.indexS Tryz.underlying57 Tryz.sizeOf64 rfl rfl (ou_8.sl.ne (by omega)) (by omega) (by omega)) rfl rfl rfl rfl (VH.mv (fun w' hS => Rn.fieldA Tryz.underlying64 rfl Tryz.sizeOf3 rfl rfl rfl) rfl rfl rfl rfl (VH.done (VO.wk0 (Wk.putG1 Tryz.sizeOf3 rfl rfl (by omega) ou_8) rfl rfl ?_)))
    rintro _ w9 ⟨o9, c9, z9⟩
    have y9 := Ow.lt o9
    refine VO.nil (VQ.noPanic (VQ.block_normal (VQ.then_code (VC.region ?_))))
    refine VO.mv (Rn.add rfl rfl (by rw [IntKind.wrap_i64]; omega)) rfl rfl rfl ?_
    refine VO.mv (Rn.move rfl) rfl rfl rfl (VO.nil ?_)
    refine VQ.round (i + 1) (by first | omega | (dsimp only; omega)) ?_ ⟨rfl, rfl, rfl, rfl, rfl, trivial⟩
    have ln_9 := ln_8.to c9 (by first | exact fun _ _ _ _ => id | (intro q h1 h2 hx h3; omega))
    have CH_6 := CH_3.and cc_3_6
    have CH_7 : Ch (No) w w7 := CH_6.then c7 (by intro q h1 h2; rcases h2 with h2 | h2 <;> first | exact h2 | (exfalso; omega) | omega)
    have CH_8 := CH_7.and c8
    have CH_9 : Ch (No) w w9 := CH_8.then c9 (by intro q h1 h2; rcases h2 with h2 | h2 <;> first | exact h2 | (exfalso; omega) | omega)
    exact ⟨(by omega), (by omega), (by have h9 := o9; rw [hx2] at h9; rw [← fold_set2 (n := n) (i := i) (L := (lin n (fI (re gs) (im gs) (re hs) (im hs)) n)) (G := fun k => fold n (lin n (fR (re gs) (im gs) (re hs) (im hs)) n) (i + 1) k) (show i < 2 * n by omega) (by omega) rfl]; exact h9), ln_9, CH_9⟩
  · skip
    refine VC.exit (VQ.then_exit (VQ.then_exit (VQ.block_exit (VQ.then_code (VC.seq (VC.region (VO.mv (Rn.move rfl) rfl rfl rfl ?_)))))))
    refine VO.mv (Rn.assign rfl) rfl rfl rfl (VO.nil (VQ.then_code (VC.ret (VQ.ret1 rfl rfl (Ret.mk ?_)))))
    obtain rfl : i = (n + n - 1) := by omega
    have o9 := ou_3; rw [rowG_congr (g := fun k => (cyc n (fR (re gs) (im gs) (re hs) (im hs)) k, cyc n (fI (re gs) (im gs) (re hs) (im hs)) k)) (fun k hk => by rw [show n + n - 1 = 2 * n - 1 by omega, fold_end _ hk, fold_end _ hk])] at o9
    exact ⟨_, rfl, o9, by omega, CH_3⟩
set_option maxHeartbeats 4000000 in
set_option maxRecDepth 100000 in
theorem law_RingWhole (SX : Nat → Prop) (X Y : Option Addr) (m m2 xc yc : Nat) (ls qs : List Int) (w : World) (sx : SlR SX w X m 1 (ls.map IV)) (sy : SlR SX w Y m2 1 (qs.map IV)) (hX : ∀ q, SX q → q < w.heap.size) (hm : m ≤ 9223372036854775807) (hm2 : m2 ≤ 9223372036854775807) (hcx : m ≤ xc) (hcy : m2 ≤ yc) (st : StT w) (tab : TabB w.heap.size w) (hG : 12 ≤ w.heap.size) :
    Calls Tryz.prog 6 #[.slice X m xc, .slice Y m2 yc] w (Ret (fun v w' => v = .bool true ∧ Ch No w w')) := by
  refine calls_of_VC (args := [.slice X m xc, .slice Y m2 yc]) Tryz.func6 rfl Tryz.ntmps6 rfl (VC.seq (VC.region (VO.mv (Rn.assign rfl) rfl rfl rfl (VO.nil (VQ.then_code (VC.seq (VC.region ?_)))))))
  refine VO.wk (Wk.call Tryz.call27 rfl (law25_lives _ st ((tab).up (by omega)) (by omega))) rfl rfl rfl ?_
  rintro _ w1 ⟨rfl, c1⟩
  have z1 := c1.size
  refine VO.mv (Rn.assign rfl) rfl rfl rfl (VO.nil (VQ.then_code (VC.seq (VC.seq (VC.region (VO.mv (Rn.move rfl) rfl rfl rfl (VO.mv (Rn.not rfl) rfl rfl rfl ?_)))))))
  refine VO.mv (Rn.move rfl) rfl rfl rfl (VO.mv (Rn.move rfl) rfl rfl rfl (VO.mv (Rn.len Tryz.underlying36 rfl) rfl rfl rfl (VO.mv (Rn.lss rfl rfl) rfl rfl rfl (VO.mv (Rn.pick_false rfl rfl) rfl rfl rfl (VO.mv (Rn.move rfl) rfl rfl rfl ?_)))))
  refine VO.orJoin (b := _) 4 28 32 rfl (fun hc1 Jhc1 => by
      refine VO.skip rfl rfl rfl (VO.skip rfl rfl rfl (VO.skip rfl rfl rfl (VO.mv (Rn.pick_true rfl rfl) rfl rfl rfl ?_)))
      exact (VO.fg rfl (VO.fg rfl (VO.fg rfl Jhc1)))) (fun hc1 Jhc1 => by
      try simp only [Bool.and_eq_true, Bool.or_eq_true, Bool.not_eq_true', Bool.not_eq_false', Bool.and_eq_false_iff, Bool.or_eq_false_iff, decide_eq_true_eq, decide_eq_false_iff_not] at hc1
      refine VO.mv (Rn.move rfl) rfl rfl rfl (VO.mv (Rn.len Tryz.underlying36 rfl) rfl rfl rfl (VO.mv (Rn.gtr rfl rfl) rfl rfl rfl (VO.mv (Rn.pick_false rfl rfl) rfl rfl rfl ?_)))
      exact (VO.fg rfl (VO.fg rfl (VO.fg rfl Jhc1)))) ?_
  refine VO.mv (Rn.move rfl) rfl rfl rfl ?_
  refine VO.orJoin (b := _) 6 33 39 rfl (fun hc2 Jhc2 => by
      refine VO.skip rfl rfl rfl (VO.skip rfl rfl rfl (VO.skip rfl rfl rfl (VO.skip rfl rfl rfl (VO.skip rfl rfl rfl (VO.mv (Rn.pick_true rfl rfl) rfl rfl rfl ?_)))))
      exact (VO.fg rfl (VO.fg rfl (VO.fg rfl (VO.fg rfl (VO.fg rfl Jhc2)))))) (fun hc2 Jhc2 => by
      try simp only [Bool.and_eq_true, Bool.or_eq_true, Bool.not_eq_true', Bool.not_eq_false', Bool.and_eq_false_iff, Bool.or_eq_false_iff, decide_eq_true_eq, decide_eq_false_iff_not] at hc2
      refine VO.mv (Rn.move rfl) rfl rfl rfl (VO.mv (Rn.len Tryz.underlying36 rfl) rfl rfl rfl (VO.mv (Rn.move rfl) rfl rfl rfl (VO.mv (Rn.len Tryz.underlying36 rfl) rfl rfl rfl (VO.mv (Rn.lss rfl rfl) rfl rfl rfl (VO.mv (Rn.pick_false rfl rfl) rfl rfl rfl ?_)))))
      exact (VO.fg rfl (VO.fg rfl (VO.fg rfl (VO.fg rfl (VO.fg rfl Jhc2)))))) ?_
  refine VO.nil (VQ.then_code (VC.cond rfl (fun hc3 => ?_) (fun hc3 => ?_)))
  · skip
    try simp only [Bool.and_eq_true, Bool.or_eq_true, Bool.not_eq_true', Bool.not_eq_false', Bool.and_eq_false_iff, Bool.or_eq_false_iff, decide_eq_true_eq, decide_eq_false_iff_not] at hc3
    refine VC.seq (VC.region (VO.mv (Rn.move rfl) rfl rfl rfl (VO.mv (Rn.assign rfl) rfl rfl rfl (VO.nil (VQ.then_code (VC.ret (VQ.then_ret ?_)))))))
    refine VQ.ret1 rfl rfl (Ret.mk ?_)
    have CH_1 := (Ch.refl (No) w).and c1
    exact ⟨rfl, CH_1⟩
  · skip
    try simp only [Bool.and_eq_true, Bool.or_eq_true, Bool.not_eq_true', Bool.not_eq_false', Bool.and_eq_false_iff, Bool.or_eq_false_iff, decide_eq_true_eq, decide_eq_false_iff_not] at hc3
    refine VC.skip (VQ.then_code (VC.seq (VC.region (VO.mv (Rn.move rfl) rfl rfl rfl ?_))))
    have sx_1 := sx.keep c1
    refine VO.wk (Wk.call Tryz.call28 rfl (law25_whole _ _ m _ ls _ sx_1 (fun q hq => by have := hX q hq; omega) (by omega))) rfl rfl rfl ?_
    rintro _ w2 ⟨ra2, Aa2, ca2, rb2, Ab2, cb2, rfl, ga2, xa2, ya2, yb2, c2⟩
    have yg2 := Ow.lt ga2; have yx2 := Ow.lt xa2
    have z2 := c2.size
    refine VO.mv (Rn.move rfl) rfl rfl rfl (VO.mv (Rn.extract rfl rfl) rfl rfl rfl (VO.mv (Rn.extract rfl rfl) rfl rfl rfl (VO.mv (Rn.extract rfl rfl) rfl rfl rfl (VO.mv (Rn.assign rfl) rfl rfl rfl (VO.mv (Rn.assign rfl) rfl rfl rfl (VO.mv (Rn.assign rfl) rfl rfl rfl (VO.nil ?_)))))))
    refine VQ.then_code (VC.seq ?_)
    have sy_2 := sy.keep (c1.trans c2)
    have sq := (sy_2).hiI (i := m) (by omega)
    refine VC.region (VO.mv (Rn.move rfl) rfl rfl rfl (VO.mv (Rn.move rfl) rfl rfl rfl (VO.mv (Rn.len Tryz.underlying36 rfl) rfl rfl rfl (VO.mv (Rn.sliceHi Tryz.underlying36 Tryz.sizeOf3 rfl rfl (by omega) (by omega)) rfl rfl rfl ?_))))
    refine VO.wk (Wk.call Tryz.call28 rfl (law25_whole _ _ m _ (qs.take m) _ sq (fun q hq => by have := hX q hq; omega) (by omega))) rfl rfl rfl ?_
    rintro _ w3 ⟨ra3, Aa3, ca3, rb3, Ab3, cb3, rfl, gb3, xb3, ya3, yb3, c3⟩
    have yg3 := Ow.lt gb3; have yx3 := Ow.lt xb3
    have z3 := c3.size
    refine VO.mv (Rn.move rfl) rfl rfl rfl (VO.mv (Rn.extract rfl rfl) rfl rfl rfl (VO.mv (Rn.extract rfl rfl) rfl rfl rfl (VO.mv (Rn.extract rfl rfl) rfl rfl rfl (VO.mv (Rn.assign rfl) rfl rfl rfl (VO.mv (Rn.assign rfl) rfl rfl rfl (VO.mv (Rn.assign rfl) rfl rfl rfl (VO.nil ?_)))))))
    refine VQ.then_code (VC.seq (VC.seq (VC.region (VO.mv (Rn.move rfl) rfl rfl rfl (VO.mv (Rn.gtr rfl rfl) rfl rfl rfl (VO.mv (Rn.move rfl) rfl rfl rfl ?_))))))
    refine VO.orJoin (b := _) 3 58 61 rfl (fun hc4 Jhc4 => by
        refine VO.skip rfl rfl rfl (VO.skip rfl rfl rfl (VO.mv (Rn.pick_true rfl rfl) rfl rfl rfl ?_))
        exact (VO.fg rfl (VO.fg rfl Jhc4))) (fun hc4 Jhc4 => by
        try simp only [Bool.and_eq_true, Bool.or_eq_true, Bool.not_eq_true', Bool.not_eq_false', Bool.and_eq_false_iff, Bool.or_eq_false_iff, decide_eq_true_eq, decide_eq_false_iff_not] at hc4
        refine VO.mv (Rn.move rfl) rfl rfl rfl (VO.mv (Rn.gtr rfl rfl) rfl rfl rfl (VO.mv (Rn.pick_false rfl rfl) rfl rfl rfl ?_))
        exact (VO.fg rfl (VO.fg rfl Jhc4))) ?_
    refine VO.nil (VQ.then_code (VC.cond rfl (fun hc5 => ?_) (fun hc5 => ?_)))
    · skip
      try simp only [Bool.and_eq_true, Bool.or_eq_true, Bool.not_eq_true', Bool.not_eq_false', Bool.and_eq_false_iff, Bool.or_eq_false_iff, decide_eq_true_eq, decide_eq_false_iff_not] at hc5
      refine VC.seq (VC.region (VO.mv (Rn.assign rfl) rfl rfl rfl (VO.nil (VQ.then_code (VC.ret (VQ.then_ret (VQ.ret1 rfl rfl ?_)))))))
      refine Ret.mk ?_
      have CH_3 := (Ch.refl (No) w).and (c1.trans (c2.trans c3))
      exact ⟨rfl, CH_3⟩
    · skip
      try simp only [Bool.and_eq_true, Bool.or_eq_true, Bool.not_eq_true', Bool.not_eq_false', Bool.and_eq_false_iff, Bool.or_eq_false_iff, decide_eq_true_eq, decide_eq_false_iff_not] at hc5
      refine VC.skip (VQ.then_code (VC.seq ?_))
      have g1 := gsM_GB (ls := ls) (h := m / 2) (by omega)
      have g2 := gsM_GB (ls := qs.take m) (h := m / 2) (by omega)
      have hu1 := csM_WhU ls (m / 2)
      have hu2 := csM_WhU (qs.take m) (m / 2)
      have hn1 : 1 ≤ m / 2 ∧ m / 2 ≤ 1024 := by omega
      refine VC.region (VO.mv (Rn.move rfl) rfl rfl rfl (VO.mv (Rn.move rfl) rfl rfl rfl ?_))
      have xa_3 := xa2.keep c3
      refine VO.wk (Wk.call Tryz.call29 rfl (ring_Linear _ _ _ _ (m / 2) (m / 2) _ _ _ _ _ _ _ _ _ (xa_3).sl (xb3).sl (fun q hq => by have := Ow.lt xa_3; omega) (fun q hq => by have := Ow.lt xb3; omega) ⟨by omega, by omega, by omega, by omega⟩ hu1 hu2 g1 g2)) rfl rfl rfl ?_
      rintro _ w4 ⟨q4, os_rL1, rfl, rL14, ho_rL1, e4, c4⟩
      have yc4 := Ow.lt rL14
      have z4 := c4.size
      refine VO.mv (Rn.move rfl) rfl rfl rfl (VO.mv (Rn.extract rfl rfl) rfl rfl rfl (VO.mv (Rn.extract rfl rfl) rfl rfl rfl (VO.mv (Rn.assign rfl) rfl rfl rfl (VO.mv (Rn.assign rfl) rfl rfl rfl (VO.nil (VQ.then_code (VC.seq ?_)))))))
      refine VC.region (VO.mv (Rn.move rfl) rfl rfl rfl (VO.mv (Rn.move rfl) rfl rfl rfl ?_))
      have xb_4 := xb3.keep c4
      have xa_4 := xa_3.keep c4
      refine VO.wk (Wk.call Tryz.call29 rfl (ring_Linear _ _ _ _ (m / 2) (m / 2) _ _ _ _ _ _ _ _ _ (xb_4).sl (xa_4).sl (fun q hq => by have := Ow.lt xb_4; omega) (fun q hq => by have := Ow.lt xa_4; omega) ⟨by omega, by omega, by omega, by omega⟩ hu2 hu1 g2 g1)) rfl rfl rfl ?_
      rintro _ w5 ⟨q5, os_rL2, rfl, rL25, ho_rL2, e5, c5⟩
      have yc5 := Ow.lt rL25
      have z5 := c5.size
      refine VO.mv (Rn.move rfl) rfl rfl rfl (VO.mv (Rn.extract rfl rfl) rfl rfl rfl (VO.mv (Rn.extract rfl rfl) rfl rfl rfl (VO.mv (Rn.assign rfl) rfl rfl rfl (VO.mv (Rn.assign rfl) rfl rfl rfl (VO.nil (VQ.then_code (VC.seq ?_)))))))
      refine VC.seq (VC.region (VO.mv (Rn.move rfl) rfl rfl rfl (VO.mv (Rn.nil_neq_nil Tryz.underlying29 rfl) rfl rfl rfl (VO.mv (Rn.move rfl) rfl rfl rfl (VO.mv (Rn.move rfl) rfl rfl rfl (VO.mv (Rn.nil_neq_nil Tryz.underlying29 rfl) rfl rfl rfl (VO.mv (Rn.pick_false rfl rfl) rfl rfl rfl ?_)))))))
      refine VO.mv (Rn.move rfl) rfl rfl rfl (VO.mv (Rn.move rfl) rfl rfl rfl (VO.mv (Rn.move rfl) rfl rfl rfl (VO.mv (Rn.move rfl) rfl rfl rfl ?_)))
      have ga_5 := ga2.keep (c3.trans (c4.trans c5))
      have gb_5 := gb3.keep (c4.trans c5)
      refine VO.wk (Wk.call Tryz.call31 rfl (law25_linear _ _ _ _ (m / 2) (m / 2) _ _ _ _ _ (ga_5).sl (gb_5).sl (fun q hq => by have := Ow.lt ga_5; omega) (fun q hq => by have := Ow.lt gb_5; omega) ⟨by omega, by omega, by omega, by omega⟩ g1 g2)) rfl rfl rfl ?_
      rintro _ w6 ⟨q6, rfl, ln6, e6, c6⟩
      have yl6 := Ow.lt ln6
      have z6 := c6.size
      have rL1_6 := rL14.keep (c5.trans c6)
      refine VO.wk (Wk.call Tryz.call30 rfl (law25_is _ _ _ _ (m / 2 + m / 2 - 1) _ _ _ _ _ (rL1_6).sl (ln6).sl (by omega) (WhU.row (f := fun k => (lin (m / 2) (fR (re (gsM ls (m / 2))) (im (gsM ls (m / 2))) (re (gsM (qs.take m) (m / 2))) (im (gsM (qs.take m) (m / 2)))) (m / 2) k, lin (m / 2) (fI (re (gsM ls (m / 2))) (im (gsM ls (m / 2))) (re (gsM (qs.take m) (m / 2))) (im (gsM (qs.take m) (m / 2)))) (m / 2) k)) ho_rL1) (row_sm (fun k _ => lin_sm g1 g2 k)))) rfl rfl rfl ?_
      rintro _ w7 ⟨rfl, c7⟩
      have z7 := c7.size
      refine VO.mv (Rn.not rfl) rfl rfl rfl (VO.mv (Rn.pick_false rfl rfl) rfl rfl rfl (VO.mv (Rn.move rfl) rfl rfl rfl (VO.mv (Rn.move rfl) rfl rfl rfl (VO.mv (Rn.move rfl) rfl rfl rfl ?_))))
      have rL1_7 := rL1_6.keep c7
      have rL2_7 := rL25.keep (c6.trans c7)
      refine VO.wk (Wk.call Tryz.call19 rfl (hand_Equal _ _ _ _ (m / 2 + m / 2 - 1) (m / 2 + m / 2 - 1) _ _ _ _ _ (rL1_7).sl (rL2_7).sl rfl (by omega) (WhU.eqs ho_rL1 (ho_rL2.cast fun k _ => lin_swap k (by omega)) (fun k _ => lin_sm g1 g2 k)))) rfl rfl rfl ?_
      rintro _ w8 ⟨rfl, c8⟩
      have z8 := c8.size
      refine VO.mv (Rn.not rfl) rfl rfl rfl (VO.mv (Rn.pick_false rfl rfl) rfl rfl rfl (VO.nil (VQ.then_code (VC.cond_false rfl (VC.skip (VQ.then_code (VC.seq ?_)))))))
      refine VC.region (VO.mv (Rn.move rfl) rfl rfl rfl (VO.mv (Rn.move rfl) rfl rfl rfl ?_))
      have xa_8 := xa_4.keep (c5.trans (c6.trans (c7.trans c8)))
      have xb_8 := xb_4.keep (c5.trans (c6.trans (c7.trans c8)))
      refine VO.wk (Wk.call Tryz.call32 rfl (ring_Cyclic _ _ _ _ (m / 2) _ _ _ _ _ _ _ _ _ (xa_8).sl (xb_8).sl (fun q hq => by have := Ow.lt xa_8; omega) (fun q hq => by have := Ow.lt xb_8; omega) hn1 hu1 hu2 g1 g2)) rfl rfl rfl ?_
      rintro _ w9 ⟨q9, os_rC1, rfl, rC19, ho_rC1, e9, c9⟩
      have yc9 := Ow.lt rC19
      have z9 := c9.size
      refine VO.mv (Rn.move rfl) rfl rfl rfl (VO.mv (Rn.extract rfl rfl) rfl rfl rfl (VO.mv (Rn.extract rfl rfl) rfl rfl rfl (VO.mv (Rn.assign rfl) rfl rfl rfl (VO.mv (Rn.assign rfl) rfl rfl rfl (VO.nil (VQ.then_code (VC.seq ?_)))))))
      refine VC.region (VO.mv (Rn.move rfl) rfl rfl rfl (VO.mv (Rn.move rfl) rfl rfl rfl ?_))
      have xb_9 := xb_8.keep c9
      have xa_9 := xa_8.keep c9
      refine VO.wk (Wk.call Tryz.call32 rfl (ring_Cyclic _ _ _ _ (m / 2) _ _ _ _ _ _ _ _ _ (xb_9).sl (xa_9).sl (fun q hq => by have := Ow.lt xb_9; omega) (fun q hq => by have := Ow.lt xa_9; omega) hn1 hu2 hu1 g2 g1)) rfl rfl rfl ?_
      rintro _ w10 ⟨q10, os_rC2, rfl, rC210, ho_rC2, e10, c10⟩
      have yc10 := Ow.lt rC210
      have z10 := c10.size
      refine VO.mv (Rn.move rfl) rfl rfl rfl (VO.mv (Rn.extract rfl rfl) rfl rfl rfl (VO.mv (Rn.extract rfl rfl) rfl rfl rfl (VO.mv (Rn.assign rfl) rfl rfl rfl (VO.mv (Rn.assign rfl) rfl rfl rfl (VO.nil (VQ.then_code (VC.seq ?_)))))))
      refine VC.seq (VC.region (VO.mv (Rn.move rfl) rfl rfl rfl (VO.mv (Rn.nil_neq_nil Tryz.underlying29 rfl) rfl rfl rfl (VO.mv (Rn.move rfl) rfl rfl rfl (VO.mv (Rn.move rfl) rfl rfl rfl (VO.mv (Rn.nil_neq_nil Tryz.underlying29 rfl) rfl rfl rfl (VO.mv (Rn.pick_false rfl rfl) rfl rfl rfl ?_)))))))
      refine VO.mv (Rn.move rfl) rfl rfl rfl (VO.mv (Rn.move rfl) rfl rfl rfl (VO.mv (Rn.move rfl) rfl rfl rfl (VO.mv (Rn.move rfl) rfl rfl rfl ?_)))
      have ga_10 := ga_5.keep (c6.trans (c7.trans (c8.trans (c9.trans c10))))
      have gb_10 := gb_5.keep (c6.trans (c7.trans (c8.trans (c9.trans c10))))
      refine VO.wk (Wk.call Tryz.call33 rfl (law25_cyclic _ _ _ _ (m / 2) _ _ _ _ _ (ga_10).sl (gb_10).sl (fun q hq => by have := Ow.lt ga_10; omega) (fun q hq => by have := Ow.lt gb_10; omega) hn1 g1 g2)) rfl rfl rfl ?_
      rintro _ w11 ⟨q11, rfl, lc111, e11, c11⟩
      have yl11 := Ow.lt lc111
      have z11 := c11.size
      have rC1_11 := rC19.keep (c10.trans c11)
      refine VO.wk (Wk.call Tryz.call30 rfl (law25_is _ _ _ _ (m / 2) _ _ _ _ _ (rC1_11).sl (lc111).sl (by omega) (WhU.row (f := fun k => (cyc (m / 2) (fR (re (gsM ls (m / 2))) (im (gsM ls (m / 2))) (re (gsM (qs.take m) (m / 2))) (im (gsM (qs.take m) (m / 2)))) k, cyc (m / 2) (fI (re (gsM ls (m / 2))) (im (gsM ls (m / 2))) (re (gsM (qs.take m) (m / 2))) (im (gsM (qs.take m) (m / 2)))) k)) ho_rC1) (row_sm (fun k hk => cyc_sm g1 g2 k hk)))) rfl rfl rfl ?_
      rintro _ w12 ⟨rfl, c12⟩
      have z12 := c12.size
      refine VO.mv (Rn.not rfl) rfl rfl rfl (VO.mv (Rn.pick_false rfl rfl) rfl rfl rfl (VO.mv (Rn.move rfl) rfl rfl rfl (VO.mv (Rn.move rfl) rfl rfl rfl (VO.mv (Rn.move rfl) rfl rfl rfl ?_))))
      have rC1_12 := rC1_11.keep c12
      have rC2_12 := rC210.keep (c11.trans c12)
      refine VO.wk (Wk.call Tryz.call19 rfl (hand_Equal _ _ _ _ (m / 2) (m / 2) _ _ _ _ _ (rC1_12).sl (rC2_12).sl rfl (by omega) (WhU.eqs (f := cyc (m / 2) (fR (re (gsM ls (m / 2))) (im (gsM ls (m / 2))) (re (gsM (qs.take m) (m / 2))) (im (gsM (qs.take m) (m / 2))))) (g := cyc (m / 2) (fI (re (gsM ls (m / 2))) (im (gsM ls (m / 2))) (re (gsM (qs.take m) (m / 2))) (im (gsM (qs.take m) (m / 2))))) ho_rC1 (ho_rC2.cast fun k hk => cyc_swap hk) (fun k hk => cyc_sm g1 g2 k hk)))) rfl rfl rfl ?_
      rintro _ w13 ⟨rfl, c13⟩
      have z13 := c13.size
      refine VO.mv (Rn.not rfl) rfl rfl rfl (VO.mv (Rn.pick_false rfl rfl) rfl rfl rfl (VO.nil (VQ.then_code (VC.cond_false rfl (VC.skip (VQ.then_code (VC.seq ?_)))))))
      refine VC.region (VO.mv (Rn.move rfl) rfl rfl rfl (VO.mv (Rn.len Tryz.underlying57 rfl) rfl rfl rfl (VO.mv (Rn.assign rfl) rfl rfl rfl (VO.nil (VQ.then_code (VC.seq (VC.region ?_)))))))
      refine VO.mv (Rn.move rfl) rfl rfl rfl (VO.wk (Wk.mkG Tryz.underlying57 inf64w65 rfl rfl (by omega) (by omega) (by omega)) rfl rfl rfl ?_)
      rintro _ w14 ⟨p14, rfl, o14, c14, e14, z14⟩
      refine VO.mv (Rn.assign rfl) rfl rfl rfl (VO.nil (VQ.then_code (VC.seq (VC.seq (VC.region (VO.mv (Rn.move rfl) rfl rfl rfl (VO.mv (Rn.len Tryz.underlying57 rfl) rfl rfl rfl ?_)))))))
      refine VO.mv (Rn.move rfl) rfl rfl rfl (VO.nil (VQ.then_code (VC.block ?_)))
      have ga_14 := ga_10.keep (c11.trans (c12.trans (c13.trans c14)))
      have gb_14 := gb_10.keep (c11.trans (c12.trans (c13.trans c14)))
      have xa_14 := xa_9.keep (c10.trans (c11.trans (c12.trans (c13.trans c14))))
      have xb_14 := xb_9.keep (c10.trans (c11.trans (c12.trans (c13.trans c14))))
      have CH_14 := (Ch.refl (No) w).and (c1.trans (c2.trans (c3.trans (c4.trans (c5.trans (c6.trans (c7.trans (c8.trans (c9.trans (c10.trans (c11.trans (c12.trans (c13.trans c14)))))))))))))
      refine VC.loopS (σ := Nat) (fun i => [(6, .slice Aa2 (m / 2) ca2), (7, .slice Ab2 (m / 2) cb2), (10, .slice Ab3 (m / 2) cb3), (16, .int .i64 ((m / 2) : Nat)), (17, .slice (some ⟨p14, 0, none⟩) (m / 2) (m / 2)), (130, .slice Aa3 (m / 2) ca3), (131, .int .i64 ((m / 2) : Nat)), (132, .int .i64 i)]) (fun i w' => i ≤ (m / 2) ∧ w14.heap.size ≤ w'.heap.size ∧ GR 64 w' (p14 + 1) (some ⟨p14, 0, none⟩) (m / 2) (m / 2) (rowG (m / 2) (tuF (gsM (qs.take m) (m / 2)) (m / 2) i)) ∧ GR 64 w' ra2 Aa2 (m / 2) ca2 (gsM ls (m / 2)) ∧ GR 64 w' ra3 Aa3 (m / 2) ca3 (gsM (qs.take m) (m / 2)) ∧ CR 53 w' rb2 Ab2 (m / 2) cb2 (csM ls (m / 2)) ∧ CR 53 w' rb3 Ab3 (m / 2) cb3 (csM (qs.take m) (m / 2)) ∧ Ch (No) w w') (fun i => (m / 2) - i) 0 ?_ ⟨rfl, rfl, rfl, rfl, rfl, rfl, rfl, rfl, trivial⟩ ?_
      · exact ⟨(by omega), (Nat.le_refl _), (by rw [tu_zero]; exact o14), ga_14, gb_14, xa_14, xb_14, CH_14⟩
      rintro i w15 ⟨hi, hsz15, tu_15, ga_15, gb_15, xa_15, xb_15, CH_15⟩
      show VC _ _ _ _ [(6, .slice Aa2 (m / 2) ca2), (7, .slice Ab2 (m / 2) cb2), (10, .slice Ab3 (m / 2) cb3), (16, .int .i64 ((m / 2) : Nat)), (17, .slice (some ⟨p14, 0, none⟩) (m / 2) (m / 2)), (130, .slice Aa3 (m / 2) ca3), (131, .int .i64 ((m / 2) : Nat)), (132, .int .i64 i)] _
      have hml := Nat.mod_lt (m / 2 - i) (show 0 < m / 2 by omega)
      have hme : i ≤ m / 2 → ((m / 2 : Nat) - (i : Int)) % ((m / 2 : Nat) : Int) = (((m / 2 - i) % (m / 2) : Nat) : Int) := fun h => by rw [← Int.ofNat_sub h]; rfl
      refine VC.seq (VC.region (VO.mv (Rn.lss rfl rfl) rfl rfl rfl (VO.nil (VQ.then_code (VC.seq (VC.cond_if rfl (fun hc6 => ?_) (fun hc6 => ?_)))))))
      · skip
        refine VC.skip (VQ.then_code (VC.seq (VC.block (VC.seq (VC.region (VO.mv (Rn.move rfl) rfl rfl rfl (VO.mv (Rn.indexS Tryz.underlying57 Tryz.sizeOf64 rfl rfl (gb_15.sl.ne (by omega)) (by omega) (by omega)) rfl rfl rfl ?_)))))))
        refine VO.mv (Rn.loads Tryz.isAgg64 Tryz.sizeOf64 rfl rfl (SlR.partG (gb_15.sl) (by omega) (by omega))) rfl rfl rfl (VO.wk (Wk.alloc Tryz.zeroValue64) rfl rfl rfl ?_)
        rintro _ w16 ⟨p16, rfl, N16⟩
        have c16 := N16.ch
        have e16 := N16.p; have z16 := N16.size
        have b19 := Bk.new N16
        refine VO.mv (Rn.assign rfl) rfl rfl rfl (VO.wk0 (Wk.puts Tryz.sizeOf64 rfl rfl rfl rfl b19 (Nat.le_of_ble_eq_true rfl)) rfl rfl ?_)
        intro _ w17 Z17
        have c17 := Z17.ch; have z17 := Z17.size
        have b19_17 := Bk.put Z17
        refine VO.nil (VQ.then_code ?_)
        have hbi : ((gsM (qs.take m) (m / 2)).getD ((i : Int)).toNat (0, 0)).2.natAbs ≤ 33554432 := by have := g2.el (j := i) (by omega); show (im (gsM (qs.take m) (m / 2)) i).natAbs ≤ _; omega
        refine VC.draws 13 [(0, true), (1, true), (2, true), (3, true), (4, true), (5, true), (6, true), (7, true), (8, true), (9, true), (10, true), (11, true), (12, true)] (fun w1 w' => Ch (No) w1 w') mixed (by kernel_rfl) (fun _ _ => Ch.refl _ _) ?_
        intro w18 D18
        have c18 := Ch.of_drew D18; have z18 := c18.size
        have cc_15_18 : Ch No w15 w18 := ((Ch.then (E := No) c16 c17 (by intro q h1 h2; rcases h2 with h2 | h2 <;> first | exact h2 | (exfalso; omega))).and c18)
        have ga_18 := ga_15.keep cc_15_18
        have xa_18 := xa_15.keep cc_15_18
        have gb_18 := gb_15.keep cc_15_18
        have xb_18 := xb_15.keep cc_15_18
        have tu_18 := tu_15.keep cc_15_18
        have b19_18 := b19_17.keep c18
        refine VH.mv (fun w' hS => Rn.move rfl) rfl rfl rfl rfl (VH.mv (fun w' hS => Rn.move rfl) rfl rfl rfl rfl (VH.mv (fun w' hS => Rn.move rfl) rfl rfl rfl rfl ?_))
        refine VH.mv (fun w' hS => Rn.sub rfl rfl (by rw [IntKind.wrap_i64]; omega)) rfl rfl rfl rfl ?_
        refine VH.mv (fun w' hS => Rn.move rfl) rfl rfl rfl rfl (VH.mv (fun w' hS => Rn.rem0 rfl rfl (by omega) (by omega)) rfl rfl rfl rfl (VH.mv (fun w' hS => Rn.field Tryz.underlying64 rfl Tryz.sizeOf3 rfl rfl rfl) rfl rfl rfl rfl (VH.mv (fun w' hS => Rn.load Tryz.isAgg3 rfl ((b19_18.keep hS).cell rfl)) rfl rfl rfl rfl (VH.mv (fun w' hS => Rn.field Tryz.underlying64 rfl Tryz.sizeOf3 rfl rfl rfl) rfl rfl rfl rfl (VH.mv (fun w' hS => Rn.load Tryz.isAgg3 rfl ((b19_18.keep hS).cell rfl)) rfl rfl rfl rfl ?_)))))
        refine VH.mv (fun w' hS => Rn.neg rfl (by rw [IntKind.wrap_i64]; omega)) rfl rfl rfl rfl ?_
        refine VH.mv (fun w' hS => Rn.build rfl (bld64_0_1w65 rfl)) rfl rfl rfl rfl (VH.mv (fun w' hS => Rn.indexS Tryz.underlying57 Tryz.sizeOf64 rfl rfl (tu_18.sl.ne (by omega)) (by omega) (by omega)) rfl rfl rfl rfl (VH.done (VO.wk0 (Wk.putsG Tryz.sizeOf64 rfl rfl (by omega) tu_18) rfl rfl ?_)))
        rintro _ w19 ⟨o19, c19, z19⟩
        have y19 := Ow.lt o19
        refine VO.nil (VQ.noPanic (VQ.block_normal (VQ.then_code (VC.region ?_))))
        refine VO.mv (Rn.add rfl rfl (by rw [IntKind.wrap_i64]; omega)) rfl rfl rfl ?_
        refine VO.mv (Rn.move rfl) rfl rfl rfl (VO.nil ?_)
        refine VQ.round (i + 1) (by first | omega | (dsimp only; omega)) ?_ ⟨rfl, rfl, rfl, rfl, rfl, rfl, rfl, rfl, trivial⟩
        have ga_19 := ga_18.to c19 (by first | exact fun _ _ _ _ => id | (intro q h1 h2 hx h3; omega))
        have gb_19 := gb_18.to c19 (by first | exact fun _ _ _ _ => id | (intro q h1 h2 hx h3; omega))
        have xa_19 := xa_18.to c19 (by first | exact fun _ _ _ _ => id | (intro q h1 h2 hx h3; omega))
        have xb_19 := xb_18.to c19 (by first | exact fun _ _ _ _ => id | (intro q h1 h2 hx h3; omega))
        have CH_18 := CH_15.and cc_15_18
        have CH_19 : Ch (No) w w19 := CH_18.then c19 (by intro q h1 h2; rcases h2 with h2 | h2 <;> first | exact h2 | (exfalso; omega) | omega)
        exact ⟨(by omega), (by omega), (by have h9 := o19; rw [hme (by omega), Int.toNat_natCast] at h9; rw [← tu_set (by omega)]; exact h9), ga_19, gb_19, xa_19, xb_19, CH_19⟩
      · skip
        refine VC.exit (VQ.then_exit (VQ.then_exit (VQ.block_exit (VQ.then_code (VC.seq ?_)))))
        have ei : i = m / 2 := by omega
        have tu9 := tu_15; rw [ei] at tu9
        refine VC.region (VO.mv (Rn.move rfl) rfl rfl rfl (VO.mv (Rn.move rfl) rfl rfl rfl ?_))
        refine VO.wk (Wk.call Tryz.call34 rfl (ring_Correlate _ _ _ _ (m / 2) _ _ _ _ _ _ _ _ _ (xa_15).sl (xb_15).sl (fun q hq => by have := Ow.lt xa_15; omega) (fun q hq => by have := Ow.lt xb_15; omega) hn1 hu1 hu2 g1 g2)) rfl rfl rfl ?_
        rintro _ w20 ⟨q20, os_rCO, rfl, rCO20, ho_rCO, e20, c20⟩
        have yc20 := Ow.lt rCO20
        have z20 := c20.size
        refine VO.mv (Rn.move rfl) rfl rfl rfl (VO.mv (Rn.extract rfl rfl) rfl rfl rfl (VO.mv (Rn.extract rfl rfl) rfl rfl rfl (VO.mv (Rn.assign rfl) rfl rfl rfl (VO.mv (Rn.assign rfl) rfl rfl rfl (VO.nil (VQ.then_code (VC.seq ?_)))))))
        refine VC.region (VO.mv (Rn.move rfl) rfl rfl rfl (VO.mv (Rn.nil_eql_nil Tryz.underlying29 rfl) rfl rfl rfl (VO.mv (Rn.move rfl) rfl rfl rfl (VO.mv (Rn.move rfl) rfl rfl rfl (VO.mv (Rn.move rfl) rfl rfl rfl (VO.mv (Rn.move rfl) rfl rfl rfl ?_))))))
        have ga_20 := ga_15.keep c20
        have tu_20 := tu9.keep c20
        refine VO.wk (Wk.call Tryz.call33 rfl (law25_cyclic _ _ _ _ (m / 2) _ _ _ _ _ (ga_20).sl (tu_20).sl (fun q hq => by have := Ow.lt ga_20; omega) (fun q hq => by have := Ow.lt tu_20; omega) hn1 g1 (tu_GB g2))) rfl rfl rfl ?_
        rintro _ w21 ⟨q21, rfl, lc221, e21, c21⟩
        have yl21 := Ow.lt lc221
        have z21 := c21.size
        have rCO_21 := rCO20.keep c21
        refine VO.wk (Wk.call Tryz.call30 rfl (law25_is _ _ _ _ (m / 2) _ _ _ _ _ (rCO_21).sl (lc221).sl (by omega) (WhU.row (f := fun k => (cyc (m / 2) (fR (re (gsM ls (m / 2))) (im (gsM ls (m / 2))) (re (rowG (m / 2) (tuF (gsM (qs.take m) (m / 2)) (m / 2) (m / 2)))) (im (rowG (m / 2) (tuF (gsM (qs.take m) (m / 2)) (m / 2) (m / 2))))) k, cyc (m / 2) (fI (re (gsM ls (m / 2))) (im (gsM ls (m / 2))) (re (rowG (m / 2) (tuF (gsM (qs.take m) (m / 2)) (m / 2) (m / 2)))) (im (rowG (m / 2) (tuF (gsM (qs.take m) (m / 2)) (m / 2) (m / 2))))) k)) (ho_rCO.cast fun k hk => co_turn hk)) (row_sm (fun k hk => cyc_sm g1 (tu_GB g2) k hk)))) rfl rfl rfl ?_
        rintro _ w22 ⟨rfl, c22⟩
        have z22 := c22.size
        refine VO.mv (Rn.pick_true rfl rfl) rfl rfl rfl (VO.mv (Rn.assign rfl) rfl rfl rfl (VO.nil (VQ.then_code (VC.ret (VQ.ret1 rfl rfl (Ret.mk ?_))))))
        have CH_22 := CH_15.and (c20.trans (c21.trans c22))
        exact ⟨rfl, CH_22⟩
end Go.Tm
namespace Go.Tm
open Go.RowKit Go.Proofs Go.ChangeShapes Go.WideShapes Go.Deep
open Go.Proofs.YtdgiiehbbmfgoaaGreatDoor
theorem laidVars_at {P : Program} {w : World} : ∀ {l : List (String × DataW Unit)} {ps : List MemPlace} (i : Nat) {x : String × DataW Unit}, DataW.LaidVars P w l ps → l[i]? = some x → ∃ ps', DataW.LaidVars P w [x] ps' ∧ ps'.Sublist ps
  | [], _, _, _, _, h => by simp at h
  | (n, d) :: r, ps, 0, x, h, hi => by
    obtain ⟨g, t, cs, fuel, p, q, e1, e2, e3, e4, hr, rfl⟩ := h
    simp only [List.getElem?_cons_zero, Option.some.injEq] at hi
    subst hi
    exact ⟨_, ⟨g, t, cs, fuel, p, [], e1, e2, e3, e4, rfl, rfl⟩, by rw [List.append_nil]; exact List.sublist_append_left _ _⟩
  | (n, d) :: r, ps, i + 1, x, h, hi => by
    obtain ⟨g, t, cs, fuel, p, q, e1, e2, e3, e4, hr, rfl⟩ := h
    obtain ⟨ps', h1, h2⟩ := laidVars_at i hr (by simpa using hi)
    exact ⟨ps', h1, h2.trans (List.sublist_append_right _ _)⟩
theorem _root_.Go.laidMet.at {P : Program} {w : World} {l : List (String × DataW Unit)} {x : String × DataW Unit} (h : laidMet P l w) (i : Nat) (hi : l[i]? = some x) : laidMet P [x] w := by
  obtain ⟨ps, hl, hnd, hrows⟩ := h
  obtain ⟨ps', h1, h2⟩ := laidVars_at i hl hi
  exact ⟨ps', h1, h2.nodup hnd, fun b off hp => hrows b off (h2.subset hp)⟩
noncomputable abbrev laidL : List (String × DataW Unit) := Rows.ringWholeRow.laid
theorem gn_of {W : World} (h : laidMet Tryz.prog laidL W) : 12 ≤ W.heap.size := by
  obtain ⟨ps, ⟨g0, t0, cs0, f0, p0, q0, hg0, ht0, hv0, hd0, _, e0⟩, _, hrows⟩ := h.at 1 rfl
  have hg : Tryz.prog.globalNamed "math/bits.deBruijn64tab" = some 11 := by kernel_rfl
  obtain rfl := Option.some.inj (hg.symm.trans hg0)
  unfold World.var? at hv0
  rw [hg] at hv0
  simp only [Option.bind_some] at hv0
  split at hv0
  · rename_i hx
    have := blk_lt hx
    omega
  · cases hv0
theorem tab_of {W : World} (h : laidMet Tryz.prog laidL W) (hgn : 12 ≤ W.heap.size) : TabB W.heap.size W := by
  have hg : Tryz.prog.globalNamed "internal/strconv.uint64pow10" = some 9 := by kernel_rfl
  refine ⟨Lib.tabIs_of_head hg (by kernel_rfl) Tryz.underlying281 Tryz.underlying23 (by kernel_rfl) (by kernel_rfl) (h.at 2 (by kernel_rfl)), fun g e => ?_⟩
  obtain rfl := Option.some.inj (hg.symm.trans e)
  omega
section
variable {H : Type} {enc : TypeId × Value → H} {P : Program} {w : World} {base : Nat} {spare : Nat → Bool} {held : Bool}
theorem struct_cells {e : TypeId} {fs : Array Field} {fuel : Nat} {cs : List Value} {x : DataW H × List MemPlace} (he : P.underlying e = some (.struct fs))
    (hone : oneCellFields P fs = true) (hC : P.cellsOf e = fs.size) (h : DataW.trod enc P w base spare held fuel e cs = some x) :
    ∃ (ys : List (DataW H × List MemPlace)) (n : Nat), x.1 = .agg (ys.map (·.1)) ∧ cs.length = fs.size ∧ ∀ (j : Nat) (f : Field), fs[j]? = some f → ∃ (v : Value) (y : DataW H × List MemPlace), cs[j]? = some v ∧ ys[j]? = some y ∧ DataW.trod enc P w base spare held n f.type [v] = some y := by
  obtain ⟨ys, n', hn', hy, hlen, hyl, hf⟩ := DataW.trod_struct he h
  rw [hC] at hlen
  refine ⟨ys, n', by rw [hy], hlen, fun j f hj => ?_⟩
  obtain ⟨ho, hk⟩ := hone_of hone j f hj
  have hjl : j < fs.size := (Array.getElem?_eq_some_iff.1 hj).1
  have hv : cs[j]? = some (cs[j]'(by omega)) := List.getElem?_eq_getElem (by omega)
  have h1 := hf j f hj
  rw [ho, hk] at h1
  have hone' : (cs.drop j).take 1 = [cs[j]'(by omega)] := by
    rw [List.drop_eq_getElem_cons (by omega)]
    rfl
  rw [hone'] at h1
  have hys : ys[j]? = some (ys[j]'(by omega)) := List.getElem?_eq_getElem (by omega)
  exact ⟨_, _, hv, hys, h1.trans hys⟩
end
def stL : List (List UInt8 × Bool × Bool × Int × Bool) := [([], false, false, 0, false), ([103, 97, 116, 104, 101, 114], true, true, 0, false), ([115, 99, 97, 116, 116, 101, 114], true, true, 0, false), ([122, 101, 114, 111], false, false, 0, false), ([116, 119, 105, 115, 116], false, false, 16384, true), ([102, 108, 121], false, true, 5, false), ([100, 105, 114, 101, 99, 116], true, true, 64, false), ([99, 104, 105, 114, 112], false, false, 16384, false), ([102, 105, 108, 108], false, false, 16384, false), ([116, 105, 109, 101, 115], true, false, 0, false), ([99, 111, 110, 106], false, false, 0, false), ([111, 118, 101, 114], false, false, 16384, false)]
def stD : List (DataW Unit) := stL.map fun e => .agg [.lit (.string e.1), .lit (.bool e.2.1), .lit (.bool e.2.2.1), .lit (.int .i64 e.2.2.2.1), .lit (.bool e.2.2.2.2)]
def stK (i : Fin 12) : Bool := match stL[i.1]? with
  | some e => e.2.1 == kSrc i.1 && e.2.2.1 == kJmp i.1 && e.2.2.2.1 == kN i.1 && e.2.2.2.2 == kK i.1
  | none => false
theorem stK_spec {i : Nat} (hi : i < 12) (h : stK ⟨i, hi⟩ = true) : ∃ t, stD[i]? = some (.agg [.lit (.string t), .lit (.bool (kSrc i)), .lit (.bool (kJmp i)), .lit (.int .i64 (kN i)), .lit (.bool (kK i))]) := by
  unfold stK at h
  split at h
  · rename_i e he
    simp only [Bool.and_eq_true, beq_iff_eq] at h
    obtain ⟨⟨⟨h1, h2⟩, h3⟩, h4⟩ := h
    exact ⟨e.1, by rw [stD, List.getElem?_map, he, ← h1, ← h2, ← h3, ← h4]; rfl⟩
  · cases h
theorem add_glob (g k : Nat) : (⟨g, 0, none⟩ : Addr).add k = ⟨g, k, none⟩ := by
  by_cases hk : k = 0
  · subst hk; rfl
  · simp [Addr.add, hk]
theorem st_of {W : World} (h : laidMet Tryz.prog laidL W) : StT W := by
  obtain ⟨ps, ⟨g0, t0, cs0, f0, p0, q0, hg0, ht0, hv0, hd0, _, e0⟩, _, _⟩ := h.at 10 rfl
  obtain rfl := Option.some.inj ((show Tryz.prog.globalNamed "timbre/steps.table" = some 8 by kernel_rfl).symm.trans hg0)
  obtain rfl := Option.some.inj ((show (Tryz.prog.globals[8]?).map (·.type) = some 222 by kernel_rfl).symm.trans ht0)
  obtain ⟨xs, m1, rfl, hx1, hlen, hn12, hel⟩ := DataW.trod_array Tryz.underlying222 hd0
  have hxs := congrArg Prod.fst hx1
  have ck : Tryz.prog.cellsOf 221 = 5 := by kernel_rfl
  have c9 : Tryz.prog.cellsOf 9 = 1 := by kernel_rfl
  have c4 : Tryz.prog.cellsOf 4 = 1 := by kernel_rfl
  have c3 : Tryz.prog.cellsOf 3 = 1 := by kernel_rfl
  have key : ∀ (i : Nat) (t : List UInt8) (a b : Bool) (n : Int) (k : Bool), (xs.map (·.1))[i]? = some (.agg [.lit (.string t), .lit (.bool a), .lit (.bool b), .lit (.int .i64 n), .lit (.bool k)]) →
      ∃ s : ByteArray, CaR (· < 12) W ((⟨8, 0, none⟩ : Addr).add (i * 5)) [.string s, .bool a, .bool b, .int .i64 n, .bool k] := by
    intro i t a b n k hi
    rw [List.getElem?_map, Option.map_eq_some_iff] at hi
    obtain ⟨x, hx, hxd⟩ := hi
    have hi12 : i < 12 := by have := (List.getElem?_eq_some_iff.1 hx).1; omega
    have h1 := hel i hi12
    rw [hx, ck] at h1
    obtain ⟨ys, n', hy, hcl, hf⟩ := struct_cells Tryz.underlying221 (by kernel_rfl) (by kernel_rfl) h1
    obtain ⟨v0, y0, g0, k0, f0⟩ := hf 0 _ rfl
    obtain ⟨v1, y1, g1, k1, f1⟩ := hf 1 _ rfl
    obtain ⟨v2, y2, g2, k2, f2⟩ := hf 2 _ rfl
    obtain ⟨v3, y3, g3, k3, f3⟩ := hf 3 _ rfl
    obtain ⟨v4, y4, g4, k4, f4⟩ := hf 4 _ rfl
    obtain ⟨s, e0', e0'', _⟩ := DataW.trod_string Tryz.underlying9 f0
    obtain ⟨b1, e1', e1''⟩ := DataW.trod_bool Tryz.underlying4 f1
    obtain ⟨b2, e2', e2''⟩ := DataW.trod_bool Tryz.underlying4 f2
    obtain ⟨z3, e3', e3'', _⟩ := DataW.trod_int Tryz.underlying3 f3
    obtain ⟨b4, e4', e4''⟩ := DataW.trod_bool Tryz.underlying4 f4
    rw [hy] at hxd
    simp only [DataW.agg.injEq] at hxd
    subst e0'' e1'' e2'' e3'' e4''
    have q1 := congrArg (fun l => l[1]?) hxd; have q2 := congrArg (fun l => l[2]?) hxd; have q3 := congrArg (fun l => l[3]?) hxd; have q4 := congrArg (fun l => l[4]?) hxd
    simp only [List.getElem?_map, k1, k2, k3, k4, Option.map_some, List.getElem?_cons_succ, List.getElem?_cons_zero, Option.some.injEq, DataW.lit.injEq, Lit.bool.injEq, Lit.int.injEq, true_and] at q1 q2 q3 q4
    subst q1 q2 q3 q4
    simp only [List.cons.injEq, and_true] at e0' e1' e2' e3' e4'
    subst e0' e1' e2' e3' e4'
    have cell : ∀ j v, j < 5 → ((cs0.toList.drop (i * 5)).take 5)[j]? = some v → W.cell? (((⟨8, 0, none⟩ : Addr).add (i * 5)).add j) = some v := by
      intro j v hj5 hj
      rw [List.getElem?_take, if_pos hj5, List.getElem?_drop, Array.getElem?_toList] at hj
      have := World.var?_cell hg0 hv0 (i * 5 + j)
      rw [hj] at this
      rw [← this, Go.Deep.add_add, add_glob]
    refine ⟨s, fun j v hj => ?_, by rw [add_block]; decide⟩
    match j, hj with
    | 0, hj => obtain rfl := Option.some.inj hj; exact cell 0 _ (by decide) g0
    | 1, hj => obtain rfl := Option.some.inj hj; exact cell 1 _ (by decide) g1
    | 2, hj => obtain rfl := Option.some.inj hj; exact cell 2 _ (by decide) g2
    | 3, hj => obtain rfl := Option.some.inj hj; exact cell 3 _ (by decide) g3
    | 4, hj => obtain rfl := Option.some.inj hj; exact cell 4 _ (by decide) g4
    | j + 5, hj => simp at hj
  have hD : xs.map (·.1) = stD := by
    simp only [DataW.agg.injEq, Rows.laid_timbre_steps_table] at hxs
    exact hxs.symm
  rw [hD] at key
  have all : ∀ i, ∃ s : ByteArray, i < 12 → CaR (· < 12) W ((⟨8, 0, none⟩ : Addr).add (i * 5)) [.string s, .bool (kSrc i), .bool (kJmp i), .int .i64 (kN i), .bool (kK i)] := by
    intro i
    by_cases hi : i < 12
    · have h2 := (by decide : ∀ i : Fin 12, stK i = true) ⟨i, hi⟩
      obtain ⟨t, ht⟩ := stK_spec hi h2
      obtain ⟨s, hs⟩ := key i _ _ _ _ _ ht
      exact ⟨s, fun _ => hs⟩
    · exact ⟨⟨#[]⟩, fun h => absurd h hi⟩
  obtain ⟨nm, hnm⟩ := Classical.axiomOfChoice all
  exact ⟨nm, hnm⟩
end Go.Tm
