/- Lemmas of this claim, joined by program. Walks of functions: the machine's acts. Walks of functions: the machine's run. Conditions: each lemma names its own. -/
import Derived.Test.YtdgiiehbbmfgoaaGreatDoorA12
set_option linter.all false
namespace Go.Tm
open Go.RowKit Go.Proofs
abbrev macV (b : Bld) (N : Nat) (SA : Option Addr) (sc : Nat) (bs : ByteArray) (CA : Option Addr) (ac dn st at_ : Int) : Array Value := #[.int .i64 b.ln, .int .i64 b.cl, .int .i64 b.i0, .int .i64 b.ou, .slice SA b.steps.length sc, .string bs, .slice CA N N, .int .i64 ac, .int .i64 dn, .int .i64 st, .int .i64 at_, .slice none 0 0, .int .i64 0, .int .i64 0, .int .i64 0, .int .i64 0, .int .i64 0, .int .i64 0, .int .i64 0]
/-- A machine in memory, and its cells. -/
structure MacR (w : World) (m r : Nat) (b : Bld) (N : Nat) (SA : Option Addr) (sc : Nat) (bs : ByteArray) (CA : Option Addr) (ac dn st at_ : Int) (xs : List CB) : Prop where
  bk : Bk w m (macV b N SA sc bs CA ac dn st at_) 165
  row : CR 53 w r CA N N xs
  ne : ¬ r = m + 1
theorem MacR.to {D : Nat → Prop} {w w' : World} {m r : Nat} {b : Bld} {N : Nat} {SA : Option Addr} {sc : Nat} {bs : ByteArray} {CA : Option Addr} {ac dn st at_ : Int} {xs : List CB} (h : MacR w m r b N SA sc bs CA ac dn st at_ xs) (c : Ch D w w') (hd : ∀ q, q < w.heap.size → (q = m ∨ r = q + 1) → q = q → ¬ D q) : MacR w' m r b N SA sc bs CA ac dn st at_ xs :=
  ⟨h.bk.to c (hd m h.bk.lt (.inl rfl) rfl), Ow.to h.row c (fun q h1 h2 _ => hd q h1 (.inr h2) rfl), h.ne⟩
theorem MacR.keep {w w' : World} {m r : Nat} {b : Bld} {N : Nat} {SA : Option Addr} {sc : Nat} {bs : ByteArray} {CA : Option Addr} {ac dn st at_ : Int} {xs : List CB} (h : MacR w m r b N SA sc bs CA ac dn st at_ xs) (c : Ch No w w') : MacR w' m r b N SA sc bs CA ac dn st at_ xs := h.to c fun _ _ _ _ => id

set_option maxRecDepth 100000 in
theorem inf53w41 : Inf Tryz.prog 53 (.complex .f64 0 0) 1 16 := ⟨Tryz.t53, Tryz.type53, rfl, rfl, rfl⟩
set_option maxRecDepth 100000 in
theorem act_gather (m r : Nat) (b : Bld) (N : Nat) (SA : Option Addr) (sc : Nat) (bs : ByteArray) (CA : Option Addr) (ac dn st at_ : Int) (xs : List CB) (w : World) (mr : MacR w m r b N SA sc bs CA ac dn st at_ xs) (hN : N ≤ 1000000) (op co nn kk : Int) (d sr ju i : Nat) (hd : d + i < N) (hs : sr + i * ju < N) :
    Calls Tryz.prog 144 #[.pointer (some ⟨m, 0, none⟩), .agg #[.int .i64 op, .int .i64 d, .int .i64 sr, .int .i64 ju, .int .i64 co, .int .i64 nn, .int .i64 kk], .int .i64 i] w (Ret (fun v w' => v = .tuple #[] ∧ ∃ ys, MacR w' m r b N SA sc bs CA ac dn st at_ ys ∧ ys.map cx = (xs.map cx).set (d + i) ((xs.map cx).getD (sr + i * ju) z0) ∧ Ch (At r) w w')) := by
  obtain ⟨bk, row, ne⟩ := id mr
  have yr := Ow.lt row; have ym := bk.lt
  have e0 : ((i * ju : Nat) : Int) = (i : Int) * (ju : Int) := by push_cast; rfl
  refine calls_of_VC (args := [.pointer (some ⟨m, 0, none⟩), .agg #[.int .i64 op, .int .i64 d, .int .i64 sr, .int .i64 ju, .int .i64 co, .int .i64 nn, .int .i64 kk], .int .i64 i]) Tryz.func144 rfl Tryz.ntmps144 rfl (VC.seq (VC.region (VO.wk (Wk.box rfl) rfl rfl rfl ?_)))
  rintro _ w1 ⟨p1, rfl, N1⟩
  have c1 := N1.ch
  have e1 := N1.p; have z1 := N1.size
  have b4 := Bk.new N1
  refine VO.nil (VQ.then_code (VC.draws 22 [(0, true), (1, true), (2, true), (3, true), (4, true), (5, true), (6, true), (7, true), (8, true), (9, true), (10, true), (11, true), (12, true), (13, true), (14, true), (15, true), (16, true), (17, true), (18, true), (19, true), (20, true), (21, true)] (fun w1 w' => Ch (No) w1 w') mixed (by kernel_rfl) (fun _ _ => Ch.refl _ _) ?_))
  intro w2 D2
  have c2 := Ch.of_drew D2; have z2 := c2.size
  have bk_2 := bk.keep (c1.trans c2)
  have row_2 := row.keep (c1.trans c2)
  have b4_2 := b4.keep c2
  refine VH.mv (fun w' hS => Rn.move rfl) rfl rfl rfl rfl (VH.mv (fun w' hS => Rn.nilCheck rfl) rfl rfl rfl rfl (VH.mv (fun w' hS => Rn.field Tryz.underlying165 rfl Tryz.sizeOf39 rfl rfl rfl) rfl rfl rfl rfl (VH.mv (fun w' hS => Rn.load Tryz.isAgg39 rfl ((bk_2.keep hS).cell rfl)) rfl rfl rfl rfl (VH.mv (fun w' hS => Rn.field Tryz.underlying163 rfl Tryz.sizeOf3 rfl rfl rfl) rfl rfl rfl rfl (VH.mv (fun w' hS => Rn.load Tryz.isAgg3 rfl ((b4_2.keep hS).cell rfl)) rfl rfl rfl rfl (VH.mv (fun w' hS => Rn.move rfl) rfl rfl rfl rfl ?_))))))
  refine VH.mv (fun w' hS => Rn.add rfl rfl (by rw [IntKind.wrap_i64]; omega)) rfl rfl rfl rfl ?_
  refine VH.mv (fun w' hS => Rn.move rfl) rfl rfl rfl rfl (VH.mv (fun w' hS => Rn.nilCheck rfl) rfl rfl rfl rfl (VH.mv (fun w' hS => Rn.field Tryz.underlying165 rfl Tryz.sizeOf39 rfl rfl rfl) rfl rfl rfl rfl (VH.mv (fun w' hS => Rn.load Tryz.isAgg39 rfl ((bk_2.keep hS).cell rfl)) rfl rfl rfl rfl (VH.mv (fun w' hS => Rn.field Tryz.underlying163 rfl Tryz.sizeOf3 rfl rfl rfl) rfl rfl rfl rfl (VH.mv (fun w' hS => Rn.load Tryz.isAgg3 rfl ((b4_2.keep hS).cell rfl)) rfl rfl rfl rfl (VH.mv (fun w' hS => Rn.move rfl) rfl rfl rfl rfl (VH.mv (fun w' hS => Rn.field Tryz.underlying163 rfl Tryz.sizeOf3 rfl rfl rfl) rfl rfl rfl rfl ?_)))))))
  refine VH.mv (fun w' hS => Rn.load Tryz.isAgg3 rfl ((b4_2.keep hS).cell rfl)) rfl rfl rfl rfl ?_
  refine VH.mv (fun w' hS => Rn.mul rfl rfl (by rw [IntKind.wrap_i64]; omega)) rfl rfl rfl rfl ?_
  refine VH.mv (fun w' hS => Rn.add rfl rfl (by rw [IntKind.wrap_i64]; omega)) rfl rfl rfl rfl ?_
  refine VH.mv (fun w' hS => Rn.indexS Tryz.underlying39 Tryz.sizeOf53 rfl rfl ((row_2.keep hS).sl.ne (by omega)) (by omega) (by omega)) rfl rfl rfl rfl (VH.mv (fun w' hS => Rn.load Tryz.isAgg53 rfl ((row_2.keep hS).sl.getC (by omega) (by omega))) rfl rfl rfl rfl (VH.mv (fun w' hS => Rn.indexS Tryz.underlying39 Tryz.sizeOf53 rfl rfl ((row_2.keep hS).sl.ne (by omega)) (by omega) (by omega)) rfl rfl rfl rfl (VH.done (VO.wk0 (Wk.putC Tryz.sizeOf53 rfl rfl (by omega) row_2) rfl rfl ?_))))
  rintro _ w3 ⟨o3, c3, z3⟩
  have y3 := o3.lt
  refine VO.nil (VQ.noPanic (VQ.end0 rfl (Ret.mk ?_)))
  have row9 := o3; rw [show ((d : Int) + (i : Int)).toNat = d + i by omega, show ((sr : Int) + (i : Int) * (ju : Int)).toNat = sr + i * ju by omega] at row9
  have bk_3 := bk_2.to c3 (by first | exact id | omega)
  have CH_2 := (Ch.refl (At r) w).and (c1.trans c2)
  have CH_3 : Ch (At r) w w3 := CH_2.then c3 (by intro q h1 h2; rcases h2 with h2 | h2 <;> first | exact h2 | (exfalso; omega) | omega)
  exact ⟨rfl, _, ⟨bk_3, row9, ne⟩, by rw [map_getD, ← List.map_set], CH_3⟩

set_option maxRecDepth 100000 in
theorem act_direct (m r : Nat) (b : Bld) (N : Nat) (SA : Option Addr) (sc : Nat) (bs : ByteArray) (CA : Option Addr) (ac dn st at_ : Int) (xs : List CB) (w : World) (mr : MacR w m r b N SA sc bs CA ac dn st at_ xs) (hN : N ≤ 1000000) (op co kk : Int) (d sr ju nn i : Nat) (hn : 1 ≤ nn) (hn2 : nn ≤ 64) (hr : ∀ a, 4 * (a % nn) % nn = 0) (hk : i < nn) (hv : 1 ≤ ju) (hv2 : ju ≤ 1000000) (hb : ∀ j, j < nn → sr + j * ju < N) (hd : d + i < N) :
    Calls Tryz.prog 149 #[.pointer (some ⟨m, 0, none⟩), .agg #[.int .i64 op, .int .i64 d, .int .i64 sr, .int .i64 ju, .int .i64 co, .int .i64 nn, .int .i64 kk], .int .i64 i] w (Ret (fun v w' => v = .tuple #[] ∧ ∃ ys, MacR w' m r b N SA sc bs CA ac dn st at_ ys ∧ ys.map cx = (xs.map cx).set (d + i) (directC nn i (fun j => (xs.map cx).getD (sr + j * ju) z0)) ∧ Ch (At r) w w')) := by
  obtain ⟨bk, row, ne⟩ := id mr
  have yr := Ow.lt row; have ym := bk.lt
  have hb0 := hb 0 (by omega); rw [Nat.zero_mul] at hb0
  refine calls_of_VC (args := [.pointer (some ⟨m, 0, none⟩), .agg #[.int .i64 op, .int .i64 d, .int .i64 sr, .int .i64 ju, .int .i64 co, .int .i64 nn, .int .i64 kk], .int .i64 i]) Tryz.func149 rfl Tryz.ntmps149 rfl (VC.seq (VC.region (VO.wk (Wk.box rfl) rfl rfl rfl ?_)))
  rintro _ w1 ⟨p1, rfl, N1⟩
  have c1 := N1.ch
  have e1 := N1.p; have z1 := N1.size
  have b4 := Bk.new N1
  refine VO.nil (VQ.then_code (VC.seq (VC.draws 16 [(0, true), (1, true), (2, true), (3, true), (4, true), (5, true), (6, true), (7, true), (8, true), (9, true), (10, true), (11, false), (12, true), (13, true), (14, true), (15, true)] (fun w1 w' => Ch (No) w1 w') mixed (by kernel_rfl) (fun _ _ => Ch.refl _ _) ?_)))
  intro w2 D2
  have c2 := Ch.of_drew D2; have z2 := c2.size
  have bk_2 := bk.keep (c1.trans c2)
  have row_2 := row.keep (c1.trans c2)
  have b4_2 := b4.keep c2
  refine VH.mv (fun w' hS => Rn.move rfl) rfl rfl rfl rfl (VH.mv (fun w' hS => Rn.nilCheck rfl) rfl rfl rfl rfl (VH.mv (fun w' hS => Rn.field Tryz.underlying165 rfl Tryz.sizeOf39 rfl rfl rfl) rfl rfl rfl rfl (VH.mv (fun w' hS => Rn.load Tryz.isAgg39 rfl ((bk_2.keep hS).cell rfl)) rfl rfl rfl rfl (VH.mv (fun w' hS => Rn.field Tryz.underlying163 rfl Tryz.sizeOf3 rfl rfl rfl) rfl rfl rfl rfl (VH.mv (fun w' hS => Rn.load Tryz.isAgg3 rfl ((b4_2.keep hS).cell rfl)) rfl rfl rfl rfl (VH.mv (fun w' hS => Rn.field Tryz.underlying163 rfl Tryz.sizeOf3 rfl rfl rfl) rfl rfl rfl rfl (VH.mv (fun w' hS => Rn.load Tryz.isAgg3 rfl ((b4_2.keep hS).cell rfl)) rfl rfl rfl rfl ?_)))))))
  refine VH.mv (fun w' hS => Rn.field Tryz.underlying163 rfl Tryz.sizeOf3 rfl rfl rfl) rfl rfl rfl rfl (VH.mv (fun w' hS => Rn.load Tryz.isAgg3 rfl ((b4_2.keep hS).cell rfl)) rfl rfl rfl rfl (VH.mv (fun w' hS => Rn.move rfl) rfl rfl rfl rfl (VH.wk (Wk.call Tryz.call175 rfl (direct_At _ _ _ _ _ _ _ _ (by omega) (by omega) (row_2).sl _ _ hn hn2 hr hk hv (by omega) hb)) rfl rfl rfl rfl ?_)))
  rintro _ w3 ⟨p3, q3, rfl, F3, c3⟩
  have z3 := c3.size
  have RD_3 := (Ch.refl (No) w2).and c3
  refine ⟨RD_3, ?_⟩
  refine VH.mv (fun w' hS => Rn.move rfl) rfl rfl rfl rfl (VH.mv (fun w' hS => Rn.extract rfl rfl) rfl rfl rfl rfl (VH.mv (fun w' hS => Rn.extract rfl rfl) rfl rfl rfl rfl (VH.mv (fun w' hS => Rn.assign rfl) rfl rfl rfl rfl (VH.done (VO.mv (Rn.assign rfl) rfl rfl rfl (VO.nil (VQ.noPanic ?_)))))))
  refine VQ.then_code (VC.seq (VC.region (VO.mv (Rn.move rfl) rfl rfl rfl (VO.mv (Rn.nil_eql_nil Tryz.underlying29 rfl) rfl rfl rfl (VO.nil (VQ.then_code (VC.cond_true rfl ?_)))))))
  refine VC.draws 10 [(0, true), (1, true), (2, true), (3, true), (4, true), (5, true), (6, true), (7, true), (8, true), (9, true)] (fun w1 w' => Ch (No) w1 w') mixed (by kernel_rfl) (fun _ _ => Ch.refl _ _) ?_
  intro w4 D4
  have c4 := Ch.of_drew D4; have z4 := c4.size
  have bk_4 := bk_2.keep (c3.trans c4)
  have row_4 := row_2.keep (c3.trans c4)
  have b4_4 := b4_2.keep (c3.trans c4)
  refine VH.mv (fun w' hS => Rn.move rfl) rfl rfl rfl rfl (VH.mv (fun w' hS => Rn.nilCheck rfl) rfl rfl rfl rfl (VH.mv (fun w' hS => Rn.field Tryz.underlying165 rfl Tryz.sizeOf39 rfl rfl rfl) rfl rfl rfl rfl (VH.mv (fun w' hS => Rn.load Tryz.isAgg39 rfl ((bk_4.keep hS).cell rfl)) rfl rfl rfl rfl (VH.mv (fun w' hS => Rn.field Tryz.underlying163 rfl Tryz.sizeOf3 rfl rfl rfl) rfl rfl rfl rfl (VH.mv (fun w' hS => Rn.load Tryz.isAgg3 rfl ((b4_4.keep hS).cell rfl)) rfl rfl rfl rfl (VH.mv (fun w' hS => Rn.move rfl) rfl rfl rfl rfl ?_))))))
  refine VH.mv (fun w' hS => Rn.add rfl rfl (by rw [IntKind.wrap_i64]; omega)) rfl rfl rfl rfl ?_
  refine VH.mv (fun w' hS => Rn.move rfl) rfl rfl rfl rfl (VH.mv (fun w' hS => Rn.indexS Tryz.underlying39 Tryz.sizeOf53 rfl rfl ((row_4.keep hS).sl.ne (by omega)) (by omega) (by omega)) rfl rfl rfl rfl (VH.done (VO.wk0 (Wk.putC Tryz.sizeOf53 rfl rfl (by omega) row_4) rfl rfl ?_)))
  rintro _ w5 ⟨o5, c5, z5⟩
  have y5 := o5.lt
  refine VO.nil (VQ.noPanic (VQ.end0 rfl (Ret.mk ?_)))
  have row9 := o5; rw [show ((d : Int) + (i : Int)).toNat = d + i by omega] at row9
  have bk_5 := bk_4.to c5 (by first | exact id | omega)
  have CH_4 := (Ch.refl (At r) w).and (c1.trans (c2.trans (c3.trans c4)))
  have CH_5 : Ch (At r) w w5 := CH_4.then c5 (by intro q h1 h2; rcases h2 with h2 | h2 <;> first | exact h2 | (exfalso; omega) | omega)
  exact ⟨rfl, _, ⟨bk_5, row9, ne⟩, by simp only [map_getD]; rw [List.map_set, F3], CH_5⟩

set_option maxRecDepth 100000 in
theorem act_fly (m r : Nat) (b : Bld) (N : Nat) (SA : Option Addr) (sc : Nat) (bs : ByteArray) (CA : Option Addr) (ac dn st at_ : Int) (xs : List CB) (w : World) (mr : MacR w m r b N SA sc bs CA ac dn st at_ xs) (hN : N ≤ 1000000) (op sr co kk : Int) (d ju nn i : Nat) (hnn : nn = 2 ∨ nn = 4) (hb : ∀ q, q < nn → d + i + q * ju < N) :
    Calls Tryz.prog 148 #[.pointer (some ⟨m, 0, none⟩), .agg #[.int .i64 op, .int .i64 d, .int .i64 sr, .int .i64 ju, .int .i64 co, .int .i64 nn, .int .i64 kk], .int .i64 i] w (Ret (fun v w' => v = .tuple #[] ∧ ∃ ys, MacR w' m r b N SA sc bs CA ac dn st at_ ys ∧ ys.map cx = putN (xs.map cx) (d + i) ju (flyC ((List.range nn).map fun q => (xs.map cx).getD (d + i + q * ju) z0)) nn ∧ Ch (At r) w w')) := by
  obtain ⟨bk, row, ne⟩ := id mr
  have yr := Ow.lt row; have ym := bk.lt
  have hb0 := hb 0 (by omega); rw [Nat.zero_mul] at hb0
  refine calls_of_VC (args := [.pointer (some ⟨m, 0, none⟩), .agg #[.int .i64 op, .int .i64 d, .int .i64 sr, .int .i64 ju, .int .i64 co, .int .i64 nn, .int .i64 kk], .int .i64 i]) Tryz.func148 rfl Tryz.ntmps148 rfl (VC.seq (VC.region (VO.wk (Wk.box rfl) rfl rfl rfl ?_)))
  rintro _ w1 ⟨p1, rfl, N1⟩
  have c1 := N1.ch
  have e1 := N1.p; have z1 := N1.size
  have b4 := Bk.new N1
  refine VO.nil (VQ.then_code (VC.seq (VC.region (VO.mv (Rn.field Tryz.underlying163 rfl Tryz.sizeOf3 rfl rfl rfl) rfl rfl rfl (VO.mv (Rn.load Tryz.isAgg3 rfl (b4.cell rfl)) rfl rfl rfl (VO.wk (Wk.mkC Tryz.underlying39 inf53w41 rfl rfl (by omega) (by omega) (by omega)) rfl rfl rfl ?_))))))
  rintro _ w2 ⟨p2, rfl, o2, c2, e2, z2⟩
  refine VO.mv (Rn.assign rfl) rfl rfl rfl (VO.nil (VQ.then_code (VC.seq (VC.seq (VC.region (VO.mv (Rn.move rfl) rfl rfl rfl (VO.mv (Rn.len Tryz.underlying39 rfl) rfl rfl rfl ?_)))))))
  refine VO.mv (Rn.move rfl) rfl rfl rfl (VO.nil (VQ.then_code (VC.block ?_)))
  have b4_2 := b4.keep c2
  have bk_2 := bk.keep (c1.trans c2)
  have row_2 := row.keep (c1.trans c2)
  have CH_2 := (Ch.refl (At r) w).and (c1.trans c2)
  refine VC.loopS (σ := Nat) (fun j => [(0, .pointer (some ⟨m, 0, none⟩)), (2, .int .i64 i), (4, .pointer (some ⟨p1, 0, none⟩)), (6, .slice (some ⟨p2, 0, none⟩) nn nn), (16, .int .i64 nn), (17, .int .i64 j)]) (fun j w' => j ≤ nn ∧ w2.heap.size ≤ w'.heap.size ∧ Bk w' p1 #[.int .i64 op, .int .i64 d, .int .i64 sr, .int .i64 ju, .int .i64 co, .int .i64 nn, .int .i64 kk] 163 ∧ Bk w' m (macV b N SA sc bs CA ac dn st at_) 165 ∧ CR 53 w' r CA N N xs ∧ CR 53 w' (p2 + 1) (some ⟨p2, 0, none⟩) nn nn (rowF nn (fun q => xs.getD (d + i + q * ju) (0, 0)) j) ∧ Ch (At r) w w') (fun j => nn - j) 0 ?_ ⟨rfl, rfl, rfl, rfl, rfl, rfl, trivial⟩ ?_
  · exact ⟨(by omega), (Nat.le_refl _), b4_2, bk_2, row_2, (by rw [rowF_zero]; exact o2), CH_2⟩
  rintro j w3 ⟨hj, hsz3, b4_3, bk_3, row_3, af_3, CH_3⟩
  show VC _ _ _ _ [(0, .pointer (some ⟨m, 0, none⟩)), (2, .int .i64 i), (4, .pointer (some ⟨p1, 0, none⟩)), (6, .slice (some ⟨p2, 0, none⟩) nn nn), (16, .int .i64 nn), (17, .int .i64 j)] _
  have e0 : ((j * ju : Nat) : Int) = (j : Int) * (ju : Int) := by push_cast; rfl
  have hbj := hb j
  refine VC.seq (VC.region (VO.mv (Rn.lss rfl rfl) rfl rfl rfl (VO.nil (VQ.then_code (VC.seq (VC.cond_if rfl (fun hc1 => ?_) (fun hc1 => ?_)))))))
  · skip
    refine VC.skip (VQ.then_code (VC.seq (VC.block (VC.seq (VC.region (VO.mv (Rn.move rfl) rfl rfl rfl (VO.mv (Rn.assign rfl) rfl rfl rfl ?_)))))))
    refine VO.nil (VQ.then_code (VC.draws 18 [(0, true), (1, true), (2, true), (3, true), (4, true), (5, true), (6, true), (7, true), (8, true), (9, true), (10, true), (11, true), (12, true), (13, true), (14, true), (15, true), (16, true), (17, true)] (fun w1 w' => Ch (No) w1 w') mixed (by kernel_rfl) (fun _ _ => Ch.refl _ _) ?_))
    intro w4 D4
    have c4 := Ch.of_drew D4; have z4 := c4.size
    have bk_4 := bk_3.keep c4
    have row_4 := row_3.keep c4
    have b4_4 := b4_3.keep c4
    have af_4 := af_3.keep c4
    refine VH.mv (fun w' hS => Rn.move rfl) rfl rfl rfl rfl (VH.mv (fun w' hS => Rn.move rfl) rfl rfl rfl rfl (VH.mv (fun w' hS => Rn.move rfl) rfl rfl rfl rfl (VH.mv (fun w' hS => Rn.nilCheck rfl) rfl rfl rfl rfl (VH.mv (fun w' hS => Rn.field Tryz.underlying165 rfl Tryz.sizeOf39 rfl rfl rfl) rfl rfl rfl rfl (VH.mv (fun w' hS => Rn.load Tryz.isAgg39 rfl ((bk_4.keep hS).cell rfl)) rfl rfl rfl rfl (VH.mv (fun w' hS => Rn.field Tryz.underlying163 rfl Tryz.sizeOf3 rfl rfl rfl) rfl rfl rfl rfl (VH.mv (fun w' hS => Rn.load Tryz.isAgg3 rfl ((b4_4.keep hS).cell rfl)) rfl rfl rfl rfl ?_)))))))
    refine VH.mv (fun w' hS => Rn.move rfl) rfl rfl rfl rfl ?_
    refine VH.mv (fun w' hS => Rn.add rfl rfl (by rw [IntKind.wrap_i64]; omega)) rfl rfl rfl rfl ?_
    refine VH.mv (fun w' hS => Rn.move rfl) rfl rfl rfl rfl (VH.mv (fun w' hS => Rn.field Tryz.underlying163 rfl Tryz.sizeOf3 rfl rfl rfl) rfl rfl rfl rfl (VH.mv (fun w' hS => Rn.load Tryz.isAgg3 rfl ((b4_4.keep hS).cell rfl)) rfl rfl rfl rfl ?_))
    refine VH.mv (fun w' hS => Rn.mul rfl rfl (by rw [IntKind.wrap_i64]; omega)) rfl rfl rfl rfl ?_
    refine VH.mv (fun w' hS => Rn.add rfl rfl (by rw [IntKind.wrap_i64]; omega)) rfl rfl rfl rfl ?_
    refine VH.mv (fun w' hS => Rn.indexS Tryz.underlying39 Tryz.sizeOf53 rfl rfl ((row_4.keep hS).sl.ne (by omega)) (by omega) (by omega)) rfl rfl rfl rfl (VH.mv (fun w' hS => Rn.load Tryz.isAgg53 rfl ((row_4.keep hS).sl.getC (by omega) (by omega))) rfl rfl rfl rfl (VH.mv (fun w' hS => Rn.indexS Tryz.underlying39 Tryz.sizeOf53 rfl rfl ((af_4.keep hS).sl.ne (by omega)) (by omega) (by omega)) rfl rfl rfl rfl (VH.done (VO.wk0 (Wk.putC Tryz.sizeOf53 rfl rfl (by omega) af_4) rfl rfl ?_))))
    rintro _ w5 ⟨o5, c5, z5⟩
    have y5 := o5.lt
    refine VO.nil (VQ.noPanic (VQ.block_normal (VQ.then_code (VC.region ?_))))
    refine VO.mv (Rn.add rfl rfl (by rw [IntKind.wrap_i64]; omega)) rfl rfl rfl ?_
    refine VO.mv (Rn.move rfl) rfl rfl rfl (VO.nil ?_)
    refine VQ.round (j + 1) (by first | omega | (dsimp only; omega)) ?_ ⟨rfl, rfl, rfl, rfl, rfl, rfl, trivial⟩
    have b4_5 := b4_4.to c5 (by first | exact id | omega)
    have bk_5 := bk_4.to c5 (by first | exact id | omega)
    have row_5 := row_4.to c5 (by first | exact fun _ _ _ _ => id | (intro q h1 h2 hx h3; omega))
    have CH_4 := CH_3.and c4
    have CH_5 : Ch (At r) w w5 := CH_4.then c5 (by intro q h1 h2; rcases h2 with h2 | h2 <;> first | exact h2 | (exfalso; omega) | omega)
    exact ⟨(by omega), (by omega), b4_5, bk_5, row_5, (by have := o5; rw [Int.toNat_natCast, show ((d : Int) + (i : Int) + (j : Int) * (ju : Int)).toNat = d + i + j * ju by omega] at this; rw [← rowF_set (by omega)]; exact this), CH_5⟩
  · skip
    refine VC.exit (VQ.then_exit (VQ.then_exit (VQ.block_exit (VQ.then_code (VC.seq (VC.region (VO.mv (Rn.move rfl) rfl rfl rfl ?_)))))))
    refine VO.wk (Wk.call Tryz.call174 rfl (fly_Fly _ _ _ _ hnn _ _ af_3.sl)) rfl rfl rfl ?_
    rintro _ w6 ⟨q6, zs6, rfl, F6, sl6, e6, c6⟩
    have z6 := c6.size
    have ej : j = nn := by omega
    rw [ej, rowF_all, List.map_map] at F6
    refine VO.mv (Rn.move rfl) rfl rfl rfl (VO.mv (Rn.extract rfl rfl) rfl rfl rfl (VO.mv (Rn.extract rfl rfl) rfl rfl rfl (VO.mv (Rn.assign rfl) rfl rfl rfl (VO.mv (Rn.assign rfl) rfl rfl rfl (VO.nil (VQ.then_code (VC.seq ?_)))))))
    refine VC.seq (VC.region (VO.mv (Rn.move rfl) rfl rfl rfl (VO.mv (Rn.nil_neq_nil Tryz.underlying29 rfl) rfl rfl rfl (VO.nil (VQ.then_code (VC.cond_false rfl (VC.skip ?_)))))))
    refine VQ.then_code (VC.seq (VC.region (VO.mv (Rn.move rfl) rfl rfl rfl (VO.mv (Rn.len Tryz.underlying39 rfl) rfl rfl rfl (VO.mv (Rn.move rfl) rfl rfl rfl (VO.nil (VQ.then_code ?_)))))))
    refine VC.block ?_
    have b4_6 := b4_3.keep c6
    have bk_6 := bk_3.keep c6
    have row_6 := row_3.keep c6
    have CH_6 := CH_3.and c6
    refine VC.loopS (σ := Nat × List CB) (fun (j, ys) => [(0, .pointer (some ⟨m, 0, none⟩)), (2, .int .i64 i), (4, .pointer (some ⟨p1, 0, none⟩)), (46, .slice (some ⟨q6, 0, none⟩) nn nn), (47, .int .i64 nn), (48, .int .i64 j)]) (fun (j, ys) w' => j ≤ nn ∧ ys.map cx = putN (xs.map cx) (d + i) ju (zs6.map cx) j ∧ w6.heap.size ≤ w'.heap.size ∧ Bk w' p1 #[.int .i64 op, .int .i64 d, .int .i64 sr, .int .i64 ju, .int .i64 co, .int .i64 nn, .int .i64 kk] 163 ∧ Bk w' m (macV b N SA sc bs CA ac dn st at_) 165 ∧ CR 53 w' r CA N N ys ∧ SlR (Is q6) w' (some ⟨q6, 0, none⟩) nn 1 (zs6.map cxV) ∧ Ch (At r) w w') (fun (j, ys) => nn - j) (0, xs) ?_ ⟨rfl, rfl, rfl, rfl, rfl, rfl, trivial⟩ ?_
    · exact ⟨(by omega), (by rfl), (Nat.le_refl _), b4_6, bk_6, row_6, sl6, CH_6⟩
    rintro ⟨j, ys⟩ w7 ⟨hj, hy, hsz7, b4_7, bk_7, row_7, sl_7, CH_7⟩
    show VC _ _ _ _ [(0, .pointer (some ⟨m, 0, none⟩)), (2, .int .i64 i), (4, .pointer (some ⟨p1, 0, none⟩)), (46, .slice (some ⟨q6, 0, none⟩) nn nn), (47, .int .i64 nn), (48, .int .i64 j)] _
    have e0 : ((j * ju : Nat) : Int) = (j : Int) * (ju : Int) := by push_cast; rfl
    have hbj := hb j
    refine VC.seq (VC.region (VO.mv (Rn.lss rfl rfl) rfl rfl rfl (VO.nil (VQ.then_code (VC.seq (VC.cond_if rfl (fun hc2 => ?_) (fun hc2 => ?_)))))))
    · skip
      refine VC.skip (VQ.then_code (VC.seq (VC.block (VC.seq (VC.region (VO.mv (Rn.move rfl) rfl rfl rfl (VO.mv (Rn.indexS Tryz.underlying39 Tryz.sizeOf53 rfl rfl (sl_7.ne (by omega)) (by omega) (by omega)) rfl rfl rfl ?_)))))))
      refine VO.mv (Rn.load Tryz.isAgg53 rfl (sl_7.getC (by omega) (by omega))) rfl rfl rfl (VO.mv (Rn.assign rfl) rfl rfl rfl (VO.mv (Rn.assign rfl) rfl rfl rfl (VO.nil (VQ.then_code (VC.draws 15 [(0, true), (1, true), (2, true), (3, true), (4, true), (5, true), (6, true), (7, true), (8, true), (9, true), (10, true), (11, true), (12, true), (13, true), (14, true)] (fun w1 w' => Ch (No) w1 w') mixed (by kernel_rfl) (fun _ _ => Ch.refl _ _) ?_)))))
      intro w8 D8
      have c8 := Ch.of_drew D8; have z8 := c8.size
      have bk_8 := bk_7.keep c8
      have row_8 := row_7.keep c8
      have b4_8 := b4_7.keep c8
      have sl_8 := sl_7.keep c8
      refine VH.mv (fun w' hS => Rn.move rfl) rfl rfl rfl rfl (VH.mv (fun w' hS => Rn.nilCheck rfl) rfl rfl rfl rfl (VH.mv (fun w' hS => Rn.field Tryz.underlying165 rfl Tryz.sizeOf39 rfl rfl rfl) rfl rfl rfl rfl (VH.mv (fun w' hS => Rn.load Tryz.isAgg39 rfl ((bk_8.keep hS).cell rfl)) rfl rfl rfl rfl (VH.mv (fun w' hS => Rn.field Tryz.underlying163 rfl Tryz.sizeOf3 rfl rfl rfl) rfl rfl rfl rfl (VH.mv (fun w' hS => Rn.load Tryz.isAgg3 rfl ((b4_8.keep hS).cell rfl)) rfl rfl rfl rfl (VH.mv (fun w' hS => Rn.move rfl) rfl rfl rfl rfl ?_))))))
      refine VH.mv (fun w' hS => Rn.add rfl rfl (by rw [IntKind.wrap_i64]; omega)) rfl rfl rfl rfl ?_
      refine VH.mv (fun w' hS => Rn.move rfl) rfl rfl rfl rfl (VH.mv (fun w' hS => Rn.field Tryz.underlying163 rfl Tryz.sizeOf3 rfl rfl rfl) rfl rfl rfl rfl (VH.mv (fun w' hS => Rn.load Tryz.isAgg3 rfl ((b4_8.keep hS).cell rfl)) rfl rfl rfl rfl ?_))
      refine VH.mv (fun w' hS => Rn.mul rfl rfl (by rw [IntKind.wrap_i64]; omega)) rfl rfl rfl rfl ?_
      refine VH.mv (fun w' hS => Rn.add rfl rfl (by rw [IntKind.wrap_i64]; omega)) rfl rfl rfl rfl ?_
      refine VH.mv (fun w' hS => Rn.move rfl) rfl rfl rfl rfl (VH.mv (fun w' hS => Rn.indexS Tryz.underlying39 Tryz.sizeOf53 rfl rfl ((row_8.keep hS).sl.ne (by omega)) (by omega) (by omega)) rfl rfl rfl rfl (VH.done (VO.wk0 (Wk.putC Tryz.sizeOf53 rfl rfl (by omega) row_8) rfl rfl ?_)))
      rintro _ w9 ⟨o9, c9, z9⟩
      have y9 := o9.lt
      refine VO.nil (VQ.noPanic (VQ.block_normal (VQ.then_code (VC.region ?_))))
      refine VO.mv (Rn.add rfl rfl (by rw [IntKind.wrap_i64]; omega)) rfl rfl rfl ?_
      refine VO.mv (Rn.move rfl) rfl rfl rfl (VO.nil ?_)
      refine VQ.round (j + 1, ys.set (d + i + j * ju) (zs6.getD j (0, 0))) (by first | omega | (dsimp only; omega)) ?_ ⟨rfl, rfl, rfl, rfl, rfl, rfl, trivial⟩
      have b4_9 := b4_8.to c9 (by first | exact id | omega)
      have bk_9 := bk_8.to c9 (by first | exact id | omega)
      have sl_9 := sl_8.to c9 (by first | exact fun _ _ _ _ => id | (intro q h1 h2 hx h3; omega))
      have CH_8 := CH_7.and c8
      have CH_9 : Ch (At r) w w9 := CH_8.then c9 (by intro q h1 h2; rcases h2 with h2 | h2 <;> first | exact h2 | (exfalso; omega) | omega)
      exact ⟨(by omega), (by rw [List.map_set, hy]; show _ = (putN _ _ _ _ _).set _ _; rw [map_getD]), (by omega), b4_9, bk_9, (by have := o9; rw [Int.toNat_natCast, show ((d : Int) + (i : Int) + (j : Int) * (ju : Int)).toNat = d + i + j * ju by omega] at this; exact this), sl_9, CH_9⟩
    · skip
      refine VC.exit (VQ.then_exit (VQ.then_exit (VQ.block_exit (VQ.end0 rfl (Ret.mk ?_)))))
      have e : j = nn := by omega
      rw [e, F6] at hy
      exact ⟨rfl, _, ⟨bk_7, row_7, ne⟩, by rw [hy]; simp only [map_getD]; rfl, CH_7⟩

/-- The function that does an operation. -/
def tblF (op : Int) : FuncId := if op = 1 then 144 else if op = 5 then 148 else 149
theorem call_tbl {op : Int} (h : op = 1 ∨ op = 5 ∨ op = 6) (args : Array Value) (w : World) : (callFunc (tblF op) args).run Tryz.prog w = .ok (.enter (tblF op) args) w := by
  rcases h with rfl | rfl | rfl
  · exact Tryz.call144 args w
  · exact Tryz.call148 args w
  · exact Tryz.call149 args w
theorem act_ok (m r : Nat) (b : Bld) (N : Nat) (SA : Option Addr) (sc : Nat) (bs : ByteArray) (CA : Option Addr) (ac dn st at_ : Int) (xs : List CB) (w : World) (mr : MacR w m r b N SA sc bs CA ac dn st at_ xs) (hN : N ≤ 1000000) (s : Stp) (i : Nat) (h : StepOk s N) (hi : (i : Int) < s.count) :
    Calls Tryz.prog (tblF s.op) #[.pointer (some ⟨m, 0, none⟩), .agg #[.int .i64 s.op, .int .i64 s.dst, .int .i64 s.src, .int .i64 s.jump, .int .i64 s.count, .int .i64 s.n, .int .i64 s.k], .int .i64 i] w (Ret fun v w' => v = .tuple #[] ∧ ∃ ys, MacR w' m r b N SA sc bs CA ac dn st at_ ys ∧ ys.map cx = actC s i (xs.map cx) ∧ Ch (At r) w w') := by
  obtain ⟨op, dst, src, jump, count, n, k⟩ := s
  obtain ⟨h1, h1', h2, h3, h4, h4', h5⟩ := h
  simp only at h1 h1' h2 h3 h4 h4' h5 hi
  obtain ⟨d, rfl⟩ := nat_of h2
  obtain ⟨u, rfl⟩ := nat_of h3
  obtain ⟨v, rfl⟩ := nat_of (show 0 ≤ jump by omega)
  obtain ⟨c, rfl⟩ := nat_of (show 0 ≤ count by omega)
  have hm : ∀ a e : Nat, a ≤ e → a * v ≤ e * v := fun a e h => Nat.mul_le_mul_right v h
  rcases h5 with ⟨rfl, h6, h7⟩ | ⟨rfl, h6, h7⟩ | ⟨rfl, h6, h8, h9, h7⟩
  · have e : ((c : Int) - 1) * (v : Int) = (((c - 1) * v : Nat) : Int) := by push_cast [show 1 ≤ c by omega]; rfl
    rw [e] at h7
    have := hm i (c - 1) (by omega)
    exact act_gather m r b N SA sc bs CA ac dn st at_ xs w mr hN 1 c n k d u v i (by omega) (by omega)
  · obtain ⟨nn, rfl⟩ := nat_of (show 0 ≤ n by omega)
    have e : ((nn : Int) - 1) * (v : Int) = (((nn - 1) * v : Nat) : Int) := by push_cast [show 1 ≤ nn by omega]; rfl
    rw [e] at h7
    exact act_fly m r b N SA sc bs CA ac dn st at_ xs w mr hN 5 u c k d v nn i (by omega) (fun q hq => by have := hm q (nn - 1) (by omega); omega)
  · obtain ⟨nn, rfl⟩ := nat_of (show 0 ≤ n by omega)
    have e : ((nn : Int) - 1) * (v : Int) = (((nn - 1) * v : Nat) : Int) := by push_cast [show 1 ≤ nn by omega]; rfl
    rw [e] at h7
    have hn : nn = 1 ∨ nn = 2 ∨ nn = 4 := by omega
    exact act_direct m r b N SA sc bs CA ac dn st at_ xs w mr hN 6 c k d u v nn i (by omega) (by omega) (fun a => by rcases hn with rfl | rfl | rfl <;> omega) (by omega) (by omega) (by omega) (fun j hj => by have := hm j (nn - 1) (by omega); omega) (by omega)

end Go.Tm
namespace Go.Tm
open Go.RowKit Go.Proofs
abbrev MS (m r : Nat) : Nat → Prop := fun q => q = m ∨ r = q + 1
abbrev tblV : Array Value := #[.nilFunc, .func (.func 144) #[] #[], .func (.func 145) #[] #[], .func (.func 146) #[] #[], .func (.func 147) #[] #[], .func (.func 148) #[] #[], .func (.func 149) #[] #[], .func (.func 150) #[] #[], .func (.func 151) #[] #[], .func (.func 152) #[] #[], .func (.func 153) #[] #[], .func (.func 154) #[] #[]]
theorem tbl_cell {w : World} {p t : Nat} {op : Int} (h : Bk w p tblV t) (ho : op = 1 ∨ op = 5 ∨ op = 6) : w.cell? ((⟨p, 0, none⟩ : Addr).add (op.toNat * 1)) = some (.func (.func (tblF op)) #[] #[]) := by
  rcases ho with rfl | rfl | rfl
  · exact h.cell (i := 1) rfl
  · exact h.cell (i := 5) rfl
  · exact h.cell (i := 6) rfl

theorem bld168_1_2_3_4_5_6_7_8_9_10_11w42 {v1 v2 v3 v4 v5 v6 v7 v8 v9 v10 v11 : Value} (h : [v1, v2, v3, v4, v5, v6, v7, v8, v9, v10, v11].all Value.oneCell' = true) (w : World) : (Instr.build 168 ([(1, v1), (2, v2), (3, v3), (4, v4), (5, v5), (6, v6), (7, v7), (8, v8), (9, v9), (10, v10), (11, v11)] : List (Nat × Value)).toArray).run Tryz.prog w = .ok (.agg #[.nilFunc, v1, v2, v3, v4, v5, v6, v7, v8, v9, v10, v11]) w := by
  simp only [List.all_cons, Bool.and_eq_true, List.all_nil, and_true] at h
  have hv1 := oneCell_cells (v := v1) (by simp_all)
  have hv2 := oneCell_cells (v := v2) (by simp_all)
  have hv3 := oneCell_cells (v := v3) (by simp_all)
  have hv4 := oneCell_cells (v := v4) (by simp_all)
  have hv5 := oneCell_cells (v := v5) (by simp_all)
  have hv6 := oneCell_cells (v := v6) (by simp_all)
  have hv7 := oneCell_cells (v := v7) (by simp_all)
  have hv8 := oneCell_cells (v := v8) (by simp_all)
  have hv9 := oneCell_cells (v := v9) (by simp_all)
  have hv10 := oneCell_cells (v := v10) (by simp_all)
  have hv11 := oneCell_cells (v := v11) (by simp_all)
  have h1 := fill_set (fun i => some (i * 1, 1)) [(1, v1), (2, v2), (3, v3), (4, v4), (5, v5), (6, v6), (7, v7), (8, v8), (9, v9), (10, v10), (11, v11)] [.nilFunc, .nilFunc, .nilFunc, .nilFunc, .nilFunc, .nilFunc, .nilFunc, .nilFunc, .nilFunc, .nilFunc, .nilFunc, .nilFunc] (by simp [okF, agg_cells, hv1, hv2, hv3, hv4, hv5, hv6, hv7, hv8, hv9, hv10, hv11, Nat.beq, Nat.ble])
  simp [setF, agg_cells, hv1, hv2, hv3, hv4, hv5, hv6, hv7, hv8, hv9, hv10, hv11] at h1
  simp [Instr.build, Tryz.runUnderlying168, Tryz.zeroValue168, Tryz.sizeOf167, agg_cells, h1]
set_option maxRecDepth 100000 in
theorem m_table (w : World) :
    Calls Tryz.prog 121 #[] w (Ret (fun v w' => v = .agg tblV ∧ Ch No w w')) := by
  refine calls_of_VC (args := []) Tryz.func121 rfl Tryz.ntmps121 rfl (VC.seq (VC.region (VO.wk (Wk.alloc Tryz.zeroValue168) rfl rfl rfl ?_)))
  rintro _ w1 ⟨p1, rfl, N1⟩
  have c1 := N1.ch
  have e1 := N1.p; have z1 := N1.size
  have b0 := Bk.new N1
  refine VO.nil (VQ.then_code (VC.seq (VC.region (VO.mv (Rn.build rfl (bld168_1_2_3_4_5_6_7_8_9_10_11w42 rfl)) rfl rfl rfl (VO.wk0 (Wk.puts Tryz.sizeOf168 rfl rfl rfl rfl b0 (Nat.le_of_ble_eq_true rfl)) rfl rfl ?_)))))
  intro _ w2 Z2
  have c2 := Z2.ch; have z2 := Z2.size
  have b0_2 := Bk.put Z2
  refine VO.nil (VQ.then_code (VC.ret (VQ.retc rfl rfl Tryz.isAgg168 Tryz.sizeOf168 rfl (b0_2.all' rfl) (Ret.mk ?_))))
  have cc_0_2 : Ch No w w2 := (Ch.then (E := No) c1 c2 (by intro q h1 h2; rcases h2 with h2 | h2 <;> first | exact h2 | (exfalso; omega)))
  have CH_2 := (Ch.refl (No) w).and cc_0_2
  exact ⟨rfl, CH_2⟩

set_option maxRecDepth 100000 in
theorem m_Left (m : Nat) (b : Bld) (N : Nat) (SA : Option Addr) (sc : Nat) (bs : ByteArray) (CA : Option Addr) (ac dn st at_ : Int) (w : World) (bk : Bk w m (macV b N SA sc bs CA ac dn st at_) 165) (hac : 0 ≤ ac ∧ ac ≤ 1000000000) (hdn : 0 ≤ dn ∧ dn ≤ 1000000000) :
    Calls Tryz.prog 108 #[.pointer (some ⟨m, 0, none⟩)] w (Ret (fun v w' => v = .int .i64 (ac - dn) ∧ Ch No w w')) := by
  refine calls_of_VC (args := [.pointer (some ⟨m, 0, none⟩)]) Tryz.func108 rfl Tryz.ntmps108 rfl (VC.seq (VC.region (VO.mv (Rn.assign rfl) rfl rfl rfl (VO.nil (VQ.then_code (VC.seq (VC.draws 9 [(0, true), (1, true), (2, true), (3, true), (4, true), (5, true), (6, true), (7, true), (8, true)] (fun w1 w' => Ch (No) w1 w') mixed (by kernel_rfl) (fun _ _ => Ch.refl _ _) ?_)))))))
  intro w1 D1
  have c1 := Ch.of_drew D1; have z1 := c1.size
  have bk_1 := bk.keep c1
  refine VH.mv (fun w' hS => Rn.move rfl) rfl rfl rfl rfl (VH.mv (fun w' hS => Rn.nilCheck rfl) rfl rfl rfl rfl (VH.mv (fun w' hS => Rn.field Tryz.underlying165 rfl Tryz.sizeOf3 rfl rfl rfl) rfl rfl rfl rfl (VH.mv (fun w' hS => Rn.load Tryz.isAgg3 rfl ((bk_1.keep hS).cell rfl)) rfl rfl rfl rfl (VH.mv (fun w' hS => Rn.move rfl) rfl rfl rfl rfl (VH.mv (fun w' hS => Rn.nilCheck rfl) rfl rfl rfl rfl (VH.mv (fun w' hS => Rn.field Tryz.underlying165 rfl Tryz.sizeOf3 rfl rfl rfl) rfl rfl rfl rfl (VH.mv (fun w' hS => Rn.load Tryz.isAgg3 rfl ((bk_1.keep hS).cell rfl)) rfl rfl rfl rfl ?_)))))))
  refine VH.mv (fun w' hS => Rn.sub rfl rfl (by rw [IntKind.wrap_i64]; omega)) rfl rfl rfl rfl ?_
  refine VH.done (VO.mv (Rn.assign rfl) rfl rfl rfl (VO.nil (VQ.noPanic (VQ.then_code (VC.ret (VQ.ret1 rfl rfl (Ret.mk ?_)))))))
  have CH_1 := (Ch.refl (No) w).and c1
  exact ⟨rfl, CH_1⟩

set_option maxRecDepth 100000 in
theorem m_next (r : Nat) (m : Nat) (b : Bld) (N : Nat) (SA : Option Addr) (sc : Nat) (bs : ByteArray) (CA : Option Addr) (ac dn at_ : Int) (st : Nat) (w : World) (bk : Bk w m (macV b N SA sc bs CA ac dn st at_) 165) (S : Nat → Prop) (hS : ∀ q, S q → ¬ MS m r q) (ss : SlR S w SA b.steps.length 7 (flatS b.steps)) (s : Stp) (hs : b.steps[st]? = some s) (hat : at_ = s.count) (hl : b.steps.length ≤ 1000000) :
    Calls Tryz.prog 122 #[.pointer (some ⟨m, 0, none⟩)] w (Ret (fun v w' => v = .tuple #[] ∧ Bk w' m (macV b N SA sc bs CA ac dn (st + 1) 0) 165 ∧ Ch (Is m) w w')) := by
  have hjl := (List.getElem?_eq_some_iff.1 hs).1
  have ym := bk.lt
  refine calls_of_VC (args := [.pointer (some ⟨m, 0, none⟩)]) Tryz.func122 rfl Tryz.ntmps122 rfl (VC.seq ?_)
  have ks := sl_step ss rfl hs
  refine VC.draws 17 [(0, true), (1, true), (2, true), (3, true), (4, true), (5, true), (6, true), (7, true), (8, true), (9, true), (10, true), (11, true), (12, true), (13, true), (14, true), (15, true), (16, true)] (fun w1 w' => Ch (No) w1 w') mixed (by kernel_rfl) (fun _ _ => Ch.refl _ _) ?_
  intro w1 D1
  have c1 := Ch.of_drew D1; have z1 := c1.size
  have bk_1 := bk.keep c1
  have ss_1 := ss.keep c1
  have ks_1 := ks.keep c1
  refine VH.mv (fun w' hS => Rn.move rfl) rfl rfl rfl rfl (VH.mv (fun w' hS => Rn.nilCheck rfl) rfl rfl rfl rfl (VH.mv (fun w' hS => Rn.field Tryz.underlying165 rfl Tryz.sizeOf3 rfl rfl rfl) rfl rfl rfl rfl (VH.mv (fun w' hS => Rn.load Tryz.isAgg3 rfl ((bk_1.keep hS).cell rfl)) rfl rfl rfl rfl (VH.mv (fun w' hS => Rn.move rfl) rfl rfl rfl rfl (VH.mv (fun w' hS => Rn.nilCheck rfl) rfl rfl rfl rfl (VH.mv (fun w' hS => Rn.field Tryz.underlying165 rfl Tryz.sizeOf138 rfl rfl rfl) rfl rfl rfl rfl (VH.mv (fun w' hS => Rn.field Tryz.underlying138 rfl Tryz.sizeOf136 rfl rfl rfl) rfl rfl rfl rfl ?_)))))))
  refine VH.mv (fun w' hS => Rn.load Tryz.isAgg136 rfl ((bk_1.keep hS).cell rfl)) rfl rfl rfl rfl (VH.mv (fun w' hS => Rn.move rfl) rfl rfl rfl rfl (VH.mv (fun w' hS => Rn.nilCheck rfl) rfl rfl rfl rfl (VH.mv (fun w' hS => Rn.field Tryz.underlying165 rfl Tryz.sizeOf3 rfl rfl rfl) rfl rfl rfl rfl (VH.mv (fun w' hS => Rn.load Tryz.isAgg3 rfl ((bk_1.keep hS).cell rfl)) rfl rfl rfl rfl (VH.mv (fun w' hS => Rn.indexS Tryz.underlying136 Tryz.sizeOf163 rfl rfl (ss_1.ne (by omega)) (by omega) (by omega)) rfl rfl rfl rfl (VH.mv (fun w' hS => Rn.fieldA Tryz.underlying163 rfl Tryz.sizeOf3 rfl rfl rfl) rfl rfl rfl rfl (VH.mv (fun w' hS => Rn.load Tryz.isAgg3 rfl ((ks_1.keep hS).1 4 _ rfl)) rfl rfl rfl rfl ?_)))))))
  refine VH.mv (fun w' hS => Rn.eql rfl rfl) rfl rfl rfl rfl (VH.done (VO.nil (VQ.noPanic (VQ.then_code (VC.cond_if rfl (fun hc1 => ?_) (fun hc1 => ?_))))))
  · skip
    refine VC.region (VO.mv (Rn.move rfl) rfl rfl rfl (VO.mv (Rn.move rfl) rfl rfl rfl (VO.mv (Rn.move rfl) rfl rfl rfl (VO.mv (Rn.nilCheck rfl) rfl rfl rfl (VO.mv (Rn.field Tryz.underlying165 rfl Tryz.sizeOf3 rfl rfl rfl) rfl rfl rfl (VO.mv (Rn.load Tryz.isAgg3 rfl (bk_1.cell rfl)) rfl rfl rfl ?_))))))
    refine VO.mv (Rn.add rfl rfl (by rw [IntKind.wrap_i64]; omega)) rfl rfl rfl ?_
    refine VO.mv (Rn.nilCheck rfl) rfl rfl rfl (VO.mv (Rn.field Tryz.underlying165 rfl Tryz.sizeOf3 rfl rfl rfl) rfl rfl rfl (VO.wk0 (Wk.put Tryz.sizeOf3 rfl rfl rfl rfl bk_1 rfl) rfl rfl ?_))
    intro _ w2 Z2
    have c2 := Z2.ch; have z2 := Z2.size
    have bk_2 := Bk.put Z2
    refine VO.mv (Rn.nilCheck rfl) rfl rfl rfl (VO.mv (Rn.field Tryz.underlying165 rfl Tryz.sizeOf3 rfl rfl rfl) rfl rfl rfl (VO.wk0 (Wk.put Tryz.sizeOf3 rfl rfl rfl rfl bk_2 rfl) rfl rfl ?_))
    intro _ w3 Z3
    have c3 := Z3.ch; have z3 := Z3.size
    have bk_3 := Bk.put Z3
    refine VO.nil (VQ.end0 rfl (Ret.mk ?_))
    have CH_1 := (Ch.refl (Is m) w).and c1
    have CH_2 : Ch (Is m) w w2 := CH_1.then c2 (by intro q h1 h2; rcases h2 with h2 | h2 <;> first | exact h2 | (exfalso; omega) | omega)
    have CH_3 : Ch (Is m) w w3 := CH_2.then c3 (by intro q h1 h2; rcases h2 with h2 | h2 <;> first | exact h2 | (exfalso; omega) | omega)
    exact ⟨rfl, bk_3, CH_3⟩
  · skip
    omega

set_option maxHeartbeats 2000000 in
set_option maxRecDepth 100000 in
theorem m_Run (m r : Nat) (b : Bld) (N : Nat) (SA : Option Addr) (sc : Nat) (bs : ByteArray) (CA : Option Addr) (ac : Int) (xs : List CB) (w : World) (mr : MacR w m r b N SA sc bs CA ac 0 0 0 xs) (hN : N ≤ 1000000) (hac : ac = cntS b.steps) (hac1 : 1 ≤ ac) (hac2 : ac ≤ 100000000) (hok : ∀ s ∈ b.steps, StepOk s N) (hl : b.steps.length ≤ 1000000) (S : Nat → Prop) (hS : ∀ q, S q → ¬ MS m r q) (ss : SlR S w SA b.steps.length 7 (flatS b.steps))  :
    Calls Tryz.prog 109 #[.pointer (some ⟨m, 0, none⟩), .int .i64 ac] w (Ret (fun v w' => v = .tuple #[.int .i64 ac, .nilIface] ∧ ∃ ys, MacR w' m r b N SA sc bs CA ac ac b.steps.length 0 ys ∧ ys.map cx = runC b.steps (xs.map cx) ∧ Ch (MS m r) w w')) := by
  obtain ⟨bk, row, ne⟩ := id mr
  have yr := Ow.lt row; have ym := bk.lt
  have hmin : (if ac - 0 < ac then ac - 0 else ac) = ac := by split <;> omega
  refine calls_of_VC (args := [.pointer (some ⟨m, 0, none⟩), .int .i64 ac]) Tryz.func109 rfl Tryz.ntmps109 rfl (VC.seq (VC.region (VO.mv (Rn.assign rfl) rfl rfl rfl (VO.mv (Rn.assign rfl) rfl rfl rfl (VO.nil (VQ.then_code (VC.seq ?_)))))))
  refine VC.seq (VC.region (VO.mv (Rn.move rfl) rfl rfl rfl (VO.mv (Rn.lss rfl rfl) rfl rfl rfl (VO.nil (VQ.then_code (VC.cond_if rfl (fun hc1 => ?_) (fun hc1 => ?_)))))))
  · skip
    omega
  · skip
    refine VC.skip (VQ.then_code (VC.seq (VC.seq (VC.region (VO.mv (Rn.move rfl) rfl rfl rfl (VO.wk (Wk.call Tryz.call108 rfl (m_Left _ _ _ _ _ _ _ _ _ _ _ _ bk (by omega) (by omega))) rfl rfl rfl ?_))))))
    rintro _ w1 ⟨rfl, c1⟩
    have z1 := c1.size
    refine VO.mv (Rn.eql rfl rfl) rfl rfl rfl (VO.nil (VQ.then_code (VC.cond_if rfl (fun hc2 => ?_) (fun hc2 => ?_))))
    · skip
      omega
    · skip
      refine VC.skip (VQ.then_code (VC.seq (VC.region (VO.mv (Rn.move rfl) rfl rfl rfl (VO.mv (Rn.move rfl) rfl rfl rfl ?_)))))
      have bk_1 := bk.keep c1
      refine VO.wk (Wk.call Tryz.call108 rfl (m_Left _ _ _ _ _ _ _ _ _ _ _ _ bk_1 (by omega) (by omega))) rfl rfl rfl ?_
      rintro _ w2 ⟨rfl, c2⟩
      have z2 := c2.size
      refine VO.mv (Rn.minI rfl rfl) rfl rfl rfl (VO.mv (Rn.assign rfl) rfl rfl rfl (VO.nil (VQ.then_code (VC.seq (VC.region (VO.wk (Wk.call Tryz.call121 rfl (m_table _)) rfl rfl rfl ?_))))))
      rintro _ w3 ⟨rfl, c3⟩
      have z3 := c3.size
      refine VO.wk (Wk.alloc Tryz.zeroValue168) rfl rfl rfl ?_
      rintro _ w4 ⟨p4, rfl, N4⟩
      have c4 := N4.ch
      have e4 := N4.p; have z4 := N4.size
      have b6 := Bk.new N4
      refine VO.wk0 (Wk.puts Tryz.sizeOf168 rfl rfl rfl rfl b6 (Nat.le_of_ble_eq_true rfl)) rfl rfl ?_
      intro _ w5 Z5
      have c5 := Z5.ch; have z5 := Z5.size
      have b6_5 := Bk.put Z5
      refine VO.nil (VQ.then_code (VC.seq (VC.seq (VC.region (VO.mv (Rn.move rfl) rfl rfl rfl (VO.mv (Rn.assign rfl) rfl rfl rfl (VO.nil ?_)))))))
      refine VQ.then_code (VC.block ?_)
      have cc_1_5 : Ch No w1 w5 := (Ch.then (E := No) ((c2.and c3).and c4) c5 (by intro q h1 h2; rcases h2 with h2 | h2 <;> first | exact h2 | (exfalso; omega)))
      have bk_5 := bk_1.keep cc_1_5
      have cc_0_5 : Ch No w w5 := (Ch.then (E := No) (((c1.and c2).and c3).and c4) c5 (by intro q h1 h2; rcases h2 with h2 | h2 <;> first | exact h2 | (exfalso; omega)))
      have row_5 := row.keep cc_0_5
      have ss_5 := ss.keep cc_0_5
      have CH_5 := (Ch.refl (MS m r) w).and cc_0_5
      refine VC.loopS (σ := Nat × Int × List CB) (fun (j, lf, ys) => [(0, .pointer (some ⟨m, 0, none⟩)), (1, .int .i64 (if ac - 0 < ac then ac - 0 else ac)), (6, .pointer (some ⟨p4, 0, none⟩)), (7, .int .i64 lf)]) (fun (j, lf, ys) w' => j ≤ b.steps.length ∧ lf = cntS (b.steps.drop j) ∧ ys.map cx = runC (b.steps.take j) (xs.map cx) ∧ w5.heap.size ≤ w'.heap.size ∧ Bk w' m (macV b N SA sc bs CA ac 0 j 0) 165 ∧ CR 53 w' r CA N N ys ∧ Bk w' p4 tblV 168 ∧ SlR S w' SA b.steps.length 7 (flatS b.steps) ∧ Ch (MS m r) w w') (fun (j, lf, ys) => b.steps.length - j) (0, _, xs) ?_ ⟨rfl, rfl, rfl, rfl, trivial⟩ ?_
      · exact ⟨(Nat.zero_le _), (by rw [List.drop_zero]; omega), (by rfl), (Nat.le_refl _), bk_5, row_5, b6_5, ss_5, CH_5⟩
      rintro ⟨j, lf, ys⟩ w6 ⟨hj, hlf, hys, hsz6, bk_6, row_6, b6_6, ss_6, CH_6⟩
      show VC _ _ _ _ [(0, .pointer (some ⟨m, 0, none⟩)), (1, .int .i64 (if ac - 0 < ac then ac - 0 else ac)), (6, .pointer (some ⟨p4, 0, none⟩)), (7, .int .i64 lf)] _
      have hdl := cntS_drop_le hok j
      refine VC.seq (VC.seq (VC.region (VO.mv (Rn.move rfl) rfl rfl rfl (VO.mv (Rn.gtr rfl rfl) rfl rfl rfl (VO.nil (VQ.then_code (VC.cond_if rfl (fun hc3 => ?_) (fun hc3 => ?_))))))))
      · skip
        obtain ⟨s, hs⟩ := cntS_some (L := b.steps) (j := j) (by omega)
        have hsok := hok s (List.mem_of_getElem? hs)
        have hop := hsok.op
        have hcp := hsok.1
        have hcp2 := hsok.2.1
        have hcd := cntS_drop hs
        have hjl := (List.getElem?_eq_some_iff.1 hs).1
        have hdl1 := cntS_drop_le hok (j + 1)
        refine VC.skip (VQ.then_code (VC.block (VC.seq ?_)))
        have ks := sl_step ss_6 rfl hs
        refine VC.draws 12 [(0, true), (1, true), (2, true), (3, true), (4, true), (5, true), (6, true), (7, true), (8, true), (9, true), (10, true), (11, false)] (fun w1 w' => Ch (No) w1 w') mixed (by kernel_rfl) (fun _ _ => Ch.refl _ _) ?_
        intro w7 D7
        have c7 := Ch.of_drew D7; have z7 := c7.size
        have bk_7 := bk_6.keep c7
        have row_7 := row_6.keep c7
        have ss_7 := ss_6.keep c7
        have b6_7 := b6_6.keep c7
        have ks_7 := ks.keep c7
        refine VH.mv (fun w' hS => Rn.move rfl) rfl rfl rfl rfl (VH.mv (fun w' hS => Rn.nilCheck rfl) rfl rfl rfl rfl (VH.mv (fun w' hS => Rn.field Tryz.underlying165 rfl Tryz.sizeOf138 rfl rfl rfl) rfl rfl rfl rfl (VH.mv (fun w' hS => Rn.field Tryz.underlying138 rfl Tryz.sizeOf136 rfl rfl rfl) rfl rfl rfl rfl (VH.mv (fun w' hS => Rn.load Tryz.isAgg136 rfl ((bk_7.keep hS).cell rfl)) rfl rfl rfl rfl (VH.mv (fun w' hS => Rn.move rfl) rfl rfl rfl rfl (VH.mv (fun w' hS => Rn.nilCheck rfl) rfl rfl rfl rfl (VH.mv (fun w' hS => Rn.field Tryz.underlying165 rfl Tryz.sizeOf3 rfl rfl rfl) rfl rfl rfl rfl ?_)))))))
        refine VH.mv (fun w' hS => Rn.load Tryz.isAgg3 rfl ((bk_7.keep hS).cell rfl)) rfl rfl rfl rfl (VH.mv (fun w' hS => Rn.indexS Tryz.underlying136 Tryz.sizeOf163 rfl rfl (ss_7.ne (by omega)) (by omega) (by omega)) rfl rfl rfl rfl (VH.mv (fun w' hS => Rn.loads Tryz.isAgg163 Tryz.sizeOf163 rfl rfl (ks_7.keep hS).1) rfl rfl rfl rfl (VH.wk (Wk.alloc Tryz.zeroValue163) rfl rfl rfl rfl ?_)))
        rintro _ w8 ⟨p8, rfl, N8⟩
        have c8 := N8.ch
        have e8 := N8.p; have z8 := N8.size
        have b8 := Bk.new N8
        have RD_8 := (Ch.refl (No) w7).and c8
        refine ⟨RD_8, ?_⟩
        refine VH.done (VO.wk0 (Wk.puts Tryz.sizeOf163 rfl rfl rfl rfl b8 (Nat.le_of_ble_eq_true rfl)) rfl rfl ?_)
        intro _ w9 Z9
        have c9 := Z9.ch; have z9 := Z9.size
        have b8_9 := Bk.put Z9
        refine VO.nil (VQ.noPanic (VQ.then_code (VC.seq (VC.draws 9 [(0, true), (1, true), (2, true), (3, true), (4, true), (5, true), (6, true), (7, true), (8, true)] (fun w1 w' => Ch (No) w1 w') mixed (by kernel_rfl) (fun _ _ => Ch.refl _ _) ?_))))
        intro w10 D10
        have c10 := Ch.of_drew D10; have z10 := c10.size
        have cc_7_10 : Ch No w7 w10 := ((Ch.then (E := No) c8 c9 (by intro q h1 h2; rcases h2 with h2 | h2 <;> first | exact h2 | (exfalso; omega))).and c10)
        have bk_10 := bk_7.keep cc_7_10
        have row_10 := row_7.keep cc_7_10
        have ss_10 := ss_7.keep cc_7_10
        have b6_10 := b6_7.keep cc_7_10
        have ks_10 := ks_7.keep cc_7_10
        have b8_10 := b8_9.keep c10
        refine VH.mv (fun w' hS => Rn.move rfl) rfl rfl rfl rfl (VH.mv (fun w' hS => Rn.nilCheck rfl) rfl rfl rfl rfl (VH.mv (fun w' hS => Rn.field Tryz.underlying165 rfl Tryz.sizeOf3 rfl rfl rfl) rfl rfl rfl rfl (VH.mv (fun w' hS => Rn.load Tryz.isAgg3 rfl ((bk_10.keep hS).cell rfl)) rfl rfl rfl rfl (VH.mv (fun w' hS => Rn.move rfl) rfl rfl rfl rfl ?_))))
        refine VH.mv (fun w' hS => Rn.add rfl rfl (by rw [IntKind.wrap_i64]; omega)) rfl rfl rfl rfl ?_
        refine VH.mv (fun w' hS => Rn.field Tryz.underlying163 rfl Tryz.sizeOf3 rfl rfl rfl) rfl rfl rfl rfl (VH.mv (fun w' hS => Rn.load Tryz.isAgg3 rfl ((b8_10.keep hS).cell rfl)) rfl rfl rfl rfl (VH.mv (fun w' hS => Rn.minI rfl rfl) rfl rfl rfl rfl (VH.done (VO.mv (Rn.assign rfl) rfl rfl rfl (VO.nil (VQ.noPanic (VQ.then_code ?_)))))))
        refine VC.seq (VC.region (VO.mv (Rn.move rfl) rfl rfl rfl (VO.mv (Rn.move rfl) rfl rfl rfl (VO.mv (Rn.move rfl) rfl rfl rfl (VO.mv (Rn.nilCheck rfl) rfl rfl rfl (VO.mv (Rn.field Tryz.underlying165 rfl Tryz.sizeOf3 rfl rfl rfl) rfl rfl rfl (VO.mv (Rn.load Tryz.isAgg3 rfl (bk_10.cell rfl)) rfl rfl rfl ?_)))))))
        refine VO.mv (Rn.sub rfl rfl (by rw [IntKind.wrap_i64]; omega)) rfl rfl rfl ?_
        refine VO.mv (Rn.sub rfl rfl (by rw [IntKind.wrap_i64]; omega)) rfl rfl rfl ?_
        refine VO.mv (Rn.assign rfl) rfl rfl rfl (VO.nil (VQ.then_code (VC.seq (VC.block ?_))))
        have cc_6_10 : Ch No w6 w10 := ((Ch.then (E := No) (c7.and c8) c9 (by intro q h1 h2; rcases h2 with h2 | h2 <;> first | exact h2 | (exfalso; omega))).and c10)
        have CH_10 := CH_6.and cc_6_10
        refine VC.loopS (σ := Nat × Int × Int × List CB) (fun (i, l2, tt, ys2) => [(0, .pointer (some ⟨m, 0, none⟩)), (1, .int .i64 (if ac - 0 < ac then ac - 0 else ac)), (6, .pointer (some ⟨p4, 0, none⟩)), (7, .int .i64 l2), (8, .pointer (some ⟨p8, 0, none⟩)), (9, .int .i64 tt)]) (fun (i, l2, tt, ys2) w' => i ≤ s.count.toNat ∧ l2 = lf - s.count ∧ tt = s.count ∧ ys2.map cx = actsC s (ys.map cx) i ∧ w10.heap.size ≤ w'.heap.size ∧ Bk w' m (macV b N SA sc bs CA ac 0 j i) 165 ∧ CR 53 w' r CA N N ys2 ∧ Bk w' p4 tblV 168 ∧ Bk w' p8 s.cells.toArray 163 ∧ SlR S w' SA b.steps.length 7 (flatS b.steps) ∧ Ch (MS m r) w w') (fun (i, l2, tt, ys2) => s.count.toNat - i) (0, _, _, ys) ?_ ⟨rfl, rfl, rfl, rfl, rfl, rfl, trivial⟩ ?_
        · exact ⟨(Nat.zero_le _), (by split <;> omega), (by split <;> omega), (by rfl), (Nat.le_refl _), bk_10, row_10, b6_10, b8_10, ss_10, CH_10⟩
        rintro ⟨i, l2, tt, ys2⟩ w11 ⟨hi, hl2, htt, hys2, hsz11, bk_11, row_11, b6_11, b8_11, ss_11, CH_11⟩
        show VC _ _ _ _ [(0, .pointer (some ⟨m, 0, none⟩)), (1, .int .i64 (if ac - 0 < ac then ac - 0 else ac)), (6, .pointer (some ⟨p4, 0, none⟩)), (7, .int .i64 l2), (8, .pointer (some ⟨p8, 0, none⟩)), (9, .int .i64 tt)] _
        refine VC.seq (VC.seq (VC.region (VO.mv (Rn.move rfl) rfl rfl rfl (VO.mv (Rn.nilCheck rfl) rfl rfl rfl (VO.mv (Rn.field Tryz.underlying165 rfl Tryz.sizeOf3 rfl rfl rfl) rfl rfl rfl (VO.mv (Rn.load Tryz.isAgg3 rfl (bk_11.cell rfl)) rfl rfl rfl (VO.mv (Rn.move rfl) rfl rfl rfl ?_)))))))
        refine VO.mv (Rn.lss rfl rfl) rfl rfl rfl (VO.nil (VQ.then_code (VC.cond_if rfl (fun hc4 => ?_) (fun hc4 => ?_))))
        · skip
          refine VC.skip (VQ.then_code (VC.seq (VC.block (VC.draws 11 [(0, true), (1, true), (2, true), (3, true), (4, true), (5, true), (6, true), (7, true), (8, true), (9, true), (10, false)] (fun w1 w' => Ch (At r) w1 w') mixed (by kernel_rfl) (fun _ _ => Ch.refl _ _) ?_))))
          intro w12 D12
          have c12 := Ch.of_drew D12; have z12 := c12.size
          have bk_12 := bk_11.keep c12
          have row_12 := row_11.keep c12
          have ss_12 := ss_11.keep c12
          have b6_12 := b6_11.keep c12
          have b8_12 := b8_11.keep c12
          refine VH.mv (fun w' hS => Rn.field Tryz.underlying163 rfl Tryz.sizeOf3 rfl rfl rfl) rfl rfl rfl rfl (VH.mv (fun w' hS => Rn.load Tryz.isAgg3 rfl ((b8_12.to hS (by first | exact id | omega)).cell rfl)) rfl rfl rfl rfl (VH.mv (fun w' hS => Rn.indexArr Tryz.underlying168 Tryz.sizeOf167 rfl rfl (by omega) (by omega)) rfl rfl rfl rfl (VH.mv (fun w' hS => Rn.load Tryz.isAgg167 rfl (tbl_cell (b6_12.to hS (by omega)) hop)) rfl rfl rfl rfl (VH.mv (fun w' hS => Rn.move rfl) rfl rfl rfl rfl (VH.mv (fun w' hS => Rn.loads Tryz.isAgg163 Tryz.sizeOf163 rfl rfl ((b8_12.to hS (by first | exact id | omega)).all' rfl)) rfl rfl rfl rfl (VH.mv (fun w' hS => Rn.move rfl) rfl rfl rfl rfl (VH.mv (fun w' hS => Rn.nilCheck rfl) rfl rfl rfl rfl ?_)))))))
          refine VH.mv (fun w' hS => Rn.field Tryz.underlying165 rfl Tryz.sizeOf3 rfl rfl rfl) rfl rfl rfl rfl (VH.mv (fun w' hS => Rn.load Tryz.isAgg3 rfl ((bk_12.to hS (by first | exact id | omega)).cell rfl)) rfl rfl rfl rfl (VH.wk (Wk.callv (call_tbl hop) rfl rfl (by rfl) (act_ok _ _ _ _ _ _ _ _ _ _ _ _ _ _ ⟨bk_12, row_12, ne⟩ hN s i hsok (by omega))) rfl rfl rfl rfl ?_))
          rintro _ w13 ⟨rfl, zs13, mr13, hz13, c13⟩
          obtain ⟨bk13, row13, -⟩ := id mr13
          have z13 := c13.size
          have RD_13 : Ch (At r) w12 w13 := (Ch.refl (At r) w12).then c13 (by intro q h1 h2; rcases h2 with h2 | h2 <;> first | exact h2 | (exfalso; omega) | omega)
          refine ⟨RD_13, ?_⟩
          refine VH.done (VO.nil (VQ.noPanic (VQ.block_normal (VQ.then_code (VC.region (VO.mv (Rn.move rfl) rfl rfl rfl (VO.mv (Rn.nilCheck rfl) rfl rfl rfl ?_)))))))
          refine VO.mv (Rn.field Tryz.underlying165 rfl Tryz.sizeOf3 rfl rfl rfl) rfl rfl rfl (VO.mv (Rn.load Tryz.isAgg3 rfl (bk13.cell rfl)) rfl rfl rfl ?_)
          refine VO.mv (Rn.add rfl rfl (by rw [IntKind.wrap_i64]; omega)) rfl rfl rfl ?_
          refine VO.mv (Rn.nilCheck rfl) rfl rfl rfl (VO.mv (Rn.field Tryz.underlying165 rfl Tryz.sizeOf3 rfl rfl rfl) rfl rfl rfl (VO.wk0 (Wk.put Tryz.sizeOf3 rfl rfl rfl rfl bk13 rfl) rfl rfl ?_))
          intro _ w14 Z14
          have c14 := Z14.ch; have z14 := Z14.size
          have bk_14 := Bk.put Z14
          refine VO.nil ?_
          refine VQ.round (i + 1, l2, tt, zs13) (by first | omega | (dsimp only; omega)) ?_ ⟨rfl, rfl, rfl, rfl, rfl, rfl, trivial⟩
          have row_14 := row13.to c14 (by first | exact fun _ _ _ _ => id | (intro q h1 h2 hx h3; omega))
          have b6_13 := b6_12.to c13 (by first | exact id | omega)
          have b6_14 := b6_13.to c14 (by first | exact id | omega)
          have b8_13 := b8_12.to c13 (by first | exact id | omega)
          have b8_14 := b8_13.to c14 (by first | exact id | omega)
          have ss_13 := ss_12.to c13 (fun _ _ h2 _ h3 => hS _ h2 (by first | exact .inr h3 | exact .inl h3 | exact h3))
          have ss_14 := ss_13.to c14 (fun _ _ h2 _ h3 => hS _ h2 (by first | exact .inr h3 | exact .inl h3 | exact h3))
          have CH_12 := CH_11.and c12
          have CH_13 : Ch (MS m r) w w13 := CH_12.then c13 (by intro q h1 h2; rcases h2 with h2 | h2 <;> first | exact h2 | (exfalso; omega) | omega)
          have CH_14 : Ch (MS m r) w w14 := CH_13.then c14 (by intro q h1 h2; rcases h2 with h2 | h2 <;> first | exact h2 | (exfalso; omega) | omega)
          exact ⟨(by omega), (by omega), (by omega), (by rw [hz13, hys2]; rfl), (by omega), bk_14, row_14, b6_14, b8_14, ss_14, CH_14⟩
        · skip
          refine VC.exit (VQ.then_exit (VQ.then_exit (VQ.block_exit (VQ.then_code (VC.region (VO.mv (Rn.move rfl) rfl rfl rfl (VO.wk (Wk.call Tryz.call122 rfl (m_next r m b N SA sc bs CA ac 0 _ _ _ bk_11 S hS ss_11 s hs (by omega) hl)) rfl rfl rfl ?_)))))))
          rintro _ w15 ⟨rfl, bk15, c15⟩
          have z15 := c15.size
          refine VO.nil (VQ.block_normal ?_)
          refine VQ.round (j + 1, _, ys2) (by first | omega | (dsimp only; omega)) ?_ ⟨rfl, rfl, rfl, rfl, trivial⟩
          have row_15 := row_11.to c15 (by first | exact fun _ _ _ _ => id | (intro q h1 h2 hx h3; omega))
          have b6_15 := b6_11.to c15 (by first | exact id | omega)
          have ss_15 := ss_11.to c15 (fun _ _ h2 _ h3 => hS _ h2 (by first | exact .inr h3 | exact .inl h3 | exact h3))
          have CH_15 : Ch (MS m r) w w15 := CH_11.then c15 (by intro q h1 h2; rcases h2 with h2 | h2 <;> first | exact h2 | (exfalso; omega) | omega)
          exact ⟨(by omega), (by omega), (by rw [runC_take hs, ← hys, hys2]; congr 1; omega), (by omega), bk15, row_15, b6_15, ss_15, CH_15⟩
      · skip
        refine VC.exit (VQ.then_exit (VQ.then_exit (VQ.block_exit (VQ.then_code (VC.seq (VC.region (VO.mv (Rn.move rfl) rfl rfl rfl ?_)))))))
        refine VO.mv (Rn.nilCheck rfl) rfl rfl rfl (VO.mv (Rn.field Tryz.underlying165 rfl Tryz.sizeOf3 rfl rfl rfl) rfl rfl rfl (VO.mv (Rn.load Tryz.isAgg3 rfl (bk_6.cell rfl)) rfl rfl rfl (VO.mv (Rn.move rfl) rfl rfl rfl ?_)))
        refine VO.mv (Rn.add rfl rfl (by rw [IntKind.wrap_i64]; omega)) rfl rfl rfl ?_
        refine VO.mv (Rn.nilCheck rfl) rfl rfl rfl (VO.mv (Rn.field Tryz.underlying165 rfl Tryz.sizeOf3 rfl rfl rfl) rfl rfl rfl (VO.wk0 (Wk.put Tryz.sizeOf3 rfl rfl rfl rfl bk_6 rfl) rfl rfl ?_))
        intro _ w16 Z16
        have c16 := Z16.ch; have z16 := Z16.size
        have bk_16 := Bk.put Z16
        refine VO.nil (VQ.then_code (VC.seq (VC.region (VO.mv (Rn.move rfl) rfl rfl rfl (VO.mv (Rn.assign rfl) rfl rfl rfl (VO.mv (Rn.assign rfl) rfl rfl rfl (VO.nil ?_)))))))
        refine VQ.then_code (VC.ret (VQ.ret2 rfl rfl rfl (Ret.mk ?_)))
        have hlf0 : cntS (b.steps.drop j) = 0 := by omega
        obtain ⟨e1, e2⟩ := cntS_all hok hlf0
        have e3 : j = b.steps.length := by omega
        rw [e1] at hys
        have bk9 : Bk w16 m (macV b N SA sc bs CA ac (0 + (if ac - 0 < ac then ac - 0 else ac)) j 0) 165 := bk_16
        rw [hmin, Int.zero_add, e3] at bk9
        have row_16 := row_6.to c16 (by first | exact fun _ _ _ _ => id | (intro q h1 h2 hx h3; omega))
        have CH_16 : Ch (MS m r) w w16 := CH_6.then c16 (by intro q h1 h2; rcases h2 with h2 | h2 <;> first | exact h2 | (exfalso; omega) | omega)
        exact ⟨by rw [hmin], _, ⟨bk9, row_16, ne⟩, hys, CH_16⟩

end Go.Tm
