/- Lemmas of this claim, joined by program. Walks of functions: compile, deep: one step. Walks of functions: compile whole; plans. Good orders: how long their texts are. Walks of functions: plans. Walks of functions: plans, by a policy; what a plan tells. Lengths from 1 to 24 have plans: the kernel reckons them. Walks of functions: pack (small), plans of the law. Walks of functions: bytes of numbers and texts. Walks of functions: a program's bytes. Owned rows written into, cleared, resliced; copies. Texts as lists of bytes. Rules with an answer that is known. Walks of functions: a program's bytes, put together. Floats: a plain float is its bits, or none: a NaN (whose bits no rule names). What each operation gives. Rows of complex numbers; comparisons of floats; make, clear and copy over owned rows; arrays and slices of them. The machine in plain Lean: complex numbers as pairs of floats, butterflies, roots, sums, acts. Conditions: each lemma names its own. -/
import Derived.Test.YtpfglkohcfjelaaGreatDoorJ07
import Derived.Test.YtpfglkohcfjelaaGreatDoorJ05
import Derived.Test.YtpfglkohcfjelaaGreatDoorJ03
import Derived.KernelRfl
import Derived.Test.YtpfglkohcfjelaaGreatDoorJ01
import Derived.Test.YtpfglkohcfjelaaGreatDoorJ02
import Derived.Laws.FloatArith
import Derived.Laws.NewFold
import Derived.Laws.CopyRow
import Derived.Laws.IdiomCopy
set_option linter.all false
namespace Go.Tm
open Go.RowKit Go.Proofs Go.Proofs.Tryz
theorem go_n {o : Ord} (h : GO o) (hk : o.kind = 1 ∨ o.kind = 2) : 1 ≤ o.n ∧ o.n ≤ 64 := by
 cases h with
 | direct h1 h2 => exact ⟨h1, h2⟩
 | fly h1 h2 => simp only [Ord.n]; omega
 | times _ _ _ _ _ => simp [Ord.kind] at hk
 | blue _ _ _ _ => simp [Ord.kind] at hk
theorem go_kind {o : Ord} (h : GO o) : o.kind = 1 ∨ o.kind = 2 ∨ o.kind = 3 ∨ o.kind = 4 := by cases h <;> simp [Ord.kind]
theorem go_times {o : Ord} (h : GO o) (hk : o.kind = 3) : ∃ a e, o.kids = [a, e] ∧ 2 ≤ a.len ∧ 2 ≤ e.len ∧ a.len * e.len ≤ 16384 := by
 cases h with
 | direct h1 h2 => simp [Ord.kind] at hk
 | fly h1 h2 => simp [Ord.kind] at hk
 | times _ _ h1 h2 h3 => exact ⟨_, _, rfl, h1, h2, h3⟩
 | blue _ _ _ _ => simp [Ord.kind] at hk
theorem go_blue {o : Ord} (h : GO o) (hk : o.kind = 4) : ∃ a, o.kids = [a] ∧ 2 ≤ o.n ∧ o.n ≤ 16384 := by
 cases h with
 | direct h1 h2 => simp [Ord.kind] at hk
 | fly h1 h2 => simp [Ord.kind] at hk
 | times _ _ h1 h2 h3 => simp [Ord.kind] at hk
 | blue h1 h2 _ _ => exact ⟨_, rfl, h1, h2⟩
set_option maxHeartbeats 2000000 in
set_option maxRecDepth 100000 in
theorem deep_step (o : Ord) (hgo : GO o) (hkT : ∀ a ∈ o.kids, DeepOk a ∧ GO a ∧ a.len = sl a) (q r : Nat) (x : Inst) (b : Bld) (A : Option Addr) (c lo hi : Nat) (w : World) (kd : RdK (In lo hi) w A o.kids) (hh : hi ≤ w.heap.size) (hq2 : q < lo ∨ hi ≤ q) (hr2 : r ≤ lo ∨ hi < r) (hq : 24 ≤ q) (hr : r = 0 ∨ 24 < r) (bb : BB w q r b) (ok : BdOk b) (hx : XOk x (sl o)) (st : StT w) :
  Calls prog 173 #[Kh q, ordV o A c, instV x] w (Ret (fun v w' => ∃ r', v = .tuple #[] ∧ BB w' q r' (deepM o x b) ∧ (r' = r ∨ w.heap.size < r') ∧ Ch (QR q r) w w')) := by
 have lb := bb.lt
 have okb := ok.bd; have hkp := deepM_keeps hgo
 refine Ku func173 O ntmps173 O (Kb (Km (Cp O) O ?_))
 intro p1 w1 b4 c1 e1 z1
 refine Km (Cp O) O ?_
 intro p2 w2 b5 c2 e2 z2
 refine Wz (Kb (Wu O O ?_))
 have bb_2 := bb.keep (c1.trans c2)
 refine Oq (Qi call175 O (bb_full _ _ _ _ bb_2)) O ?_
 rintro _ _ ⟨rfl, rfl⟩
 refine Ka (Cq O (fun hc1 => ?_) (fun hc1 => ?_))
 ·
  try simp only [bX] at hc1
  refine Qp (Qw (VQ.ret0 O (Kx ?_)))
  have CH_2 := (Ch.refl (QR q r) w).and (c1.trans c2)
  exact ⟨r, O, by rw [deepM_full hc1]; exact bb_2, .inl O, CH_2⟩
 try simp only [bX] at hc1
 refine Qn (Qa (Qe ?_))
 obtain ⟨bA, bC, bk, row⟩ := id bb_2
 refine Qb (Wu O O (Om (Qq O) O (Om (Qh υ178 O ς3 O O O) O (Om (Qg ι3 O (bk.cell O)) O (Ww O O (Ka ?_))))))
 refine Qe (Kb (Om (Qh υ53 O ς3 O O O) O ?_))
 have b4_2 := b4.keep c2
 refine Om (Qg ι3 O (b4_2.cell O)) O (Ka (Qt (Kb (Om (Cg O O) O (Ww O O ?_)))))
 refine Ka (Qj O (fun hc2 => ?_) (fun hc2 => ?_))
 ·
  have hgn := go_n hgo (by omega)
  refine Qb (Wu O O (Om (Qz ι217 ς217 O O (b5.all' O)) O (Om (Qh υ53 O ς3 O O O) O (Om (Qg ι3 O (b4_2.cell O)) O (Oq (Qi call223 O (c_direct x.src x.jump x.dst o.n _)) O ?_)))))
  rintro _ w3 ⟨rfl, c3⟩
  have z3 := c3.size
  have bb_3 := bb_2.keep c3
  have st_3 := st.keep (c1.trans (c2.trans c3))
  refine Oq (Qi κ222 O (bb_add _ _ (b) (directS x o.n) _ bb_3 (ok) st_3 (by simp only [directS]; omega))) O ?_
  rintro _ w4 ⟨r4, rfl, bb4, y4, c4⟩
  have lb4 := bb4.lt
  have z4 := c4.size
  refine Qf (Ql (Qa ?_))
  obtain ⟨bA2, bC2, bk2, row2⟩ := id bb4
  refine Qb (Wu O O (Wu O O (Om (Qq O) O (Om (Qh υ178 O ς3 O O O) O (Ks (Rk ς3 O O O O bk2 O) O ?_)))))
  intro w5 c5 z5 bk_5
  refine Qf (Rp O (Kx ?_))
  have row_5 := row2.to c5
  have rrow := row_5
  have CH_3 := (Ch.refl (QR q r) w).and (c1.trans (c2.trans c3))
  have CH_4 : Ch (QR q r) w w4 := CH_3.then c4
  have CH_5 : Ch (QR q r) w w5 := CH_4.then c5
  have rch := CH_5
  refine ⟨r4, O, ?_, by omega, rch⟩
  first | rw [deepM_direct hc1 hc2] | rw [deepM_fly hc1 hc3] | rw [deepM_times hc1 hc4 hab] | rw [deepM_blue hc1 hc5 hab]
  exact ⟨bA2, bC2, bk_5, rrow⟩
 refine Kb (Om (Cg O O) O (Ww O O (Ka (Qj O (fun hc3 => ?_) (fun hc3 => ?_)))))
 ·
  have hgn := go_n hgo (by omega)
  refine Kb (Wu O O (Om (Qh υ217 O ς3 O O O) O (Om (Qg ι3 O (b5.cell O)) O (Om (Qh υ217 O ς3 O O O) O (Om (Qg ι3 O (b5.cell O)) O (Om (Qh υ217 O ς3 O O O) O ?_))))))
  refine Om (Qg ι3 O (b5.cell O)) O (Om (Qh υ53 O ς3 O O O) O (Om (Qg ι3 O (b4_2.cell O)) O (Oq (Qi call224 O (c_gather x.dst x.src x.jump o.n _)) O ?_)))
  rintro _ w6 ⟨rfl, c6⟩
  have z6 := c6.size
  have bb_6 := bb_2.keep c6
  have st_6 := st.keep (c1.trans (c2.trans c6))
  refine Oq (Qi κ222 O (bb_add _ _ (b) (gatherS x.dst x.src x.jump o.n) _ bb_6 (ok) st_6 (by simp only [gatherS]; omega))) O ?_
  rintro _ w7 ⟨r7, rfl, bb7, y7, c7⟩
  have lb7 := bb7.lt
  have z7 := c7.size
  refine Ka (Qb (Wu O O (Om (Qh υ217 O ς3 O O O) O ?_)))
  have b5_6 := b5.keep c6
  have b5_7 := b5_6.to c7
  refine Om (Qg ι3 O (b5_7.cell O)) O (Om (Qh υ53 O ς3 O O O) O ?_)
  have b4_6 := b4_2.keep c6
  have b4_7 := b4_6.to c7
  refine Om (Qg ι3 O (b4_7.cell O)) O (Oq (Qi call225 O (c_fly x.dst 1 1 o.n _)) O ?_)
  rintro _ w8 ⟨rfl, c8⟩
  have z8 := c8.size
  have bb_8 := bb7.keep c8
  have st_7 := st_6.to c7
  have st_8 := st_7.keep c8
  refine Oq (Qi κ222 O (bb_add _ _ (b.add (gatherS x.dst x.src x.jump o.n)) (flyS x.dst 1 1 o.n) _ bb_8 (ok.add _) st_8 (by simp only [flyS]; omega))) O ?_
  rintro _ w9 ⟨r9, rfl, bb9, y9, c9⟩
  have lb9 := bb9.lt
  have z9 := c9.size
  refine Qf (Ql (Qa ?_))
  obtain ⟨bA2, bC2, bk2, row2⟩ := id bb9
  refine Qb (Wu O O (Wu O O (Om (Qq O) O (Om (Qh υ178 O ς3 O O O) O (Ks (Rk ς3 O O O O bk2 O) O ?_)))))
  intro w10 c10 z10 bk_10
  refine Qf (Rp O (Kx ?_))
  have row_10 := row2.to c10
  have rrow := row_10
  have CH_6 := (Ch.refl (QR q r) w).and (c1.trans (c2.trans c6))
  have CH_7 : Ch (QR q r) w w7 := CH_6.then c7
  have CH_8 := CH_7.and c8
  have CH_9 : Ch (QR q r) w w9 := CH_8.then c9
  have CH_10 : Ch (QR q r) w w10 := CH_9.then c10
  have rch := CH_10
  refine ⟨r9, O, ?_, by omega, rch⟩
  first | rw [deepM_direct hc1 hc2] | rw [deepM_fly hc1 hc3] | rw [deepM_times hc1 hc4 hab] | rw [deepM_blue hc1 hc5 hab]
  exact ⟨bA2, bC2, bk_10, rrow⟩
 refine Kb (Om (Cg O O) O (Ww O O (Ka (Qj O (fun hc4 => ?_) (fun hc4 => ?_)))))
 ·
  obtain ⟨a, e, hab, g1, g2, g3⟩ := go_times hgo hc4
  have ha9 : a ∈ o.kids := by rw [hab]; simp
  have he9 : e ∈ o.kids := by rw [hab]; simp
  refine Qb (Wu O O (Om (Qz ι53 ς53 O O (b4_2.all' O)) O (Om (Qz ι217 ς217 O O (b5.all' O)) O ?_)))
  have kd_2 := kd.keep (c1.trans c2)
  have st_2 := st.keep (c1.trans c2)
  refine Oq (Qi call226 O (deepTimes o a e hab hc4 (hkT a ha9).1 (hkT e he9).1 (hkT a ha9).2.1 (hkT e he9).2.1 g1 g2 g3 (hkT a ha9).2.2 (hkT e he9).2.2 _ _ x b _ _ _ _ _ kd_2 (by omega) (by omega) (by omega) (by omega) (by omega) bb_2 ok hc1 hx st_2)) O ?_
  rintro _ w11 ⟨r11, rfl, bb11, y11, c11⟩
  have lb11 := bb11.lt
  have z11 := c11.size
  refine Qf (Ql (Qa ?_))
  obtain ⟨bA2, bC2, bk2, row2⟩ := id bb11
  refine Qb (Wu O O (Wu O O (Om (Qq O) O (Om (Qh υ178 O ς3 O O O) O (Ks (Rk ς3 O O O O bk2 O) O ?_)))))
  intro w12 c12 z12 bk_12
  refine Qf (Rp O (Kx ?_))
  have row_12 := row2.to c12
  have rrow := row_12
  have CH_2 := (Ch.refl (QR q r) w).and (c1.trans c2)
  have CH_11 : Ch (QR q r) w w11 := CH_2.then c11
  have CH_12 : Ch (QR q r) w w12 := CH_11.then c12
  have rch := CH_12
  refine ⟨r11, O, ?_, by omega, rch⟩
  first | rw [deepM_direct hc1 hc2] | rw [deepM_fly hc1 hc3] | rw [deepM_times hc1 hc4 hab] | rw [deepM_blue hc1 hc5 hab]
  exact ⟨bA2, bC2, bk_12, rrow⟩
 refine Kb (Om (Cg O O) O (Ww O O (Ka (Qj O (fun hc5 => ?_) (fun hc5 => ?_)))))
 ·
  obtain ⟨a, hab, g1, g2⟩ := go_blue hgo hc5
  have ha9 : a ∈ o.kids := by rw [hab]; simp
  refine Qb (Wu O O (Om (Qz ι53 ς53 O O (b4_2.all' O)) O (Om (Qz ι217 ς217 O O (b5.all' O)) O ?_)))
  have kd_2 := kd.keep (c1.trans c2)
  have st_2 := st.keep (c1.trans c2)
  refine Oq (Qi call227 O (deepBlue o a hab hc5 (hkT a ha9).1 (hkT a ha9).2.1 g1 g2 (hkT a ha9).2.2 _ _ x b _ _ _ _ _ kd_2 (by omega) (by omega) (by omega) (by omega) (by omega) bb_2 ok hc1 hx st_2)) O ?_
  rintro _ w13 ⟨r13, rfl, bb13, y13, c13⟩
  have lb13 := bb13.lt
  have z13 := c13.size
  refine Qf (Ql (Qa ?_))
  obtain ⟨bA2, bC2, bk2, row2⟩ := id bb13
  refine Qb (Wu O O (Wu O O (Om (Qq O) O (Om (Qh υ178 O ς3 O O O) O (Ks (Rk ς3 O O O O bk2 O) O ?_)))))
  intro w14 c14 z14 bk_14
  refine Qf (Rp O (Kx ?_))
  have row_14 := row2.to c14
  have rrow := row_14
  have CH_2 := (Ch.refl (QR q r) w).and (c1.trans c2)
  have CH_13 : Ch (QR q r) w w13 := CH_2.then c13
  have CH_14 : Ch (QR q r) w w14 := CH_13.then c14
  have rch := CH_14
  refine ⟨r13, O, ?_, by omega, rch⟩
  first | rw [deepM_direct hc1 hc2] | rw [deepM_fly hc1 hc3] | rw [deepM_times hc1 hc4 hab] | rw [deepM_blue hc1 hc5 hab]
  exact ⟨bA2, bC2, bk_14, rrow⟩
 exact absurd (go_kind hgo) (by omega)
end Go.Tm
namespace Go.Tm
open Go.RowKit Go.Proofs Go.Proofs.Tryz
theorem deep_all {o : Ord} (h : GO o) : DeepOk o := by
 have st : ∀ {o : Ord}, GO o → (∀ a ∈ o.kids, DeepOk a ∧ GO a ∧ a.len = sl a) → DeepOk o := fun {o} h hk A c lo hi q r x b w kd hh hq2 hr2 hq hr bb ok hx st => deep_step o h hk q r x b A c lo hi w kd hh hq2 hr2 hq hr bb ok hx st
 induction h with
 | direct h1 h2 => exact st (.direct h1 h2) (fun a ha => by cases ha)
 | fly h1 h2 => exact st (.fly h1 h2) (fun a ha => by cases ha)
 | @times a b ga gb h1 h2 h3 ia ib =>
  refine st (.times ga gb h1 h2 h3) (fun x hx => ?_)
  simp only [Ord.kids, List.mem_cons, List.not_mem_nil, or_false] at hx
  rcases hx with rfl | rfl
  · exact ⟨ia, ga, len_sl⟩
  · exact ⟨ib, gb, len_sl⟩
 | @blue n a h1 h2 ga h3 ia =>
  refine st (.blue h1 h2 ga h3) (fun x hx => ?_)
  simp only [Ord.kids, List.mem_cons, List.not_mem_nil, or_false] at hx
  subst hx
  exact ⟨ia, ga, len_sl⟩
def bld0 (n : Int) : Bld := ({ ln := n, cl := 0, i0 := 0, ou := n, steps := [], acts := 0, fr := 0 } : Bld).region (2 * n)
def buildM (o : Ord) : Bld := deepM o ⟨0, 1, o.len⟩ (bld0 o.len)
theorem bld0_ok {n : Int} (h1 : 1 ≤ n) (h2 : n ≤ 16384) : BdOk (bld0 n) := by
 unfold bld0
 refine BdOk.region ⟨?_, ?_, ?_, ?_, ?_, ?_⟩ ?_ ?_ <;> (try simp only) <;> first | omega | (simp; done)
theorem xok_top {n : Int} (h1 : 1 ≤ n) (h2 : n ≤ 16384) : XOk ⟨0, 1, n⟩ n := ⟨by simp, by simp, by simp only; omega, by simp only; omega, by simp only; omega, by simp only; omega⟩
theorem build178w18 {ps : List (Nat × Value)} {cs : Array Value} (h : Instr.fill (fun i => ([(0, 5), (5, 1), (6, 1)] : List (Nat × Nat))[i]?) #[.int .i64 0, .int .i64 0, .int .i64 0, .int .i64 0, .slice none 0 0, .int .i64 0, .int .i64 0] ps = some cs) (w : World) : (Instr.build 178 ps.toArray).run prog w = .ok (.agg cs) w := by
 simp [Instr.build, runUnderlying178, zeroValue178, ς3, ς98, Value.cells, h]
theorem build217w18 {ps : List (Nat × Value)} {cs : Array Value} (h : Instr.fill (fun i => ([(0, 1), (1, 1), (2, 1)] : List (Nat × Nat))[i]?) #[.int .i64 0, .int .i64 0, .int .i64 0] ps = some cs) (w : World) : (Instr.build 217 ps.toArray).run prog w = .ok (.agg cs) w := by
 simp [Instr.build, runUnderlying217, ζ217, ς3, Value.cells, h]
theorem bld217_0_1_2w18 {v0 v1 v2 : Value} (h : [v0, v1, v2].all Value.oneCell' = true) : BLD prog 217 [(0, v0), (1, v1), (2, v2)] #[v0, v1, v2] := build217w18 (fill1 _ _ _ h rfl)
set_option maxHeartbeats 1000000 in
set_option maxRecDepth 100000 in
theorem c_build (o : Ord) (A : Option Addr) (c lo hi : Nat) (w : World) (kd : RdK (In lo hi) w A o.kids) (hh : hi ≤ w.heap.size) (hl : o.len ≠ 0) (hf : (buildM o).full = false) (st : StT w) (hG : 24 ≤ w.heap.size) :
  Calls prog 143 #[ordV o A c, Kg 0] w (Ret (fun v w' => ∃ q r, v = .tuple #[Kh q, .nilIface] ∧ BB w' q r (buildM o) ∧ w.heap.size ≤ q ∧ (r = 0 ∨ w.heap.size < r) ∧ Ch No w w')) := by
 have ll := len_bd o; have go := GO.of_len hl; have hsl := len_sl hl
 refine Ku func143 O ntmps143 O (Kb (Km (Cp O) O ?_))
 intro p1 w1 b2 c1 e1 z1
 refine Ww O O (Ww O O (Wz (Kb (Wu O O ?_))))
 refine Om (Wd O O) O (Wu O O ?_)
 refine Re (b := _) 3 11 14 O (fun hc1 Jhc1 => by
   try simp only [bX] at hc1
   refine Wu O O (Om (Wd O O) O (Om (Qr O O) O ?_))
   exact (Qo O (Qo O Jhc1))) (fun hc1 Jhc1 => by
   refine Oy O (Oy O (Om (Qm O O) O ?_))
   exact (Qo O (Qo O Jhc1))) ?_
 refine Ka (Cq O (fun hc2 => ?_) (fun hc2 => ?_))
 ·
  try simp only [bX] at hc2
  exact absurd hc2 (by simp)
 try simp only [bX] at hc2
 refine Qn (Qa (Kb (Om (Qz ι53 ς53 O O (b2.all' O)) O ?_)))
 have kd_1 := kd.keep c1
 refine Oq (Qi κ170 O (order_Length _ _ _ _ _ _ kd_1)) O ?_
 rintro _ w2 ⟨rfl, c2⟩
 have z2 := c2.size
 refine Ww O O (Wz (Kb (Wu O O (Om (Cg O O) O ?_))))
 refine Ka (Qj O (fun hc3 => ?_) (fun hc3 => ?_))
 · omega
 refine Qn (Qa (Kb (Om (Ct O (build178w18 O)) O (Km (Cp O) O ?_))))
 intro p3 w3 b22 c3 e3 z3
 refine Ww O O (Wy (Wu O O (Wu O O (Wu O O ?_))))
 refine Wu O O (Om (Qq O) O (Om (Qh υ178 O ς98 O O O) O (Om (Qh υ98 O ς3 O O O) O (Ks (Rk ς3 O O O O b22 O) O ?_))))
 intro w4 c4 z4 b22_4
 refine Om (Qq O) O (Om (Qh υ178 O ς98 O O O) O (Om (Qh υ98 O ς3 O O O) O (Ks (Rk ς3 O O O O b22_4 O) O ?_)))
 intro w5 c5 z5 b22_5
 refine Wz ?_
 have bbs : BB w5 p3 0 ({ ln := o.len, cl := 0, i0 := 0, ou := o.len, steps := [], acts := 0, fr := 0 } : Bld) := ⟨none, 0, b22_5, Ow.nil _ _ _⟩
 refine Qb (Wu O O (Wu O O ?_))
 refine Om (Cy O O) O ?_
 refine Oq (Qi κ172 O (bb_region _ _ ({ ln := o.len, cl := 0, i0 := 0, ou := o.len, steps := [], acts := 0, fr := 0 } : Bld) _ _ bbs ⟨by simp, by simp, by simp, by simp, by simp, by simp⟩)) O ?_
 rintro _ w6 ⟨rfl, bb6, c6⟩
 have z6 := c6.size
 refine Wy (Wu O O (Om (Ct O (bld217_0_1_2w18 O)) O (Km (Ck ζ217) O ?_)))
 intro p7 w7 b8 c7 e7 z7
 refine Ks (Cl ς217 O O O O b8) O ?_
 intro w8 c8 z8 b8_8
 refine Wz (Kb (Wu O O (Om (Cg O O) O (Qf ?_))))
 refine Qa (Qj O (fun hc4 => ?_) (fun hc4 => ?_))
 ·
  refine Qb (Wu O O ?_)
  have cc_1_5 : Ch No w1 w5 := (Ch.then (E := No) (Ch.then (E := No) (c2.and c3) c4) c5)
  have b2_5 := b2.keep cc_1_5
  have b2_6 := b2_5.to c6
  have cc_6_8 : Ch No w6 w8 := (Ch.then (E := No) c7 c8)
  have b2_8 := b2_6.keep cc_6_8
  refine Om (Qz ι53 ς53 O O (b2_8.all' O)) O (Om (Qz ι217 ς217 O O (b8_8.all' O)) O ?_)
  have kd_5 := kd_1.keep cc_1_5
  have kd_6 := kd_5.to c6
  have kd_8 := kd_6.keep cc_6_8
  have bb_8 := bb6.keep cc_6_8
  have cc_0_5 : Ch No w w5 := (Ch.then (E := No) (Ch.then (E := No) ((c1.and c2).and c3) c4) c5)
  have st_5 := st.keep cc_0_5
  have st_6 := st_5.to c6
  have st_8 := st_6.keep cc_6_8
  refine Oq (Qi κ173 O (deep_all go _ _ _ _ _ _ (⟨0, 1, o.len⟩) (bld0 o.len) _ kd_8 (by omega) (by omega) (by omega) (by omega) (by omega) bb_8 (bld0_ok (by omega) (by omega)) (by rw [← hsl]; exact xok_top (by omega) (by omega)) st_8)) O ?_
  rintro _ w9 ⟨r9, rfl, bb9, y9, c9⟩
  have lb9 := bb9.lt
  have z9 := c9.size
  refine Wz (Kb (Wu O O (Oq (Qi call175 O (bb_full _ _ (buildM o) _ bb9)) O ?_)))
  rintro _ _ ⟨rfl, rfl⟩
  refine Ka (Cq O (fun hc5 => ?_) (fun hc5 => ?_))
  ·
   try simp only [bX] at hc5
   exact absurd hc5 (by rw [hf]; simp)
  try simp only [bX] at hc5
  refine Qn (Qa (Kb (Wu O O (Ww O O (Ww O O (Qf ?_))))))
  refine Qa (Qp (Ra O O O (Kx ?_)))
  have CH_5 := cc_0_5
  have CH_6 : Ch (No) w w6 := CH_5.then c6
  have CH_8 := CH_6.and cc_6_8
  have CH_9 : Ch (No) w w9 := CH_8.then c9
  exact ⟨_, r9, O, bb9, by omega, by omega, CH_9⟩
 exact absurd O hc4
end Go.Tm
namespace Go.Tm
open Go.RowKit
theorem GO.okO {o : Ord} (h : GO o) : okO o := by
 induction h with
 | direct h1 h2 => unfold Tm.okO; exact ⟨by omega, by omega, .inl ⟨.inl rfl, rfl⟩⟩
 | fly h1 h2 => unfold Tm.okO; exact ⟨by omega, by omega, .inl ⟨.inr rfl, rfl⟩⟩
 | times _ _ _ _ _ ia ib => unfold Tm.okO; exact ⟨by omega, by omega, .inr (.inl ⟨rfl, ia, ib⟩)⟩
 | blue h1 h2 _ _ ia => unfold Tm.okO; exact ⟨by omega, by omega, .inr (.inr ⟨rfl, ia⟩)⟩
theorem itoa_le {n : Int} (h0 : 0 ≤ n) (h1 : n ≤ 16384) : (Lib.itoa n).length ≤ 21 := Lib.itoa_length_le n (by omega) (by omega)
theorem tx_len : ∀ (m : Nat) (o : Ord) (p d : Int), SizeOf.sizeOf o < m → GO o → (wl o p d).2 ≠ 0 → 0 ≤ p → p ≤ 4096 → 1 ≤ d → ((tx o).length : Int) ≤ 30 * ((wl o p d).1 - p)
 | 0, _, _, _, h, _, _, _, _, _ => by omega
 | m + 1, o, p, d, h, hg, hz, h0, h1, h2 => by
  by_cases hf : p + 1 > 4096 ∨ d > 16
  · rw [wl_full hf] at hz; exact absurd rfl hz
  have hk := kids_lt o
  have hon := okO_n hg.okO
  have hit := itoa_le hon.1 hon.2
  cases hg with
  | @direct n h3 h4 =>
   rw [wl_leaf hf rfl, tx_one rfl]
   simp only [Ord.n] at hit
   rw [if_pos ⟨rfl, h3, h4⟩]
   simp only [List.length_cons, Ord.n]; omega
  | @fly n h3 h4 =>
   rw [wl_leaf hf rfl, tx_two (by simp [Ord.kind]) rfl]
   simp only [Ord.n] at hit
   rw [if_neg (by simp [Ord.kind]), if_pos ⟨rfl, h3, h4⟩]
   simp only [List.length_cons, Ord.n]; omega
  | @times a b ga gb h3 h4 h5 =>
   have la : SizeOf.sizeOf a < m := by simp only [Ord.mk.sizeOf_spec, List.cons.sizeOf_spec] at h; omega
   have lb : SizeOf.sizeOf b < m := by simp only [Ord.mk.sizeOf_spec, List.cons.sizeOf_spec] at h; omega
   rw [wl_two hf rfl, if_pos ⟨rfl, rfl⟩] at hz ⊢
   by_cases h6 : (wl a (p + 1) (d + 1)).2 < 2
   · rw [if_pos h6] at hz; exact absurd rfl hz
   rw [if_neg h6] at hz ⊢
   by_cases h7 : (wl b (wl a (p + 1) (d + 1)).1 (d + 1)).2 < 2 ∨ (wl a (p + 1) (d + 1)).2 * (wl b (wl a (p + 1) (d + 1)).1 (d + 1)).2 > 16384
   · rw [if_pos h7] at hz; exact absurd rfl hz
   rw [if_neg h7]
   have ba := wl_bd _ a (p + 1) (d + 1) (Nat.lt_succ_self _) (by omega) (by omega)
   have ia := tx_len m a (p + 1) (d + 1) la ga (by omega) (by omega) (by omega) (by omega)
   have ib := tx_len m b (wl a (p + 1) (d + 1)).1 (d + 1) lb gb (by omega) (by omega) (by omega) (by omega)
   obtain ⟨x, y, _, _, hxy, _, _, htx⟩ := okO_three (GO.times ga gb h3 h4 h5).okO rfl
   simp only [Ord.kids, List.cons.injEq, and_true] at hxy
   obtain ⟨rfl, rfl⟩ := hxy
   rw [htx]
   simp only [List.length_append, List.length_cons, List.length_nil]
   omega
  | @blue n a h3 h4 ga h5 =>
   have la : SizeOf.sizeOf a < m := by simp only [Ord.mk.sizeOf_spec, List.cons.sizeOf_spec] at h; omega
   rw [wl_one hf rfl, if_pos ⟨rfl, h3, h4⟩] at hz ⊢
   by_cases h6 : (wl a (p + 1) (d + 1)).2 < 2 * (Ord.mk 4 n [a]).n - 1
   · rw [if_pos h6] at hz; exact absurd rfl hz
   rw [if_neg h6]
   simp only [Ord.n] at h6
   have ia := tx_len m a (p + 1) (d + 1) la ga (by omega) (by omega) (by omega) (by omega)
   obtain ⟨x, _, hxy, _, htx⟩ := okO_four (GO.blue h3 h4 ga h5).okO (by simp [Ord.kind]) (by simp [Ord.kind]) (by simp [Ord.kind])
   simp only [Ord.kids, List.cons.injEq, and_true] at hxy
   subst hxy
   rw [htx]
   simp only [List.length_append, List.length_cons, List.length_nil, Ord.n] at hit ⊢
   omega
theorem tx_bd {o : Ord} (h : o.len ≠ 0) : 0 < (tx o).length ∧ (tx o).length ≤ 130000 := by
 have hg := GO.of_len h
 have h1 := tx_len _ o 0 1 (Nat.lt_succ_self _) hg h (by omega) (by omega) (by omega)
 have h2 := wl_bd _ o 0 1 (Nat.lt_succ_self _) (by omega) (by omega)
 refine ⟨?_, by omega⟩
 cases hg with
 | direct h3 h4 => rw [tx_one rfl]; simp
 | fly h3 h4 => rw [tx_two (by simp [Ord.kind]) rfl]; simp
 | times ga gb h3 h4 h5 =>
  obtain ⟨x, y, _, _, hxy, _, _, htx⟩ := okO_three (GO.times ga gb h3 h4 h5).okO rfl
  rw [htx]; simp
 | blue h3 h4 ga h5 =>
  obtain ⟨x, _, hxy, _, htx⟩ := okO_four (GO.blue h3 h4 ga h5).okO (by simp [Ord.kind]) (by simp [Ord.kind]) (by simp [Ord.kind])
  rw [htx]; simp
end Go.Tm
namespace Go.Tm
set_option maxRecDepth 100000
open Go.RowKit Go.Proofs Go.Proofs.Tryz
theorem Rn.str_cat {P : Program} {n : Fr} {k : K} {w : World} {d : Option Nat} {ty : TypeId} {pos : String} {aft : Array Edge} {g : Option (Nat × Bool)} {t t' : TypeId} {x y : Operand} {a b : ByteArray} (hx : ev k x = some (.string a)) (hy : ev k y = some (.string b)) (hl : a.size + b.size ≤ 1000000000000) :
  Rn P n k w { dst := d, op := .binOp .add t x y t', type := ty, pos := pos, after := aft, guard := g } (.string (a ++ b)) :=
 Rz hx hy (fun x y => by
  have h1 : ¬ (((a.size + b.size : Nat) : Int) > IntKind.i64.max) := by
   have : IntKind.i64.max = 9223372036854775807 := rfl
   omega
  simp only [eqGuard_add]
  rw [Sem.run_bind]
  simp only [Sem.run_pure, binOp, Op.stringOp]
  rw [if_neg h1]
  rfl)
structure Pln where
  o : Ord
  way : Int
  b : Bld
  t : ByteArray
abbrev plnV (P : Pln) (A : Option Addr) (c : Nat) (SA : Option Addr) (sc : Nat) : Array Value := #[.int .i64 P.o.kind, .int .i64 P.o.n, .slice A P.o.kids.length c, .int .i64 P.way, .int .i64 P.b.ln, .int .i64 P.b.cl, .int .i64 P.b.i0, .int .i64 P.b.ou, .slice SA P.b.steps.length sc, .string P.t]
structure PlnR (lo hi : Nat) (w : World) (p : Nat) (P : Pln) : Prop where
  ex : ∃ A c SA sc, Bk w p (plnV P A c SA sc) 131 ∧ RdK (In lo hi) w A P.o.kids ∧ SlR (In lo hi) w SA P.b.steps.length 7 (flatS P.b.steps)
  at_ : lo ≤ p ∧ p < hi
theorem PlnR.weak {lo hi lo' hi' : Nat} {w : World} {p : Nat} {P : Pln} (h : PlnR lo hi w p P) (h1 : lo' ≤ lo) (h2 : hi ≤ hi') : PlnR lo' hi' w p P := by
 obtain ⟨A, k, SA, sc, e1, e2, e3⟩ := h.ex
 have := h.at_
 exact ⟨⟨A, k, SA, sc, e1, e2.weak (fun x h => ⟨by have := h.1; omega, by have := h.2; omega⟩), e3.weak (fun x h => ⟨by have := h.1; omega, by have := h.2; omega⟩)⟩, by omega, by omega⟩
def deepT (o : Ord) : ByteArray := (ByteArray.mk #[100, 101, 101, 112] ++ ByteArray.mk #[32]) ++ ByteArray.mk (tx o).toArray
def plnM (o : Ord) : Pln := ⟨o, 0, buildM o, deepT o⟩
theorem inf53w19 : Inf prog 53 (.agg #[.int .i64 0, .int .i64 0, .slice none 0 0]) 3 40 := ⟨Tryz.t53, type53, rfl, rfl, rfl⟩
theorem bld131_0_1_2_3w19 {v0_0 v0_1 v0_2 v1 v2_0 v2_1 v2_2 v2_3 v2_4 v3 : Value} (h : [v1, v3].all Value.oneCell' = true) (w : World) : (Instr.build 131 ([(0, .agg #[v0_0, v0_1, v0_2]), (1, v1), (2, .agg #[v2_0, v2_1, v2_2, v2_3, v2_4]), (3, v3)] : List (Nat × Value)).toArray).run prog w = .ok (.agg #[v0_0, v0_1, v0_2, v1, v2_0, v2_1, v2_2, v2_3, v2_4, v3]) w := by
 simp only [List.all_cons, Bool.and_eq_true, List.all_nil, and_true] at h
 have hv1 := oneCell_cells (v := v1) (by simp_all)
 have hv3 := oneCell_cells (v := v3) (by simp_all)
 have h1 := fill_set (fun i => ([(0, 3), (3, 1), (4, 5), (9, 1)] : List (Nat × Nat))[i]?) [(0, .agg #[v0_0, v0_1, v0_2]), (1, v1), (2, .agg #[v2_0, v2_1, v2_2, v2_3, v2_4]), (3, v3)] [.int .i64 0, .int .i64 0, .slice none 0 0, .int .i64 0, .int .i64 0, .int .i64 0, .int .i64 0, .int .i64 0, .slice none 0 0, .string ⟨#[]⟩] (by simp [okF, agg_cells, hv1, hv3, Nat.beq, Nat.ble])
 simp [setF, agg_cells, hv1, hv3] at h1
 simp [Instr.build, runUnderlying131, zeroValue131, ς3, ς9, ς53, ς98, agg_cells, h1]
set_option maxHeartbeats 1000000 in
theorem c_Program (o : Ord) (A : Option Addr) (c lo hi : Nat) (w : World) (kd : RdK (In lo hi) w A o.kids) (hh : hi ≤ w.heap.size) (hl : o.len ≠ 0) (hf : (buildM o).full = false) (st : StT w) (hG : 24 ≤ w.heap.size) :
  Calls prog 107 #[ordV o A c, Kg 0] w (Ret (fun v w' => ∃ SA sc, v = .tuple #[.agg #[Kg (buildM o).ln, Kg (buildM o).cl, Kg (buildM o).i0, Kg (buildM o).ou, .slice SA (buildM o).steps.length sc], .nilIface] ∧ SlR (In w.heap.size w'.heap.size) w' SA (buildM o).steps.length 7 (flatS (buildM o).steps) ∧ Ch No w w')) := by
 refine Ku func107 O ntmps107 O (Kb (Km (Cp O) O ?_))
 intro p1 w1 b2 c1 e1 z1
 refine Km (Ck ζ98) O ?_
 intro p2 w2 b4 c2 e2 z2
 refine Ww O O (Wy ?_)
 have b2_2 := b2.keep c2
 refine Om (Qz ι53 ς53 O O (b2_2.all' O)) O (Wu O O ?_)
 have kd_2 := kd.keep (c1.trans c2)
 have st_2 := st.keep (c1.trans c2)
 refine Oq (Qi call143 O (c_build _ _ _ _ _ _ kd_2 (by omega) hl hf st_2 (by omega))) O ?_
 rintro _ w3 ⟨q3, r3, rfl, bb3, yq3, yr3, c3⟩
 have lb3 := bb3.lt
 obtain ⟨bA3, bC3, bk3, rw3⟩ := id bb3
 have z3 := c3.size
 refine Wu O O (Om (Qu O O) O (Om (Qu O O) O (Ww O O (Ww O O (Wz ?_)))))
 refine Kb (Wu O O (Om (Cr υ28 O) O (Ka (Cc O (Qn ?_)))))
 refine Qa (Kb (Wu O O (Om (Qq O) O (Om (Qh υ178 O ς98 O O O) O (Om (Qz ι98 ς98 O O (bk3.part 5 O)) O ?_)))))
 have b4_3 := b4.keep c3
 refine Ks (Cl ς98 O O O O b4_3) O ?_
 intro w4 c4 z4 b4_4
 refine Ww O O (Ka (Qp (VQ.retct O O ι98 ς98 O (b4_4.all' O) O (Kx ?_))))
 have cc_0_4 : Ch No w w4 := (Ch.then (E := No) ((c1.and c2).and c3) c4)
 have CH_4 := cc_0_4
 have row_4 := rw3.to c4
 have zz := CH_4.size; have yl := row_4.lt
 exact ⟨_, _, O, row_4.sl.weak (fun y h => ⟨by omega, by omega⟩), CH_4⟩
theorem plan_copied (m : Nat) : ∀ (o : Ord) (A : Option Addr) (c : Nat) (lo hi : Nat) (w : World) (_ : SizeOf.sizeOf o < m) (_ : RdK (In lo hi) w A o.kids) (_ : hi ≤ w.heap.size), Calls prog 108 #[ordV o A c] w (Ret (fun v w' => ∃ A' c', v = ordV o A' c' ∧ RdK (In w.heap.size w'.heap.size) w' A' o.kids ∧ Ch No w w')) := by
 induction m with
 | zero => intros; omega
 | succ m ih =>
 intro o A c lo hi w hs kd hh
 refine Ku func108 O ntmps108 O ?_
 have kmax := kd.max
 refine Kb (Km (Cp O) O ?_)
 intro p1 w1 b1 c1 e1 z1
 refine Km (Ck ζ53) O ?_
 intro p2 w2 b2 c2 e2 z2
 refine Wy (Om (Qh υ53 O ς51 O O O) O ?_)
 have b1_2 := b1.keep c2
 refine Om (Qg ι51 O (b1_2.cell O)) O (Ww O O (Wy (Om (Qh υ53 O ς51 O O O) O (Ks (Rk ς51 O O O O b1_2 O) O ?_))))
 intro w3 c3 z3 b1_3
 refine Wz (Kb (Wu O O (Om (Cs υ51 O) O (Wu O O ?_))))
 refine Ka (Qt ?_)
 have b2_3 := b2.to c3
 have cc_0_3 : Ch No w w3 := (Ch.then (E := No) (c1.and c2) c3)
 have kd_3 := kd.keep cc_0_3
 have CH_3 := cc_0_3
 refine Kf (σ := Nat) (fun i => [(1, Kh p1), (2, Kh p2), (9, .slice A o.kids.length c), (10, Kg o.kids.length), (11, Kg i)]) (fun i w' => ∃ r A1 c1 cs, i ≤ o.kids.length ∧ Bk w' p1 #[Kg o.kind, Kg o.n, .slice A1 i c1] 53 ∧ Bk w' p2 #[Kg 0, Kg 0, .slice none 0 0] 53 ∧ Ow w' r 53 3 A1 i c1 cs ∧ (r = 0 ∨ p2 + 1 < r) ∧ KidRow (fun q => p2 < q ∧ q < w'.heap.size ∧ r ≠ q + 1) w' cs (o.kids.take i) ∧ RdK (In lo hi) w' A o.kids ∧ Ch No w w') (fun i => o.kids.length - i) 0 ?_ ?_
 · exact ⟨0, none, 0, [], Nat.zero_le _, b1_3, b2_3, Ow.nil _ _ _, .inl O, KidRow.nil _ _, kd_3, CH_3⟩
 rintro i w4 ⟨r, A1, c1, cs, hi_4, b1_4, b2_4, ow_4, hr_4, kw_4, kd_4, CH_4⟩
 have hln := ow_4.len; have y0 := ow_4.lt; have zc := CH_4.size; have l2 := b2_4.lt
 refine Kb (Om (Co O O) O (Wz (Qj O (fun hc1 => ?_) (fun hc1 => ?_))))
 ·
  refine Qn (Qa (Qe (Qt (Qe ?_))))
  obtain ⟨ko, hko⟩ : ∃ ko, o.kids[i]? = some ko := ⟨_, List.getElem?_eq_getElem (by omega)⟩
  obtain ⟨kA, kc, ka, kr⟩ := kd_4.kid hko
  have hlt := kid_lt hko; have hlt2 := kids_lt o
  refine Qb (Om (Qs υ51 ς53 O O (kd_4.ne (by omega))) O (Om (Qz ι53 ς53 O O ka.1) O (Km (Ck ζ53) O ?_)))
  intro p5 w5 b5 c5 e5 z5
  refine Ks (Cl ς53 O O O O b5) O ?_
  intro w6 c6 z6 b5_6
  refine Ka (Kj 7 [0, 2, 4, 7, 9, 11, 12] (At r) ?_)
  intro w7 c7 z7
  have cc_4_7 : Ch No w4 w7 := ((Ch.then (E := No) c5 c6).and c7)
  have b1_7 := b1_4.keep cc_4_7
  have b2_7 := b2_4.keep cc_4_7
  have ow_7 := ow_4.keep cc_4_7
  have ka_7 := ka.keep cc_4_7
  have b5_7 := b5_6.keep c7
  refine Ws (Qh υ53 O ς51 O O O) O (Wt (fun hS => Qg ι51 O ((b1_7.to hS).cell O)) O (Wt (fun hS => Qz ι53 ς53 O O ((b5_7.to hS).all' O)) O ?_))
  have kr_7 := kr.keep cc_4_7
  refine Hq (Qi call108 O (ih ko _ _ _ _ _ (by omega) kr_7 (by omega))) O ?_
  rintro _ w8 ⟨nA8, nc8, rfl, kn8, c8⟩
  have z8 := c8.size
  have RD_8 := (Ch.refl (At r) w7).and c8
  refine ⟨RD_8, ?_⟩
  refine Kr 3 1 (Kl υ51 inf53w19 O O) O ?_
  intro p9 w9 l19 l19o c9 e9 z9
  have RD_9 := RD_8.and c9
  refine ⟨RD_9, ?_⟩
  have ow_9 := ow_7.keep (c8.trans c9)
  refine Hq (Cm (S := _) υ51 inf53w19 O (by decide) O O ow_9 l19 (by rfl) (fun h => by simp at h) (by omega) (by simp only [maxLen]; omega)) O ?_
  rintro _ w10 ⟨r10, A10, k10, rfl, o10, c10, q10⟩
  have z10 := c10.size
  have y10 := o10.lt
  have RD_10 : Ch (At r) w7 w10 := RD_9.then c10
  refine ⟨RD_10, ?_⟩
  refine Ws (Qh υ53 O ς51 O O O) O (Cj ?_)
  have b1_9 := b1_7.keep (c8.trans c9)
  have b1_10 := b1_9.to c10
  refine Ks (Rk ς51 O O O O b1_10 O) O ?_
  intro w11 c11 z11 b1_11
  refine Qf (Ca (Ql (Qa (Qb ?_))))
  refine Om (Cd O O) O ?_
  refine Wu O O (Qf ?_)
  refine Ke (i + 1) ?_
  have e : (o.kids.take (i + 1)) = o.kids.take i ++ [ko] := by rw [List.take_add_one, hko]; rfl
  have b2_9 := b2_7.keep (c8.trans c9)
  have b2_10 := b2_9.to c10
  have b2_11 := b2_10.to c11
  have ow_11 := o10.to c11
  have cc_4_9 : Ch No w4 w9 := ((((Ch.then (E := No) c5 c6).and c7).and c8).and c9)
  have kd_9 := kd_4.keep cc_4_9
  have kd_10 := kd_9.to c10
  have kd_11 := kd_10.to c11
  have CH_9 := CH_4.and cc_4_9
  have CH_10 : Ch (No) w w10 := CH_9.then c10
  have CH_11 : Ch (No) w w11 := CH_10.then c11
  refine ⟨_, _, _, _, by omega, b1_11, b2_11, ow_11, by omega, ?_, kd_11, CH_11⟩
  have kw_9 := kw_4.keep cc_4_9
  have kw_10 := kw_9.to c10
  have kw_11 := kw_10.to c11
  have hl := kw_11
  rw [e]
  have hlen : cs.length = (o.kids.take i).length * 3 := by rw [List.length_take, Nat.min_eq_left (by omega)]; exact hln
  have kn_9 := kn8.keep c9
  have kn_10 := kn_9.to c10
  have kn_11 := kn_10.to c11
  exact ((hl.weak (fun q h => ⟨h.1, by omega, by omega⟩)).snoc hlen ((kn_11).weak (fun q h => ⟨by omega, by omega, by omega⟩)))
 refine Cn (Qk (Qk (Qy (Qa (Kb (Om (Qz ι53 ς53 O O (b1_4.all' O)) O ?_))))))
 refine Ks (Cl ς53 O O O O b2_4) O ?_
 intro w12 c12 z12 b2_12
 refine Ka (Qp (Rl O O ι53 ς53 O (b2_12.all' O) (Kx ?_)))
 have hi' : i = o.kids.length := by omega
 subst hi'
 have kw_12 := kw_4.to c12
 have hk := kw_12
 rw [List.take_length] at hk
 have ow_12 := ow_4.to c12
 have CH_12 : Ch (No) w w12 := CH_4.then c12
 have yl := ow_12.lt; have zz := CH_12.size
 exact ⟨_, _, O, ((hk.weak (fun q h => ⟨by omega, by omega⟩)).rd (ow_12.sl.weak (fun q h => ⟨by omega, by omega⟩)) kmax), CH_12⟩
theorem word_deep (w : World) :
  Calls prog 89 #[Kg 0] w (Ret (fun v w' => v = .string ⟨#[100, 101, 101, 112]⟩ ∧ w = w')) := by
 refine Ku func89 O ntmps89 O (Kb (Ww O O (Wz (Qe ?_))))
 refine Qb (Wu O O (Ka (Qt (Kb (Om (Cg O O) O ?_)))))
 refine Ww O O (Ka (Qj O (fun hc1 => ?_) (fun hc1 => ?_)))
 ·
  refine Kb (Ww O O (Ka (Qp (Cb (Qw ?_)))))
  refine Qx O O (Kx ?_)
  exact ⟨O, O⟩
 exact absurd O hc1
set_option maxHeartbeats 1000000 in
theorem plan_Of (o : Ord) (A : Option Addr) (c lo hi : Nat) (w : World) (kd : RdK (In lo hi) w A o.kids) (hh : hi ≤ w.heap.size) (hl : o.len ≠ 0) (hf : (buildM o).full = false) (st : StT w) (tab : TabB w.heap.size w) (hG : 24 ≤ w.heap.size) :
  Calls prog 64 #[ordV o A c, Kg 0] w (Ret (fun v w' => ∃ p, v = .tuple #[Kh p, .nilIface] ∧ PlnR w.heap.size w'.heap.size w' p (plnM o) ∧ Ch No w w')) := by
 have hg := (GO.of_len hl).okO
 have hg0 := hl
 have htb := tx_bd hl
 have hx := htb.1
 have hle : (tx o).length ≤ 900000 := by omega
 refine Ku func64 O ntmps64 O (Kb (Km (Cp O) O ?_))
 intro p1 w1 b2 c1 e1 z1
 refine Ww O O (Ww O O (Wz (Kb (Wu O O ?_))))
 refine Oq (Qi call89 O (word_deep _)) O ?_
 rintro _ _ ⟨rfl, rfl⟩
 refine Om (Rn.str_eql O O) O (Ka (Cq O (fun hc1 => ?_) (fun hc1 => ?_)))
 ·
  try simp only [bX] at hc1
  cases (hc1.symm.trans (show _ = false by kernel_rfl))
 try simp only [bX] at hc1
 refine Qn (Qa (Kb (Om (Qz ι53 ς53 O O (b2.all' O)) O ?_)))
 have kd_1 := kd.keep c1
 have tab_1 := tab.keep c1
 refine Oq (Qi call106 O (order_Text _ _ _ _ _ _ kd_1 (by omega) hg hg0 hx hle ((tab_1).up (by omega)))) O ?_
 rintro _ w2 ⟨rfl, c2⟩
 have z2 := c2.size
 refine Wu O O (Om (Qu O O) O (Om (Qu O O) O (Ww O O (Ww O O (Wz ?_)))))
 refine Kb (Wu O O (Om (Cr υ28 O) O (Ka (Cc O (Qn ?_)))))
 refine Qa (Kb ?_)
 have b2_2 := b2.keep c2
 refine Om (Qz ι53 ς53 O O (b2_2.all' O)) O (Wu O O ?_)
 have kd_2 := kd_1.keep c2
 have st_2 := st.keep (c1.trans c2)
 refine Oq (Qi call107 O (c_Program _ _ _ _ _ _ kd_2 (by omega) hl hf st_2 (by omega))) O ?_
 rintro _ w3 ⟨sA3, sC3, rfl, ss3, c3⟩
 have z3 := c3.size
 refine Wu O O (Om (Qu O O) O (Om (Qu O O) O (Km (Ck ζ98) O ?_)))
 intro p4 w4 b8 c4 e4 z4
 refine Ks (Cl ς98 O O O O b8) O ?_
 intro w5 c5 z5 b8_5
 refine Ww O O (Wz (Kb (Wu O O (Om (Cr υ28 O) O ?_))))
 refine Ka (Cc O (Qn (Qa (Qe (Kj 12 [0, 4, 6, 8, 14, 3, 11, 12, 16, 18, 21, 22] (No) ?_)))))
 intro w6 c6 z6
 have cc_2_6 : Ch No w2 w6 := ((Ch.then (E := No) (c3.and c4) c5).and c6)
 have b2_6 := b2_2.keep cc_2_6
 have cc_3_6 : Ch No w3 w6 := ((Ch.then (E := No) c4 c5).and c6)
 have ss_6 := ss3.keep cc_3_6
 have b8_6 := b8_5.keep c6
 refine Wt (fun hS => Qz ι53 ς53 O O ((b2_6.keep hS).all' O)) O (Wv O O (Wt (fun hS => Qz ι98 ς98 O O ((b8_6.keep hS).all' O)) O (Wv O O (Wv O O ?_))))
 have kd_6 := kd_2.keep cc_2_6
 refine Hq (Qi call108 O (plan_copied _ _ _ _ _ _ _ (Nat.lt_succ_self _) kd_6 (by omega))) O ?_
 rintro _ w7 ⟨nA7, nc7, rfl, kn7, c7⟩
 have z7 := c7.size
 have RD_7 := (Ch.refl (No) w6).and c7
 refine ⟨RD_7, ?_⟩
 refine Hq (Qi call89 O (word_deep _)) O ?_
 rintro _ _ ⟨rfl, rfl⟩
 refine ⟨RD_7, ?_⟩
 refine Ws (Rn.str_cat O O (by decide)) O ?_
 refine Ws (Rn.str_cat O O (by simp [ByteArray.size]; omega)) O ?_
 refine Ws (Ct (v := .agg #[Kg o.kind, Kg o.n, .slice nA7 o.kids.length nc7, Kg 0, Kg (buildM o).ln, Kg (buildM o).cl, Kg (buildM o).i0, Kg (buildM o).ou, .slice sA3 (buildM o).steps.length sC3, .string (deepT o)]) O (bld131_0_1_2_3w19 O)) O (Ko (Cp O) O ?_)
 intro p8 w8 b40 c8 e8 z8
 have RD_8 := RD_7.and c8
 refine ⟨RD_8, ?_⟩
 refine Wx O O (Cj (Ww O O (Qf (Ca (Qa (Qp (Ra O O O ?_)))))))
 refine Kx ?_
 have cc_0_8 : Ch No w w8 := ((((Ch.then (E := No) (((c1.and c2).and c3).and c4) c5).and c6).and c7).and c8)
 have CH_8 := cc_0_8
 have zz := CH_8.size
 have kn_8 := kn7.keep c8
 have ss_8 := ss_6.keep (c7.trans c8)
 exact ⟨_, O, ⟨⟨_, _, _, _, b40, (kn_8).weak (fun y h => ⟨by omega, by omega⟩), (ss_8).weak (fun y h => ⟨by omega, by omega⟩)⟩, by omega, by omega⟩, CH_8⟩
end Go.Tm
namespace Go.Tm
set_option maxRecDepth 100000
open Go.RowKit Go.Proofs Go.Proofs.Tryz
def PU : Pol := ⟨16, [2, 3, 4, 5], 13⟩
def HasP (P : Pol) (n : Int) : Prop := ∀ r, Best P n r → r.1.len = n ∧ (buildM r.1).full = false
theorem plan_With (P : Pol) (hp : PolOk P) (hlen : P.flies.length ≤ 100) (n : Int) (hn : 1 ≤ n) (hn2 : n ≤ 4096) (hc : HasP P n) (FA : Option Addr) (fc lo hi : Nat) (w : World) (sl : SlR (In lo hi) w FA P.flies.length 1 (P.flies.map (.int .i64 ·))) (hh : hi ≤ w.heap.size) (st : StT w) (tab : TabB w.heap.size w) (hG : 24 ≤ w.heap.size) :
  Calls prog 44 #[Kg n, .agg #[Kg P.direct, .slice FA P.flies.length fc, Kg P.prime], Kg 0] w (Ret (fun v w' => ∃ p r, v = .tuple #[Kh p, .nilIface] ∧ Best P n r ∧ PlnR w.heap.size w'.heap.size w' p (plnM r.1) ∧ Ch No w w')) := by
 refine Ku func44 O ntmps44 O (Kb (Km (Cp O) O ?_))
 intro p1 w1 b4 c1 e1 z1
 refine Ww O O (Ww O O (Wz (Kb (Wu O O ?_))))
 refine Oq (Qi call89 O (word_deep _)) O ?_
 rintro _ _ ⟨rfl, rfl⟩
 refine Om (Rn.str_eql O O) O (Ka (Cq O (fun hc1 => ?_) (fun hc1 => ?_)))
 ·
  try simp only [bX] at hc1
  cases (hc1.symm.trans (show _ = false by kernel_rfl))
 try simp only [bX] at hc1
 refine Qn (Qa (Kb (Wu O O (Om (Qz ι79 ς79 O O (b4.all' O)) O ?_))))
 have sl_1 := sl.keep c1
 refine Oq (Qi call90 O (planner_Choose P hp (by omega) _ (by omega) (by omega) _ _ _ _ _ sl_1 (by omega))) O ?_
 rintro _ w2 ⟨r, rA, rc, rfl, hr1, rk, c2⟩
 have z2 := c2.size
 have hl : r.1.len ≠ 0 := by rw [(hc r hr1).1]; omega
 have hf := (hc r hr1).2
 refine Wu O O (Om (Qu O O) O (Om (Qu O O) O (Km (Ck ζ53) O ?_)))
 intro p3 w3 b8 c3 e3 z3
 refine Ks (Cl ς53 O O O O b8) O ?_
 intro w4 c4 z4 b8_4
 refine Ww O O (Wz (Kb (Wu O O (Om (Cr υ28 O) O ?_))))
 refine Ka (Cc O (Qn (Qa (Kb (Om (Qz ι53 ς53 O O (b8_4.all' O)) O ?_)))))
 refine Wu O O ?_
 have cc_2_4 : Ch No w2 w4 := (Ch.then (E := No) c3 c4)
 have rk_4 := rk.keep cc_2_4
 have cc_0_4 : Ch No w w4 := (Ch.then (E := No) ((c1.and c2).and c3) c4)
 have st_4 := st.keep cc_0_4
 have tab_4 := tab.keep cc_0_4
 refine Oq (Qi call64 O (plan_Of _ _ _ _ _ _ rk_4 (by omega) hl hf st_4 ((tab_4).up (by omega)) (by omega))) O ?_
 rintro _ w5 ⟨p5, rfl, pl5, c5⟩
 have z5 := c5.size
 refine Om (Qu O O) O (Om (Qu O O) O (Ww O O (Ww O O (Ka (Qp (Ra O O O ?_))))))
 refine Kx ?_
 have cc_0_5 : Ch No w w5 := ((Ch.then (E := No) ((c1.and c2).and c3) c4).and c5)
 have CH_5 := cc_0_5
 have zz := CH_5.size
 exact ⟨_, r, O, hr1, (pl5).weak (by omega) (by omega), CH_5⟩
theorem plan_New (n : Int) (hn : 1 ≤ n) (hn2 : n ≤ 4096) (hc : HasP PU n) (w : World) (st : StT w) (tab : TabB w.heap.size w) (hG : 24 ≤ w.heap.size) :
  Calls prog 13 #[.int .i64 n] w (Ret (fun v w' => ∃ p r, v = .tuple #[.pointer (some ⟨p, 0, none⟩), .nilIface] ∧ Best PU n r ∧ PlnR w.heap.size w'.heap.size w' p (plnM r.1) ∧ Ch No w w')) := by
 refine Ku func13 O ntmps13 O (Kb (Ww O O (Ww O O (Wz ?_))))
 refine Qb (Wu O O (Oq (Qi call45 O (planner_Usual _)) O ?_))
 rintro _ w1 ⟨FA, fc, rfl, sl, c1⟩
 have z1 := c1.size
 have st_1 := st.keep c1
 have tab_1 := tab.keep c1
 refine Oq (Qi call44 O (plan_With PU (by refine ⟨by decide, by decide, by decide, by decide, ?_⟩; intro i r h; match i, h with | 0, h => (simp [PU] at h; subst h; decide) | 1, h => (simp [PU] at h; subst h; decide) | 2, h => (simp [PU] at h; subst h; decide) | 3, h => (simp [PU] at h; subst h; decide) | (i + 4), h => simp [PU] at h) (by decide) n hn hn2 hc _ _ _ _ _ sl (by omega) st_1 ((tab_1).up (by omega)) (by omega))) O ?_
 rintro _ w2 ⟨p2, r, rfl, hr1, pl2, c2⟩
 have z2 := c2.size
 refine Om (Qu O O) O (Om (Qu O O) O (Ww O O (Ww O O (Ka (Qp (Ra O O O ?_))))))
 refine Kx ?_
 have CH_2 := (c1.trans c2)
 have zz := CH_2.size
 exact ⟨_, r, O, hr1, (pl2).weak (by omega) (by omega), CH_2⟩
end Go.Tm
namespace Go.Tm
end Go.Tm
namespace Go.Tm
set_option maxRecDepth 100000
open Go.RowKit Go.Proofs Go.Proofs.Tryz
structure WrR (w : World) (q r : Nat) (bs : List UInt8) : Prop where
  ex : ∃ A c, Bk w q #[.slice A bs.length c] 255 ∧ Ow w r 5 1 A bs.length c (Lib.byteCells bs)
theorem WrR.to {D : Nat → Prop} {w w' : World} {q r : Nat} {bs : List UInt8} (h : WrR w q r bs) (c : Ch D w w') (hd : ∀ x, x < w.heap.size → QR q r x → x = x → ¬ D x := by first | exact fun _ _ _ _ => id | (intro q h1 h2 hx h3; omega)) : WrR w' q r bs := by
 obtain ⟨A, k, h1, h2⟩ := h
 exact ⟨A, k, h1.to c (hd q h1.lt (.inl O) O), h2.to c (fun x h3 h4 h5 => hd x h3 (.inr h4) O)⟩
theorem WrR.keep {w w' : World} {q r : Nat} {bs : List UInt8} (h : WrR w q r bs) (c : Ch No w w') : WrR w' q r bs := h.to c fun _ _ _ _ => id
theorem WrR.lt {w : World} {q r : Nat} {bs : List UInt8} (h : WrR w q r bs) : q < w.heap.size ∧ r ≤ w.heap.size ∧ r ≠ q + 1 := by
 obtain ⟨A, k, h1, h2⟩ := h
 refine ⟨h1.lt, h2.lt, fun e => ?_⟩
 rcases h2.2 with ⟨_, _, _, h⟩ | ⟨g, cur, _, h3, h4, _⟩
 · omega
 ·
  have : g = q := by omega
  subst this
  rw [h1.blk] at h4
  injection h4 with h4
  injection h4 with _ h5
  exact absurd h5 (by decide)
theorem byte_one (bs : List UInt8) : (Lib.byteCells bs).all Value.oneCell' = true := by
 simp [Lib.byteCells, Value.oneCell']
theorem Ow.nilc {w : World} {r : Nat} {e : TypeId} {sz : Nat} {A : Option Addr} {l c : Nat} {cs : List Value} (h : Ow w r e sz A l c cs) (hA : A = none) : c = 0 := by
 rcases h.2 with ⟨_, _, h, _⟩ | ⟨g, cur, h, _⟩
 · exact h
 · rw [hA] at h; cases h
theorem inf5w28 : Inf prog 5 (.int .u8 0) 1 1 := ⟨Tryz.t5, type5, rfl, rfl, rfl⟩
theorem build255w28 {ps : List (Nat × Value)} {cs : Array Value} (h : Instr.fill (fun i => ([(0, 1)] : List (Nat × Nat))[i]?) #[.slice none 0 0] ps = some cs) (w : World) : (Instr.build 255 ps.toArray).run prog w = .ok (.agg cs) w := by
 simp [Instr.build, runUnderlying255, zeroValue255, ς172, Value.cells, h]
theorem pack_New (w : World) :
  Calls prog 199 #[] w (Ret (fun v w' => ∃ q, v = Kh q ∧ WrR w' q 0 [] ∧ w.heap.size ≤ q ∧ Ch No w w')) := by
 refine Ku func199 O ntmps199 O (Kb (Ww O O (Wy ?_)))
 refine Om (Ct O (build255w28 O)) O (Km (Cp O) O ?_)
 intro p1 w1 b2 c1 e1 z1
 refine Ww O O (Ka (Qp (Qx O O (Kx ?_))))
 have CH_1 := c1
 exact ⟨_, O, ⟨none, 0, b2, Ow.nil _ _ _⟩, by omega, CH_1⟩
theorem pack_Out (q r : Nat) (bs : List UInt8) (w : World) (wr : WrR w q r bs) (hl : bs.length ≤ 1000000000000) :
  Calls prog 204 #[Kh q] w (Ret (fun v w' => ∃ r' A' c', v = .slice A' bs.length c' ∧ Ow w' r' 5 1 A' bs.length c' (Lib.byteCells bs) ∧ (r' = 0 ∨ w.heap.size < r') ∧ Ch No w w')) := by
 obtain ⟨A, c, bk, row⟩ := id wr
 have lw := wr.lt; have lrow := row.lt
 refine Ku func204 O ntmps204 O (Kb (Ww O O (Wy ?_)))
 refine Wu O O (Om (Qq O) O (Om (Qh υ255 O ς172 O O O) O (Om (Qg ι172 O (bk.cell O)) O ?_)))
 refine Oq (Cm (S := _) υ172 inf5w28 O (by decide) O O (Ow.nil _ _ _) row.sl (byte_one _) (fun _ h => row.nilc h) (by omega) (by simp only [maxLen]; omega)) O ?_
 rintro _ w1 ⟨r1, A1, k1, rfl, o1, c1, q1⟩
 have z1 := c1.size
 have y1 := o1.lt
 refine Ww O O (Ka (Qp (Qx O O (Kx ?_))))
 have yo := o1.lt
 have CH_1 : Ch (No) w w1 := (Ch.refl (No) w).then c1
 exact ⟨r1, A1, k1, by rw [Nat.zero_add], (o1).to' (by omega) (by simp), by omega, CH_1⟩
end Go.Tm
namespace Go.Tm
set_option maxRecDepth 100000
open Go.RowKit Go.Proofs Go.Proofs.Tryz
def uintB (n : Nat) : List UInt8 := if 127 < n then UInt8.ofNat (n % 128 + 128) :: uintB (n / 128) else [UInt8.ofNat n]
termination_by n
decreasing_by omega
theorem uintB_big {n : Nat} (h : 127 < n) : uintB n = UInt8.ofNat (n % 128 + 128) :: uintB (n / 128) := by rw [uintB, if_pos h]
theorem uintB_small {n : Nat} (h : ¬ 127 < n) : uintB n = [UInt8.ofNat n] := by rw [uintB, if_neg h]
theorem uintB_len_aux : ∀ (k n : Nat), n < 128 ^ (k + 1) → (uintB n).length ≤ k + 1
 | 0, n, h => by rw [uintB_small (by omega)]; simp
 | k + 1, n, h => by
  by_cases hn : 127 < n
  ·
   rw [uintB_big hn, List.length_cons]
   have := uintB_len_aux k (n / 128) (by rw [Nat.pow_succ] at h; omega)
   omega
  · rw [uintB_small hn]; simp
theorem uintB_len {n : Nat} (h : n ≤ 18446744073709551615 := by omega) : (uintB n).length ≤ 10 := uintB_len_aux 9 n (Nat.lt_of_le_of_lt h (by decide))
theorem uintB_ne (n : Nat) : 0 < (uintB n).length := by
 by_cases h : 127 < n
 · rw [uintB_big h]; simp
 · rw [uintB_small h]; simp
theorem byte_add (o : List UInt8) {m : Nat} (h : m < 256) : Lib.byteCells o ++ flat [Value.int IntKind.u8 (m : Int)] = Lib.byteCells (o ++ [UInt8.ofNat m]) := by
 have : (UInt8.ofNat m).toNat = m := by rw [UInt8.toNat_ofNat']; omega
 simp [Lib.byteCells, flat, Value.cells, this]
theorem byte_last (o : List UInt8) {m : Nat} (h : m < 256) : Lib.byteCells o ++ flat [Value.int IntKind.u8 (IntKind.u8.wrap (m : Int))] = Lib.byteCells (o ++ [UInt8.ofNat m]) := by
 rw [show IntKind.u8.wrap (m : Int) = (m : Int) by rw [IntKind.wrap_u8]; omega]
 exact byte_add o h
theorem or128 : ∀ y : Fin 256, IntKind.u8.wrap ((BitVec.ofInt 8 (y.1 : Int) ||| BitVec.ofInt 8 128).toNat) = (y.1 % 128 + 128 : Nat) := by decide +kernel
section
variable {P : Program} {n : Fr} {k : K} {w : World} {d : Option Tmp} {ty : TypeId} {pos : String} {aft : Array Edge} {g : Option (Nat × Bool)} {t t' : TypeId} {x y : Operand} {a b : Int}
theorem Rn.or128 {m : Nat} (hx : ev k x = some (.int .u8 (IntKind.u8.wrap (m : Int)))) (hy : ev k y = some (.int .u8 128)) : Rn P n k w { dst := d, op := .binOp .or t x y t', type := ty, pos := pos, after := aft, guard := g } (.int .u8 ((m % 128 + 128 : Nat) : Int)) :=
 Rz hx hy (fun x y => by
  have h1 : IntKind.u8.wrap (m : Int) = ((m % 256 : Nat) : Int) := by rw [IntKind.wrap_u8]; omega
  have h := Go.Tm.or128 ⟨m % 256, by omega⟩
  have h2 : m % 256 % 128 = m % 128 := by omega
  rw [h1]
  simp only [h2] at h
  simp only [eqGuard_or, binOp_or, Op.intBits]
  rw [← h]; rfl)
theorem Rn.shr64 {c : Int} {q : IntKind} (hx : ev k x = some (.int .u64 a)) (hy : ev k y = some (.int q c)) (h0 : 0 ≤ c) (h1 : c ≤ 64) : Rn P n k w { dst := d, op := .binOp .shr t x y t', type := ty, pos := pos, after := aft, guard := g } (.int .u64 (a / 2 ^ c.toNat)) :=
 Rz hx hy (fun x y => by simp [eqGuard_shr, binOp_shr, shift_shr_u64 (h₀ := h0) (h₁ := h1)])
end
theorem inf5w32 : Inf prog 5 (.int .u8 0) 1 1 := ⟨Tryz.t5, type5, rfl, rfl, rfl⟩
theorem pack_Uint (q r : Nat) (bs : List UInt8) (x0 : Nat) (hx0 : x0 ≤ 18446744073709551615) (w : World) (wr : WrR w q r bs) (hl : bs.length ≤ 1000000000000) :
  Calls prog 201 #[Kh q, .int .u64 x0] w (Ret (fun v w' => ∃ r', v = .tuple #[] ∧ WrR w' q r' (bs ++ uintB x0) ∧ (r' = r ∨ w.heap.size < r') ∧ Ch (QR q r) w w')) := by
 obtain ⟨A, c, bk, row⟩ := id wr
 have lw := wr.lt; have lrow := row.lt
 have hul := uintB_len hx0
 refine Ku func201 O ntmps201 O (Qe (Qt (Kf (σ := Nat × List UInt8 × Nat × Option Addr × Nat) (fun (x, o, r2, A2, c2) => [(0, Kh q), (1, .int .u64 x)]) (fun (x, o, r2, A2, c2) w' => x ≤ 18446744073709551615 ∧ bs ++ uintB x0 = o ++ uintB x ∧ (r2 = r ∨ w.heap.size < r2) ∧ w.heap.size ≤ w'.heap.size ∧ Bk w' q #[.slice A2 o.length c2] 255 ∧ Ow w' r2 5 1 A2 o.length c2 (Lib.byteCells o) ∧ Ch (QR q r) w w') (fun (x, o, r2, A2, c2) => x) (x0, bs, r, A, c) ?_ ?_)))
 · exact ⟨(by omega), O, (.inl O), (Nat.le_refl _), bk, row, (Ch.refl (QR q r) w)⟩
 rintro ⟨x, o, r2, A2, c2⟩ w1 ⟨hx, hu, hr2, hsz1, bk_1, row_1, CH_1⟩
 have hpl := congrArg List.length hu; rw [List.length_append, List.length_append] at hpl
 refine Qe (Kb (Wu O O (Om (Rb O O) O (Ka (Qj O (fun hc1 => ?_) (fun hc1 => ?_))))))
 ·
  refine Qn (Qa (Qe (Qt (Qb (Wu O O (Wu O O (Om (Qq O) O ?_)))))))
  refine Om (Qh υ255 O ς172 O O O) O (Om (Qg ι172 O (bk_1.cell O)) O (Wu O O (Om (Rn.conv υ74 υ5 O) O (Om (Rn.or128 O O) O (Kq 1 1 (Kl υ172 inf5w32 O O) O ?_)))))
  intro p2 w2 l16 l16o c2 e2 z2
  have row_2 := row_1.keep c2
  refine Oq (Cm (S := _) υ172 inf5w32 O (by decide) O O row_2 l16 (by rfl) (fun h => by simp at h) (by omega) (by simp only [maxLen]; omega)) O ?_
  rintro _ w3 ⟨r3, A3, k3, rfl, o3, c3, q3⟩
  have z3 := c3.size
  have y3 := o3.lt
  refine Om (Qq O) O (Om (Qh υ255 O ς172 O O O) O ?_)
  have bk_2 := bk_1.keep c2
  have bk_3 := bk_2.to c3
  refine Ks (Rk ς172 O O O O bk_3 O) O ?_
  intro w4 c4 z4 bk_4
  refine Qf (Ql (Qa (Qb (Wu O O (Om (Rn.shr64 O O (by omega) (by omega)) O (Ww O O (Qf ?_)))))))
  refine Ce (x / 128, o ++ [UInt8.ofNat (x % 128 + 128)], r3, A3, k3) (by (dsimp only; omega)) ?_ ⟨O, O, trivial⟩
  have row_4 := o3.to c4
  have CH_2 := CH_1.and c2
  have CH_3 : Ch (QR q r) w w3 := CH_2.then c3
  have CH_4 : Ch (QR q r) w w4 := CH_3.then c4
  exact ⟨(by omega), (by rw [hu, uintB_big (by omega)]; simp), (by omega), (by omega), (by show Bk _ _ #[.slice _ (o ++ [_]).length _] _; rw [List.length_append]; exact bk_4), ((row_4).to' (by simp) (byte_add o (by omega))), CH_4⟩
 refine Cn (Qk (Qk (Qy (Qa (Qb (Wu O O (Wu O O ?_)))))))
 refine Om (Qq O) O (Om (Qh υ255 O ς172 O O O) O (Om (Qg ι172 O (bk_1.cell O)) O (Wu O O (Om (Rn.conv υ74 υ5 O) O (Kq 1 1 (Kl υ172 inf5w32 O O) O ?_)))))
 intro p5 w5 l27 l27o c5 e5 z5
 have row_5 := row_1.keep c5
 refine Oq (Cm (S := _) υ172 inf5w32 O (by decide) O O row_5 l27 (by rfl) (fun h => by simp at h) (by omega) (by simp only [maxLen]; omega)) O ?_
 rintro _ w6 ⟨r6, A6, k6, rfl, o6, c6, q6⟩
 have z6 := c6.size
 have y6 := o6.lt
 refine Om (Qq O) O (Om (Qh υ255 O ς172 O O O) O ?_)
 have bk_5 := bk_1.keep c5
 have bk_6 := bk_5.to c6
 refine Ks (Rk ς172 O O O O bk_6 O) O ?_
 intro w7 c7 z7 bk_7
 refine Qf (Rp O (Kx ?_))
 rw [uintB_small (n := x) (by omega)] at hu
 rw [hu]
 have row_7 := o6.to c7
 have CH_5 := CH_1.and c5
 have CH_6 : Ch (QR q r) w w6 := CH_5.then c6
 have CH_7 : Ch (QR q r) w w7 := CH_6.then c7
 exact ⟨_, O, ⟨A6, k6, (by show Bk _ _ #[.slice _ (o ++ [_]).length _] _; rw [List.length_append]; exact bk_7), (row_7).to' (by simp) (byte_last o (by omega))⟩, by omega, CH_7⟩
end Go.Tm
namespace Go.Tm
set_option maxRecDepth 100000
open Go.RowKit Go.Proofs Go.Proofs.Tryz
def fieldIx (op : Nat) : List Nat := [1] ++ (if kSrc op = true then [2] else []) ++ (if kJmp op = true then [3] else []) ++ [4] ++ (if 0 < kN op then [5] else []) ++ (if kK op = true then [6] else [])
abbrev ptrAt (p j : Nat) : Value := .pointer (some ⟨p, j, none⟩)
def Stp.val (s : Stp) : Nat → Int
 | 0 => s.op
 | 1 => s.dst
 | 2 => s.src
 | 3 => s.jump
 | 4 => s.count
 | 5 => s.n
 | _ => s.k
theorem fieldIx_lt {op j : Nat} (h : j ∈ fieldIx op) : 1 ≤ j ∧ j ≤ 6 := by
 unfold fieldIx at h
 simp only [List.mem_append] at h
 rcases h with ((((h | h) | h) | h) | h) | h
 · simp at h; omega
 · split at h <;> simp at h; omega
 · split at h <;> simp at h; omega
 · simp at h; omega
 · split at h <;> simp at h; omega
 · split at h <;> simp at h; omega
theorem Stp.cell_at (s : Stp) {j : Nat} (h : j ≤ 6) : s.cells[j]? = some (.int .i64 (s.val j)) := by
 match j, h with
 | 0, _ => rfl
 | 1, _ => rfl
 | 2, _ => rfl
 | 3, _ => rfl
 | 4, _ => rfl
 | 5, _ => rfl
 | 6, _ => rfl
def Bld.hd (b : Bld) : List Int := [b.ln, b.cl, b.i0, b.ou]
abbrev bldC (b : Bld) (A : Option Addr) (c : Nat) : Array Value := #[.int .i64 b.ln, .int .i64 b.cl, .int .i64 b.i0, .int .i64 b.ou, .slice A b.steps.length c]
theorem hd_cell (b : Bld) (A : Option Addr) (c : Nat) {j : Nat} {x : Int} (h : b.hd[j]? = some x) : (bldC b A c)[j]? = some (.int .i64 x) := by
 match j, h with
 | 0, h => obtain rfl := Option.some.inj h; rfl
 | 1, h => obtain rfl := Option.some.inj h; rfl
 | 2, h => obtain rfl := Option.some.inj h; rfl
 | 3, h => obtain rfl := Option.some.inj h; rfl
 | j + 4, h => simp [Bld.hd] at h
def encS (s : Stp) : List UInt8 := uintB s.op.toNat ++ (fieldIx s.op.toNat).flatMap fun j => uintB (s.val j).toNat
def encB (b : Bld) : List UInt8 := b.hd.flatMap (fun x => uintB x.toNat) ++ uintB b.steps.length ++ b.steps.flatMap encS
structure okB (b : Bld) : Prop where
  len : b.steps.length ≤ 65536
  hd : ∀ x ∈ b.hd, 0 ≤ x ∧ x ≤ 262144
  st : ∀ s ∈ b.steps, formM s = true
theorem ptr_get {S : Nat → Prop} {w : World} {A : Option Addr} {l : Nat} {L : List Nat} {p i j : Nat} (h : SlR S w A l 1 (L.map (ptrAt p))) (hy : L[i]? = some j) : w.cell? ((sAddr A).add (i * 1)) = some (ptrAt p j) := by
 have hl := h.len
 have hi := (List.getElem?_eq_some_iff.1 hy).1
 refine h.one (by simp at hl; omega) ?_
 rw [List.getElem?_map, hy]; rfl
theorem fromM_bd {x lo hi : Int} (h : fromM true x lo hi = true) : lo ≤ x ∧ x ≤ hi := by
 simpa [fromM] using h
theorem form_bd {s : Stp} (h : formM s = true) : (1 ≤ s.op ∧ s.op ≤ 11) ∧ ∀ j ∈ fieldIx s.op.toNat, 0 ≤ s.val j ∧ s.val j ≤ 262144 := by
 unfold formM at h
 split at h
 · cases h
 rename_i h1
 have hop : 1 ≤ s.op ∧ s.op ≤ 11 := Classical.not_not.1 h1
 have h2 : (fromM true s.dst 0 262143 && fromM true s.count 1 262144 && fromM (kSrc s.op.toNat) s.src 0 262143 && fromM (kJmp s.op.toNat) s.jump 1 262144 && fromM (decide (kN s.op.toNat > 0)) s.n (if s.op = 5 then 2 else 1) (kN s.op.toNat) && fromM (kK s.op.toNat) s.k 0 (s.n - 1)) = true := by
  cases hq : (fromM true s.dst 0 262143 && fromM true s.count 1 262144 && fromM (kSrc s.op.toNat) s.src 0 262143 && fromM (kJmp s.op.toNat) s.jump 1 262144 && fromM (decide (kN s.op.toNat > 0)) s.n (if s.op = 5 then 2 else 1) (kN s.op.toNat) && fromM (kK s.op.toNat) s.k 0 (s.n - 1)) with
  | true => rfl
  | false =>
   simp only [hq, if_true] at h
   cases h
 simp only [Bool.and_eq_true] at h2
 obtain ⟨⟨⟨⟨⟨ha, hb⟩, hc⟩, hd⟩, he⟩, hf⟩ := h2
 have kn : ∀ i, kN i ≤ 16384 := by intro i; unfold kN; split <;> (try split) <;> (try split) <;> omega
 refine ⟨hop, fun j hj => ?_⟩
 unfold fieldIx at hj
 simp only [List.mem_append] at hj
 have h4 := fromM_bd ha
 have h5 := fromM_bd hb
 rcases hj with ((((hj | hj) | hj) | hj) | hj) | hj
 ·
  obtain rfl : j = 1 := by simpa using hj
  show 0 ≤ s.dst ∧ s.dst ≤ 262144; omega
 ·
  split at hj
  ·
   rename_i hk
   obtain rfl : j = 2 := by simpa using hj
   rw [hk] at hc; have := fromM_bd hc
   show 0 ≤ s.src ∧ s.src ≤ 262144; omega
  · simp at hj
 ·
  split at hj
  ·
   rename_i hk
   obtain rfl : j = 3 := by simpa using hj
   rw [hk] at hd; have := fromM_bd hd
   show 0 ≤ s.jump ∧ s.jump ≤ 262144; omega
  · simp at hj
 ·
  obtain rfl : j = 4 := by simpa using hj
  show 0 ≤ s.count ∧ s.count ≤ 262144; omega
 ·
  split at hj
  ·
   rename_i hk
   obtain rfl : j = 5 := by simpa using hj
   rw [decide_eq_true (by omega)] at he; have t1 := fromM_bd he; have t2 := kn s.op.toNat
   show 0 ≤ s.n ∧ s.n ≤ 262144
   have q : (1 : Int) ≤ (if s.op = 5 then 2 else 1) := by split <;> omega
   omega
  · simp at hj
 ·
  split at hj
  ·
   rename_i hk
   obtain rfl : j = 6 := by simpa using hj
   rw [hk] at hf; have := fromM_bd hf
   have hk4 : s.op.toNat = 4 := by simpa [kK] using hk
   rw [decide_eq_true (by rw [hk4]; decide)] at he; have := fromM_bd he; have := kn s.op.toNat
   show 0 ≤ s.k ∧ s.k ≤ 262144
   omega
  · simp at hj
theorem inf133w33 : Inf prog 133 (.pointer none) 1 8 := ⟨Tryz.t133, type133, rfl, rfl, rfl⟩
set_option maxHeartbeats 4000000 in
theorem steps_fields (p : Nat) (s : Stp) (ho : 1 ≤ s.op ∧ s.op ≤ 11) (w : World) (st : StT w) (bs : Bk w p s.cells.toArray 135) :
  Calls prog 203 #[Kh p] w (Ret (fun v w' => ∃ r A c, v = .slice A (fieldIx s.op.toNat).length c ∧ Ow w' r 133 1 A (fieldIx s.op.toNat).length c ((fieldIx s.op.toNat).map (ptrAt p)) ∧ w.heap.size < r ∧ Ch No w w')) := by
 refine Ku func203 O ntmps203 O (Kb (Ww O O (Wz ?_)))
 obtain ⟨nm, ht⟩ := st
 have ka := ht s.op.toNat (by omega)
 refine Qb (Wu O O (Om (Qq O) O (Om (Qh υ135 O ς3 O O O) O (Om (Qg ι3 O (bs.cell O)) O (Om (Rn.indexArr υ260 ς259 O O) O (Om (Qz isAgg259 ς259 O O ka.1) O (Km (Ck zeroValue259) O ?_)))))))
 intro p1 w1 b3 c1 e1 z1
 refine Ks (Cl ς259 O O O O b3) O ?_
 intro w2 c2 z2 b3_2
 refine Wy (Wu O O (Om (Qq O) O (Om (Qh υ135 O ς3 O O O) O (Kq 1 1 (Kl υ234 inf133w33 O O) O ?_))))
 intro p3 w3 l14 l14o c3 e3 z3
 refine Ww O O (Wz (Kb (Om (Qh υ259 O ς4 O O O) O ?_)))
 have b3_3 := b3_2.keep c3
 refine Om (Qg ι4 O (b3_3.cell O)) O (Ka (Cq O (fun hc1 => ?_) (fun hc1 => ?_)))
 ·
  try simp only [bX] at hc1
  refine Qb (Wu O O (Wu O O (Om (Qq O) O (Om (Qh υ135 O ς3 O O O) O (Kq 1 1 (Kl υ234 inf133w33 O O) O ?_)))))
  intro p4 w4 l21 l21o c4 e4 z4
  have l14o_4 := l14o.keep c4
  refine Oq (Cm (S := _) υ234 inf133w33 O (by decide) O O l14o_4 l21 (by rfl) (fun h => by simp at h) (by omega) (by simp only [maxLen]; omega)) O ?_
  rintro _ w5 ⟨r5, A5, k5, rfl, o5, c5, q5⟩
  have z5 := c5.size
  have y5 := o5.lt
  refine Ww O O (Wz (Kb (Om (Qh υ259 O ς4 O O O) O ?_)))
  have b3_4 := b3_3.keep c4
  have b3_5 := b3_4.to c5
  refine Om (Qg ι4 O (b3_5.cell O)) O (Ka (Cq O (fun hc2 => ?_) (fun hc2 => ?_)))
  ·
   try simp only [bX] at hc2
   refine Qb (Wu O O (Wu O O (Om (Qq O) O (Om (Qh υ135 O ς3 O O O) O (Kq 1 1 (Kl υ234 inf133w33 O O) O ?_)))))
   intro p6 w6 l29 l29o c6 e6 z6
   have row_6 := o5.keep c6
   refine Oq (Cm (S := _) υ234 inf133w33 O (by decide) O O row_6 l29 (by rfl) (fun h => by simp at h) (by omega) (by simp only [maxLen]; omega)) O ?_
   rintro _ w7 ⟨r7, A7, k7, rfl, o7, c7, q7⟩
   have z7 := c7.size
   have y7 := o7.lt
   refine Ww O O (Wy (Wu O O (Wu O O (Om (Qq O) O ?_))))
   refine Om (Qh υ135 O ς3 O O O) O (Kq 1 1 (Kl υ234 inf133w33 O O) O ?_)
   intro p8 w8 l35 l35o c8 e8 z8
   have row_8 := o7.keep c8
   refine Oq (Cm (S := _) υ234 inf133w33 O (by decide) O O row_8 l35 (by rfl) (fun h => by simp at h) (by omega) (by simp only [maxLen]; omega)) O ?_
   rintro _ w9 ⟨r9, A9, k9, rfl, o9, c9, q9⟩
   have z9 := c9.size
   have y9 := o9.lt
   refine Ww O O (Wz (Kb (Om (Qh υ259 O ς3 O O O) O ?_)))
   have b3_6 := b3_5.keep c6
   have b3_7 := b3_6.to c7
   have b3_8 := b3_7.keep c8
   have b3_9 := b3_8.to c9
   refine Om (Qg ι3 O (b3_9.cell O)) O (Om (Rb O O) O (Ka (Qj O (fun hc3 => ?_) (fun hc3 => ?_))))
   ·
    refine Qb (Wu O O (Wu O O (Om (Qq O) O (Om (Qh υ135 O ς3 O O O) O (Kq 1 1 (Kl υ234 inf133w33 O O) O ?_)))))
    intro p10 w10 l44 l44o c10 e10 z10
    have row_10 := o9.keep c10
    refine Oq (Cm (S := _) υ234 inf133w33 O (by decide) O O row_10 l44 (by rfl) (fun h => by simp at h) (by omega) (by simp only [maxLen]; omega)) O ?_
    rintro _ w11 ⟨r11, A11, k11, rfl, o11, c11, q11⟩
    have z11 := c11.size
    have y11 := o11.lt
    refine Ww O O (Wz (Kb (Om (Qh υ259 O ς4 O O O) O ?_)))
    have b3_10 := b3_9.keep c10
    have b3_11 := b3_10.to c11
    refine Om (Qg ι4 O (b3_11.cell O)) O (Ka (Cq O (fun hc4 => ?_) (fun hc4 => ?_)))
    ·
     try simp only [bX] at hc4
     refine Qb (Wu O O (Wu O O (Om (Qq O) O (Om (Qh υ135 O ς3 O O O) O (Kq 1 1 (Kl υ234 inf133w33 O O) O ?_)))))
     intro p12 w12 l52 l52o c12 e12 z12
     have row_12 := o11.keep c12
     refine Oq (Cm (S := _) υ234 inf133w33 O (by decide) O O row_12 l52 (by rfl) (fun h => by simp at h) (by omega) (by simp only [maxLen]; omega)) O ?_
     rintro _ w13 ⟨r13, A13, k13, rfl, o13, c13, q13⟩
     have z13 := c13.size
     have y13 := o13.lt
     refine Ww O O (Wy (Wu O O (Ww O O (Qf ?_))))
     refine Qa (Qp (Qx O O (Kx ?_)))
     have hlen := o13.1
     have cc_0_4 : Ch No w w4 := (((Ch.then (E := No) c1 c2).and c3).and c4)
     have CH_4 := cc_0_4
     have CH_5 : Ch (No) w w5 := CH_4.then c5
     have CH_6 := CH_5.and c6
     have CH_7 : Ch (No) w w7 := CH_6.then c7
     have CH_8 := CH_7.and c8
     have CH_9 : Ch (No) w w9 := CH_8.then c9
     have CH_10 := CH_9.and c10
     have CH_11 : Ch (No) w w11 := CH_10.then c11
     have CH_12 := CH_11.and c12
     have CH_13 : Ch (No) w w13 := CH_12.then c13
     exact ⟨r13, A13, k13, by simp [fieldIx, *], (o13).to' (by simp [fieldIx, *]) (by simp [fieldIx, flat, Value.cells, *]), by omega, CH_13⟩
    try simp only [bX] at hc4
    refine Qn (Qa (Kb (Wu O O (Ww O O (Ka ?_)))))
    refine Qp (Qx O O (Kx ?_))
    have hlen := o11.1
    have cc_0_4 : Ch No w w4 := (((Ch.then (E := No) c1 c2).and c3).and c4)
    have CH_4 := cc_0_4
    have CH_5 : Ch (No) w w5 := CH_4.then c5
    have CH_6 := CH_5.and c6
    have CH_7 : Ch (No) w w7 := CH_6.then c7
    have CH_8 := CH_7.and c8
    have CH_9 : Ch (No) w w9 := CH_8.then c9
    have CH_10 := CH_9.and c10
    have CH_11 : Ch (No) w w11 := CH_10.then c11
    exact ⟨r11, A11, k11, by simp [fieldIx, *], (o11).to' (by simp [fieldIx, *]) (by simp [fieldIx, flat, Value.cells, *]), by omega, CH_11⟩
   refine Qn (Qa (Qe (Kb (Om (Qh υ259 O ς4 O O O) O (Om (Qg ι4 O (b3_9.cell O)) O (Qf ?_))))))
   refine Qa (Cq O (fun hc5 => ?_) (fun hc5 => ?_))
   ·
    try simp only [bX] at hc5
    refine Qb (Wu O O (Wu O O (Om (Qq O) O (Om (Qh υ135 O ς3 O O O) O (Kq 1 1 (Kl υ234 inf133w33 O O) O ?_)))))
    intro p14 w14 l52 l52o c14 e14 z14
    have row_14 := o9.keep c14
    refine Oq (Cm (S := _) υ234 inf133w33 O (by decide) O O row_14 l52 (by rfl) (fun h => by simp at h) (by omega) (by simp only [maxLen]; omega)) O ?_
    rintro _ w15 ⟨r15, A15, k15, rfl, o15, c15, q15⟩
    have z15 := c15.size
    have y15 := o15.lt
    refine Ww O O (Wy (Wu O O (Ww O O (Qf ?_))))
    refine Qa (Qp (Qx O O (Kx ?_)))
    have hlen := o15.1
    have cc_0_4 : Ch No w w4 := (((Ch.then (E := No) c1 c2).and c3).and c4)
    have CH_4 := cc_0_4
    have CH_5 : Ch (No) w w5 := CH_4.then c5
    have CH_6 := CH_5.and c6
    have CH_7 : Ch (No) w w7 := CH_6.then c7
    have CH_8 := CH_7.and c8
    have CH_9 : Ch (No) w w9 := CH_8.then c9
    have CH_14 := CH_9.and c14
    have CH_15 : Ch (No) w w15 := CH_14.then c15
    exact ⟨r15, A15, k15, by simp [fieldIx, *], (o15).to' (by simp [fieldIx, *]) (by simp [fieldIx, flat, Value.cells, *]), by omega, CH_15⟩
   try simp only [bX] at hc5
   refine Qn (Qa (Kb (Wu O O (Ww O O (Ka ?_)))))
   refine Qp (Qx O O (Kx ?_))
   have hlen := o9.1
   have cc_0_4 : Ch No w w4 := (((Ch.then (E := No) c1 c2).and c3).and c4)
   have CH_4 := cc_0_4
   have CH_5 : Ch (No) w w5 := CH_4.then c5
   have CH_6 := CH_5.and c6
   have CH_7 : Ch (No) w w7 := CH_6.then c7
   have CH_8 := CH_7.and c8
   have CH_9 : Ch (No) w w9 := CH_8.then c9
   exact ⟨r9, A9, k9, by simp [fieldIx, *], (o9).to' (by simp [fieldIx, *]) (by simp [fieldIx, flat, Value.cells, *]), by omega, CH_9⟩
  try simp only [bX] at hc2
  refine Qn (Qa (Kb (Wu O O (Wu O O (Om (Qq O) O (Om (Qh υ135 O ς3 O O O) O ?_))))))
  refine Kq 1 1 (Kl υ234 inf133w33 O O) O ?_
  intro p16 w16 l35 l35o c16 e16 z16
  have row_16 := o5.keep c16
  refine Oq (Cm (S := _) υ234 inf133w33 O (by decide) O O row_16 l35 (by rfl) (fun h => by simp at h) (by omega) (by simp only [maxLen]; omega)) O ?_
  rintro _ w17 ⟨r17, A17, k17, rfl, o17, c17, q17⟩
  have z17 := c17.size
  have y17 := o17.lt
  refine Ww O O (Wz (Kb (Om (Qh υ259 O ς3 O O O) O ?_)))
  have b3_16 := b3_5.keep c16
  have b3_17 := b3_16.to c17
  refine Om (Qg ι3 O (b3_17.cell O)) O (Om (Rb O O) O (Ka (Qj O (fun hc6 => ?_) (fun hc6 => ?_))))
  ·
   refine Qb (Wu O O (Wu O O (Om (Qq O) O (Om (Qh υ135 O ς3 O O O) O (Kq 1 1 (Kl υ234 inf133w33 O O) O ?_)))))
   intro p18 w18 l44 l44o c18 e18 z18
   have row_18 := o17.keep c18
   refine Oq (Cm (S := _) υ234 inf133w33 O (by decide) O O row_18 l44 (by rfl) (fun h => by simp at h) (by omega) (by simp only [maxLen]; omega)) O ?_
   rintro _ w19 ⟨r19, A19, k19, rfl, o19, c19, q19⟩
   have z19 := c19.size
   have y19 := o19.lt
   refine Ww O O (Wz (Kb (Om (Qh υ259 O ς4 O O O) O ?_)))
   have b3_18 := b3_17.keep c18
   have b3_19 := b3_18.to c19
   refine Om (Qg ι4 O (b3_19.cell O)) O (Ka (Cq O (fun hc7 => ?_) (fun hc7 => ?_)))
   ·
    try simp only [bX] at hc7
    refine Qb (Wu O O (Wu O O (Om (Qq O) O (Om (Qh υ135 O ς3 O O O) O (Kq 1 1 (Kl υ234 inf133w33 O O) O ?_)))))
    intro p20 w20 l52 l52o c20 e20 z20
    have row_20 := o19.keep c20
    refine Oq (Cm (S := _) υ234 inf133w33 O (by decide) O O row_20 l52 (by rfl) (fun h => by simp at h) (by omega) (by simp only [maxLen]; omega)) O ?_
    rintro _ w21 ⟨r21, A21, k21, rfl, o21, c21, q21⟩
    have z21 := c21.size
    have y21 := o21.lt
    refine Ww O O (Wy (Wu O O (Ww O O (Qf ?_))))
    refine Qa (Qp (Qx O O (Kx ?_)))
    have hlen := o21.1
    have cc_0_4 : Ch No w w4 := (((Ch.then (E := No) c1 c2).and c3).and c4)
    have CH_4 := cc_0_4
    have CH_5 : Ch (No) w w5 := CH_4.then c5
    have CH_16 := CH_5.and c16
    have CH_17 : Ch (No) w w17 := CH_16.then c17
    have CH_18 := CH_17.and c18
    have CH_19 : Ch (No) w w19 := CH_18.then c19
    have CH_20 := CH_19.and c20
    have CH_21 : Ch (No) w w21 := CH_20.then c21
    exact ⟨r21, A21, k21, by simp [fieldIx, *], (o21).to' (by simp [fieldIx, *]) (by simp [fieldIx, flat, Value.cells, *]), by omega, CH_21⟩
   try simp only [bX] at hc7
   refine Qn (Qa (Kb (Wu O O (Ww O O (Ka ?_)))))
   refine Qp (Qx O O (Kx ?_))
   have hlen := o19.1
   have cc_0_4 : Ch No w w4 := (((Ch.then (E := No) c1 c2).and c3).and c4)
   have CH_4 := cc_0_4
   have CH_5 : Ch (No) w w5 := CH_4.then c5
   have CH_16 := CH_5.and c16
   have CH_17 : Ch (No) w w17 := CH_16.then c17
   have CH_18 := CH_17.and c18
   have CH_19 : Ch (No) w w19 := CH_18.then c19
   exact ⟨r19, A19, k19, by simp [fieldIx, *], (o19).to' (by simp [fieldIx, *]) (by simp [fieldIx, flat, Value.cells, *]), by omega, CH_19⟩
  refine Qn (Qa (Qe (Kb (Om (Qh υ259 O ς4 O O O) O (Om (Qg ι4 O (b3_17.cell O)) O (Qf ?_))))))
  refine Qa (Cq O (fun hc8 => ?_) (fun hc8 => ?_))
  ·
   try simp only [bX] at hc8
   refine Qb (Wu O O (Wu O O (Om (Qq O) O (Om (Qh υ135 O ς3 O O O) O (Kq 1 1 (Kl υ234 inf133w33 O O) O ?_)))))
   intro p22 w22 l52 l52o c22 e22 z22
   have row_22 := o17.keep c22
   refine Oq (Cm (S := _) υ234 inf133w33 O (by decide) O O row_22 l52 (by rfl) (fun h => by simp at h) (by omega) (by simp only [maxLen]; omega)) O ?_
   rintro _ w23 ⟨r23, A23, k23, rfl, o23, c23, q23⟩
   have z23 := c23.size
   have y23 := o23.lt
   refine Ww O O (Wy (Wu O O (Ww O O (Qf ?_))))
   refine Qa (Qp (Qx O O (Kx ?_)))
   have hlen := o23.1
   have cc_0_4 : Ch No w w4 := (((Ch.then (E := No) c1 c2).and c3).and c4)
   have CH_4 := cc_0_4
   have CH_5 : Ch (No) w w5 := CH_4.then c5
   have CH_16 := CH_5.and c16
   have CH_17 : Ch (No) w w17 := CH_16.then c17
   have CH_22 := CH_17.and c22
   have CH_23 : Ch (No) w w23 := CH_22.then c23
   exact ⟨r23, A23, k23, by simp [fieldIx, *], (o23).to' (by simp [fieldIx, *]) (by simp [fieldIx, flat, Value.cells, *]), by omega, CH_23⟩
  try simp only [bX] at hc8
  refine Qn (Qa (Kb (Wu O O (Ww O O (Ka ?_)))))
  refine Qp (Qx O O (Kx ?_))
  have hlen := o17.1
  have cc_0_4 : Ch No w w4 := (((Ch.then (E := No) c1 c2).and c3).and c4)
  have CH_4 := cc_0_4
  have CH_5 : Ch (No) w w5 := CH_4.then c5
  have CH_16 := CH_5.and c16
  have CH_17 : Ch (No) w w17 := CH_16.then c17
  exact ⟨r17, A17, k17, by simp [fieldIx, *], (o17).to' (by simp [fieldIx, *]) (by simp [fieldIx, flat, Value.cells, *]), by omega, CH_17⟩
 try simp only [bX] at hc1
 refine Qn (Qa (Qe (Kb (Om (Qh υ259 O ς4 O O O) O (Om (Qg ι4 O (b3_3.cell O)) O (Qf ?_))))))
 refine Qa (Cq O (fun hc9 => ?_) (fun hc9 => ?_))
 ·
  try simp only [bX] at hc9
  refine Qb (Wu O O (Wu O O (Om (Qq O) O (Om (Qh υ135 O ς3 O O O) O (Kq 1 1 (Kl υ234 inf133w33 O O) O ?_)))))
  intro p24 w24 l29 l29o c24 e24 z24
  have l14o_24 := l14o.keep c24
  refine Oq (Cm (S := _) υ234 inf133w33 O (by decide) O O l14o_24 l29 (by rfl) (fun h => by simp at h) (by omega) (by simp only [maxLen]; omega)) O ?_
  rintro _ w25 ⟨r25, A25, k25, rfl, o25, c25, q25⟩
  have z25 := c25.size
  have y25 := o25.lt
  refine Ww O O (Wy (Wu O O (Wu O O (Om (Qq O) O ?_))))
  refine Om (Qh υ135 O ς3 O O O) O (Kq 1 1 (Kl υ234 inf133w33 O O) O ?_)
  intro p26 w26 l35 l35o c26 e26 z26
  have row_26 := o25.keep c26
  refine Oq (Cm (S := _) υ234 inf133w33 O (by decide) O O row_26 l35 (by rfl) (fun h => by simp at h) (by omega) (by simp only [maxLen]; omega)) O ?_
  rintro _ w27 ⟨r27, A27, k27, rfl, o27, c27, q27⟩
  have z27 := c27.size
  have y27 := o27.lt
  refine Ww O O (Wz (Kb (Om (Qh υ259 O ς3 O O O) O ?_)))
  have b3_24 := b3_3.keep c24
  have b3_25 := b3_24.to c25
  have b3_26 := b3_25.keep c26
  have b3_27 := b3_26.to c27
  refine Om (Qg ι3 O (b3_27.cell O)) O (Om (Rb O O) O (Ka (Qj O (fun hc10 => ?_) (fun hc10 => ?_))))
  ·
   refine Qb (Wu O O (Wu O O (Om (Qq O) O (Om (Qh υ135 O ς3 O O O) O (Kq 1 1 (Kl υ234 inf133w33 O O) O ?_)))))
   intro p28 w28 l44 l44o c28 e28 z28
   have row_28 := o27.keep c28
   refine Oq (Cm (S := _) υ234 inf133w33 O (by decide) O O row_28 l44 (by rfl) (fun h => by simp at h) (by omega) (by simp only [maxLen]; omega)) O ?_
   rintro _ w29 ⟨r29, A29, k29, rfl, o29, c29, q29⟩
   have z29 := c29.size
   have y29 := o29.lt
   refine Ww O O (Wz (Kb (Om (Qh υ259 O ς4 O O O) O ?_)))
   have b3_28 := b3_27.keep c28
   have b3_29 := b3_28.to c29
   refine Om (Qg ι4 O (b3_29.cell O)) O (Ka (Cq O (fun hc11 => ?_) (fun hc11 => ?_)))
   ·
    try simp only [bX] at hc11
    refine Qb (Wu O O (Wu O O (Om (Qq O) O (Om (Qh υ135 O ς3 O O O) O (Kq 1 1 (Kl υ234 inf133w33 O O) O ?_)))))
    intro p30 w30 l52 l52o c30 e30 z30
    have row_30 := o29.keep c30
    refine Oq (Cm (S := _) υ234 inf133w33 O (by decide) O O row_30 l52 (by rfl) (fun h => by simp at h) (by omega) (by simp only [maxLen]; omega)) O ?_
    rintro _ w31 ⟨r31, A31, k31, rfl, o31, c31, q31⟩
    have z31 := c31.size
    have y31 := o31.lt
    refine Ww O O (Wy (Wu O O (Ww O O (Qf ?_))))
    refine Qa (Qp (Qx O O (Kx ?_)))
    have hlen := o31.1
    have cc_0_24 : Ch No w w24 := (((Ch.then (E := No) c1 c2).and c3).and c24)
    have CH_24 := cc_0_24
    have CH_25 : Ch (No) w w25 := CH_24.then c25
    have CH_26 := CH_25.and c26
    have CH_27 : Ch (No) w w27 := CH_26.then c27
    have CH_28 := CH_27.and c28
    have CH_29 : Ch (No) w w29 := CH_28.then c29
    have CH_30 := CH_29.and c30
    have CH_31 : Ch (No) w w31 := CH_30.then c31
    exact ⟨r31, A31, k31, by simp [fieldIx, *], (o31).to' (by simp [fieldIx, *]) (by simp [fieldIx, flat, Value.cells, *]), by omega, CH_31⟩
   try simp only [bX] at hc11
   refine Qn (Qa (Kb (Wu O O (Ww O O (Ka ?_)))))
   refine Qp (Qx O O (Kx ?_))
   have hlen := o29.1
   have cc_0_24 : Ch No w w24 := (((Ch.then (E := No) c1 c2).and c3).and c24)
   have CH_24 := cc_0_24
   have CH_25 : Ch (No) w w25 := CH_24.then c25
   have CH_26 := CH_25.and c26
   have CH_27 : Ch (No) w w27 := CH_26.then c27
   have CH_28 := CH_27.and c28
   have CH_29 : Ch (No) w w29 := CH_28.then c29
   exact ⟨r29, A29, k29, by simp [fieldIx, *], (o29).to' (by simp [fieldIx, *]) (by simp [fieldIx, flat, Value.cells, *]), by omega, CH_29⟩
  refine Qn (Qa (Qe (Kb (Om (Qh υ259 O ς4 O O O) O (Om (Qg ι4 O (b3_27.cell O)) O (Qf ?_))))))
  refine Qa (Cq O (fun hc12 => ?_) (fun hc12 => ?_))
  ·
   try simp only [bX] at hc12
   refine Qb (Wu O O (Wu O O (Om (Qq O) O (Om (Qh υ135 O ς3 O O O) O (Kq 1 1 (Kl υ234 inf133w33 O O) O ?_)))))
   intro p32 w32 l52 l52o c32 e32 z32
   have row_32 := o27.keep c32
   refine Oq (Cm (S := _) υ234 inf133w33 O (by decide) O O row_32 l52 (by rfl) (fun h => by simp at h) (by omega) (by simp only [maxLen]; omega)) O ?_
   rintro _ w33 ⟨r33, A33, k33, rfl, o33, c33, q33⟩
   have z33 := c33.size
   have y33 := o33.lt
   refine Ww O O (Wy (Wu O O (Ww O O (Qf ?_))))
   refine Qa (Qp (Qx O O (Kx ?_)))
   have hlen := o33.1
   have cc_0_24 : Ch No w w24 := (((Ch.then (E := No) c1 c2).and c3).and c24)
   have CH_24 := cc_0_24
   have CH_25 : Ch (No) w w25 := CH_24.then c25
   have CH_26 := CH_25.and c26
   have CH_27 : Ch (No) w w27 := CH_26.then c27
   have CH_32 := CH_27.and c32
   have CH_33 : Ch (No) w w33 := CH_32.then c33
   exact ⟨r33, A33, k33, by simp [fieldIx, *], (o33).to' (by simp [fieldIx, *]) (by simp [fieldIx, flat, Value.cells, *]), by omega, CH_33⟩
  try simp only [bX] at hc12
  refine Qn (Qa (Kb (Wu O O (Ww O O (Ka ?_)))))
  refine Qp (Qx O O (Kx ?_))
  have hlen := o27.1
  have cc_0_24 : Ch No w w24 := (((Ch.then (E := No) c1 c2).and c3).and c24)
  have CH_24 := cc_0_24
  have CH_25 : Ch (No) w w25 := CH_24.then c25
  have CH_26 := CH_25.and c26
  have CH_27 : Ch (No) w w27 := CH_26.then c27
  exact ⟨r27, A27, k27, by simp [fieldIx, *], (o27).to' (by simp [fieldIx, *]) (by simp [fieldIx, flat, Value.cells, *]), by omega, CH_27⟩
 try simp only [bX] at hc9
 refine Qn (Qa (Kb (Wu O O (Wu O O (Om (Qq O) O (Om (Qh υ135 O ς3 O O O) O ?_))))))
 refine Kq 1 1 (Kl υ234 inf133w33 O O) O ?_
 intro p34 w34 l35 l35o c34 e34 z34
 have l14o_34 := l14o.keep c34
 refine Oq (Cm (S := _) υ234 inf133w33 O (by decide) O O l14o_34 l35 (by rfl) (fun h => by simp at h) (by omega) (by simp only [maxLen]; omega)) O ?_
 rintro _ w35 ⟨r35, A35, k35, rfl, o35, c35, q35⟩
 have z35 := c35.size
 have y35 := o35.lt
 refine Ww O O (Wz (Kb (Om (Qh υ259 O ς3 O O O) O ?_)))
 have b3_34 := b3_3.keep c34
 have b3_35 := b3_34.to c35
 refine Om (Qg ι3 O (b3_35.cell O)) O (Om (Rb O O) O (Ka (Qj O (fun hc13 => ?_) (fun hc13 => ?_))))
 ·
  refine Qb (Wu O O (Wu O O (Om (Qq O) O (Om (Qh υ135 O ς3 O O O) O (Kq 1 1 (Kl υ234 inf133w33 O O) O ?_)))))
  intro p36 w36 l44 l44o c36 e36 z36
  have row_36 := o35.keep c36
  refine Oq (Cm (S := _) υ234 inf133w33 O (by decide) O O row_36 l44 (by rfl) (fun h => by simp at h) (by omega) (by simp only [maxLen]; omega)) O ?_
  rintro _ w37 ⟨r37, A37, k37, rfl, o37, c37, q37⟩
  have z37 := c37.size
  have y37 := o37.lt
  refine Ww O O (Wz (Kb (Om (Qh υ259 O ς4 O O O) O ?_)))
  have b3_36 := b3_35.keep c36
  have b3_37 := b3_36.to c37
  refine Om (Qg ι4 O (b3_37.cell O)) O (Ka (Cq O (fun hc14 => ?_) (fun hc14 => ?_)))
  ·
   try simp only [bX] at hc14
   refine Qb (Wu O O (Wu O O (Om (Qq O) O (Om (Qh υ135 O ς3 O O O) O (Kq 1 1 (Kl υ234 inf133w33 O O) O ?_)))))
   intro p38 w38 l52 l52o c38 e38 z38
   have row_38 := o37.keep c38
   refine Oq (Cm (S := _) υ234 inf133w33 O (by decide) O O row_38 l52 (by rfl) (fun h => by simp at h) (by omega) (by simp only [maxLen]; omega)) O ?_
   rintro _ w39 ⟨r39, A39, k39, rfl, o39, c39, q39⟩
   have z39 := c39.size
   have y39 := o39.lt
   refine Ww O O (Wy (Wu O O (Ww O O (Qf ?_))))
   refine Qa (Qp (Qx O O (Kx ?_)))
   have hlen := o39.1
   have cc_0_34 : Ch No w w34 := (((Ch.then (E := No) c1 c2).and c3).and c34)
   have CH_34 := cc_0_34
   have CH_35 : Ch (No) w w35 := CH_34.then c35
   have CH_36 := CH_35.and c36
   have CH_37 : Ch (No) w w37 := CH_36.then c37
   have CH_38 := CH_37.and c38
   have CH_39 : Ch (No) w w39 := CH_38.then c39
   exact ⟨r39, A39, k39, by simp [fieldIx, *], (o39).to' (by simp [fieldIx, *]) (by simp [fieldIx, flat, Value.cells, *]), by omega, CH_39⟩
  try simp only [bX] at hc14
  refine Qn (Qa (Kb (Wu O O (Ww O O (Ka ?_)))))
  refine Qp (Qx O O (Kx ?_))
  have hlen := o37.1
  have cc_0_34 : Ch No w w34 := (((Ch.then (E := No) c1 c2).and c3).and c34)
  have CH_34 := cc_0_34
  have CH_35 : Ch (No) w w35 := CH_34.then c35
  have CH_36 := CH_35.and c36
  have CH_37 : Ch (No) w w37 := CH_36.then c37
  exact ⟨r37, A37, k37, by simp [fieldIx, *], (o37).to' (by simp [fieldIx, *]) (by simp [fieldIx, flat, Value.cells, *]), by omega, CH_37⟩
 refine Qn (Qa (Qe (Kb (Om (Qh υ259 O ς4 O O O) O (Om (Qg ι4 O (b3_35.cell O)) O (Qf ?_))))))
 refine Qa (Cq O (fun hc15 => ?_) (fun hc15 => ?_))
 ·
  try simp only [bX] at hc15
  refine Qb (Wu O O (Wu O O (Om (Qq O) O (Om (Qh υ135 O ς3 O O O) O (Kq 1 1 (Kl υ234 inf133w33 O O) O ?_)))))
  intro p40 w40 l52 l52o c40 e40 z40
  have row_40 := o35.keep c40
  refine Oq (Cm (S := _) υ234 inf133w33 O (by decide) O O row_40 l52 (by rfl) (fun h => by simp at h) (by omega) (by simp only [maxLen]; omega)) O ?_
  rintro _ w41 ⟨r41, A41, k41, rfl, o41, c41, q41⟩
  have z41 := c41.size
  have y41 := o41.lt
  refine Ww O O (Wy (Wu O O (Ww O O (Qf ?_))))
  refine Qa (Qp (Qx O O (Kx ?_)))
  have hlen := o41.1
  have cc_0_34 : Ch No w w34 := (((Ch.then (E := No) c1 c2).and c3).and c34)
  have CH_34 := cc_0_34
  have CH_35 : Ch (No) w w35 := CH_34.then c35
  have CH_40 := CH_35.and c40
  have CH_41 : Ch (No) w w41 := CH_40.then c41
  exact ⟨r41, A41, k41, by simp [fieldIx, *], (o41).to' (by simp [fieldIx, *]) (by simp [fieldIx, flat, Value.cells, *]), by omega, CH_41⟩
 try simp only [bX] at hc15
 refine Qn (Qa (Kb (Wu O O (Ww O O (Ka ?_)))))
 refine Qp (Qx O O (Kx ?_))
 have hlen := o35.1
 have cc_0_34 : Ch No w w34 := (((Ch.then (E := No) c1 c2).and c3).and c34)
 have CH_34 := cc_0_34
 have CH_35 : Ch (No) w w35 := CH_34.then c35
 exact ⟨r35, A35, k35, by simp [fieldIx, *], (o35).to' (by simp [fieldIx, *]) (by simp [fieldIx, flat, Value.cells, *]), by omega, CH_35⟩
theorem steps_head (p : Nat) (cs : Array Value) (w : World) (bp : Bk w p cs 98) :
  Calls prog 200 #[Kh p] w (Ret (fun v w' => ∃ r A c, v = .slice A 4 c ∧ Ow w' r 133 1 A 4 c ([0, 1, 2, 3].map (ptrAt p)) ∧ w.heap.size < r ∧ Ch No w w')) := by
 refine Ku func200 O ntmps200 O (Kb (Ww O O (Wz (Kj 13 [0, 2, 4, 6, 8, 10, 12, 14, 16, 18, 20, 22, 25] (No) ?_))))
 intro w1 c1 z1
 refine Wv O O (Ws (Qq O) O (Ws (Qh υ98 O ς3 O O O) O (Wv O O (Ws (Qq O) O (Ws (Qh υ98 O ς3 O O O) O (Wv O O (Ws (Qq O) O ?_)))))))
 refine Ws (Qh υ98 O ς3 O O O) O (Wv O O (Ws (Qq O) O (Ws (Qh υ98 O ς3 O O O) O (Kr 1 4 (Kl υ234 inf133w33 O O) O ?_))))
 intro p2 w2 l15 l15o c2 e2 z2
 have RD_2 := (Ch.refl (No) w1).and c2
 refine ⟨RD_2, ?_⟩
 refine Cj (Ww O O (Qf (Ca (Qa (Qp (Qx O O (Kx ?_)))))))
 have CH_2 := (c1.trans c2)
 exact ⟨_, _, _, O, l15o, by omega, CH_2⟩
end Go.Tm
namespace Go.Tm
open Go.RowKit
theorem _root_.List.cons_getElem?_drop_succ' {α : Type} {L : List α} {j : Nat} {y : α} (h : L[j]? = some y) : y :: L.drop (j + 1) = L.drop j := by
 obtain ⟨hlt, rfl⟩ := List.getElem?_eq_some_iff.1 h
 exact (List.drop_eq_getElem_cons hlt).symm
section
variable {P : Program} {n : Fr} {k : K} {w : World} {d : Option Tmp} {ty : TypeId} {pos : String} {aft : Array Edge} {g : Option (Nat × Bool)}
theorem Rn.sliceLo {t e : TypeId} {sz l c : Nat} {A : Option Addr} {x y : Operand} {q : IntKind} {i : Int} (ht : P.underlying t = some (.slice e)) (hz : ∀ w, (sizeOf e).run P w = .ok sz w) (hx : ev k x = some (.slice A l c)) (hy : ev k y = some (.int q i)) (h0 : 0 ≤ i) (h1 : i ≤ l) (_hc : l ≤ c) :
  Rn P n k w { dst := d, op := .slice t x (some y) none none, type := ty, pos := pos, after := aft, guard := g } (.slice (if c = i.toNat then A else A.map (·.add (i.toNat * sz))) (l - i.toNat) (c - i.toNat)) :=
 fun a ha => by simp [execOp, ha.eval hx, ha.eval hy, Instr.sliceAt, Instr.slice, run_underlying ht, Instr.sliceBounds, Instr.sliceBound, asIntOf, h0, h1, hz]
theorem Ow.open' {r : Nat} {e : TypeId} {sz : Nat} {A : Option Addr} {l c : Nat} {cs : List Value} (h : Ow w r e sz A l c cs) (hl : 0 < l) : ∃ g cur, A = some ⟨g, 0, none⟩ ∧ r = g + 1 ∧ w.heap[g]? = some (.cells cur e (0, 0)) ∧ l ≤ c ∧ c ≤ maxLen ∧ cur.size = c * sz ∧ cur.toList.take (l * sz) = cs := by
 rcases h.2 with ⟨_, h, _⟩ | h
 · omega
 · exact h
theorem Wk.putOw {t e : TypeId} {r l c i : Nat} {A : Option Addr} {cs : List Value} {x y : Operand} {v : Value} (hz : ∀ w, (sizeOf t).run P w = .ok 1 w) (hx : ev k x = some (.pointer (some ((sAddr A).add (i * 1))))) (hy : ev k y = some v) (hv : v.oneCell' = true) (hi : i < l) (hown : Ow w r e 1 A l c cs) :
  Wk P n k w { dst := none, op := .store t x y, type := ty, pos := pos, after := aft, guard := g } (fun _ w' => Ow w' r e 1 A l c (cs.set i v) ∧ Ch (At r) w w' ∧ w'.heap.size = w.heap.size) := by
 obtain ⟨g', cur, rfl, rfl, hg, hlc, hcm, hcs, ht⟩ := hown.open' (by omega)
 have hx' : ev k x = some (.pointer (some ⟨g', i, none⟩)) := by
  rw [hx]; simp [sAddr, Addr.add_lit]
 have hsz : i < cur.size := by rw [hcs]; omega
 refine (Rk (cs := cur) (te := e) hz hx' hy hv (oneCell_cells hv) ⟨hg⟩ (Array.getElem?_eq_getElem hsz)).mono ?_
 intro _ w' hs
 refine ⟨⟨by simp [hown.len], .inr ⟨g', _, O, O, hs.same, hlc, hcm, by simp [hcs], ?_⟩⟩, hs.ch.more (fun q _ hq => by rw [hq]), hs.size⟩
 rw [Array.toList_setIfInBounds, Nat.mul_one, List.take_set]
 rw [Nat.mul_one] at ht
 rw [ht]
end
end Go.Tm
namespace Go.Tm
open Go.RowKit
section
variable {P : Program} {n : Fr} {k : K} {w : World} {d : Option Tmp} {ty : TypeId} {pos : String} {aft : Array Edge} {g : Option (Nat × Bool)} {t t' : TypeId} {x y : Operand} {q : IntKind} {a b : Int}
theorem Rn.eqlF (hx : ev k x = some (.int q a)) (hy : ev k y = some (.int q b)) (h : a ≠ b) : Rn P n k w { dst := d, op := .binOp .eql t x y t', type := ty, pos := pos, after := aft, guard := g } (.bool false) := by
 have := Cg (P := P) (n := n) (w := w) (d := d) (ty := ty) (pos := pos) (aft := aft) (g := g) (t := t) (t' := t') hx hy
 rwa [decide_eq_false h] at this
theorem Rn.gtrF (hx : ev k x = some (.int q a)) (hy : ev k y = some (.int q b)) (h : ¬ b < a) : Rn P n k w { dst := d, op := .binOp .gtr t x y t', type := ty, pos := pos, after := aft, guard := g } (.bool false) := by
 have := Rb (P := P) (n := n) (w := w) (d := d) (ty := ty) (pos := pos) (aft := aft) (g := g) (t := t) (t' := t') hx hy
 rwa [decide_eq_false h] at this
end
end Go.Tm
namespace Go.Tm
open Go.RowKit Go.Proofs Go.Proofs.Tryz
theorem Rn.convTo {P : Program} {n : Fr} {k : K} {w : World} {d : Option Tmp} {ty : TypeId} {pos : String} {aft : Array Edge} {g : Option (Nat × Bool)} {s t : TypeId} {q q' : IntKind} {ds : TypeDesc} {x : Operand} {a r : Int} (hs : P.underlying s = some ds) (ht : P.underlying t = some (.int q')) (hx : ev k x = some (.int q a)) (hb : q'.wrap a = r) : Rn P n k w { dst := d, op := .convert s t x, type := ty, pos := pos, after := aft, guard := g } (.int q' r) := by
 subst hb; exact Rn.conv hs ht hx
theorem Rn.lssF {P : Program} {n : Fr} {k : K} {w : World} {d : Option Tmp} {ty : TypeId} {pos : String} {aft : Array Edge} {g : Option (Nat × Bool)} {t t' : TypeId} {x y : Operand} {q : IntKind} {a b : Int} (hx : ev k x = some (.int q a)) (hy : ev k y = some (.int q b)) (h : ¬ a < b) : Rn P n k w { dst := d, op := .binOp .lss t x y t', type := ty, pos := pos, after := aft, guard := g } (.bool false) := by
 have := Co (P := P) (n := n) (w := w) (d := d) (ty := ty) (pos := pos) (aft := aft) (g := g) (t := t) (t' := t') hx hy
 rwa [decide_eq_false h] at this
theorem steps_form_ok (s : Stp) (w : World) (st : StT w) (hn : -1000000000 ≤ s.n ∧ s.n ≤ 1000000000) (h : formM s = true) : Calls prog 202 #[.agg #[Kg s.op, Kg s.dst, Kg s.src, Kg s.jump, Kg s.count, Kg s.n, Kg s.k]] w (Ret fun v w' => v = .bool true ∧ Ch No w w') := by
 refine (steps_form s w st hn).mono ?_
 rintro e w' ⟨v, rfl, rfl, h3⟩
 exact ⟨_, O, by rw [h], h3⟩
theorem fromM_n {has : Bool} {x lo hi : Int} (h : fromM has x lo hi = true) (h0 : 0 ≤ lo) (h1 : hi ≤ 16384) : 0 ≤ x ∧ x ≤ 16384 := by
 cases has
 ·
  have : x = 0 := by simpa [fromM] using h
  omega
 · have := fromM_bd h; omega
theorem form_n {s : Stp} (h : formM s = true) : 0 ≤ s.n ∧ s.n ≤ 16384 := by
 unfold formM at h
 split at h
 · cases h
 have kn : ∀ i, kN i ≤ 16384 := by intro i; unfold kN; split <;> (try split) <;> (try split) <;> omega
 have h2 : (fromM true s.dst 0 262143 && fromM true s.count 1 262144 && fromM (kSrc s.op.toNat) s.src 0 262143 && fromM (kJmp s.op.toNat) s.jump 1 262144 && fromM (decide (kN s.op.toNat > 0)) s.n (if s.op = 5 then 2 else 1) (kN s.op.toNat) && fromM (kK s.op.toNat) s.k 0 (s.n - 1)) = true := by
  cases hq : (fromM true s.dst 0 262143 && fromM true s.count 1 262144 && fromM (kSrc s.op.toNat) s.src 0 262143 && fromM (kJmp s.op.toNat) s.jump 1 262144 && fromM (decide (kN s.op.toNat > 0)) s.n (if s.op = 5 then 2 else 1) (kN s.op.toNat) && fromM (kK s.op.toNat) s.k 0 (s.n - 1)) with
  | true => rfl
  | false =>
   simp only [hq, if_true] at h
   cases h
 simp only [Bool.and_eq_true] at h2
 exact fromM_n h2.1.2 (by split <;> omega) (kn _)
theorem four_get {i : Nat} (h : i < 4) : ([0, 1, 2, 3] : List Nat)[i]? = some i := by
 match i, h with
 | 0, _ => rfl
 | 1, _ => rfl
 | 2, _ => rfl
 | 3, _ => rfl
theorem fieldIx_len (op : Nat) : (fieldIx op).length ≤ 6 := by
 unfold fieldIx
 simp only [List.length_append]
 split <;> split <;> split <;> split <;> simp
theorem nat_of {x : Int} (h : 0 ≤ x) : ∃ n : Nat, x = n := ⟨x.toNat, by omega⟩
abbrev hdB (b : Bld) : List UInt8 := b.hd.flatMap fun x => uintB x.toNat
theorem take_flat {α : Type} (L : List α) (f : α → List UInt8) {i : Nat} {x : α} (h : L[i]? = some x) : (L.take (i + 1)).flatMap f = (L.take i).flatMap f ++ f x := by
 rw [List.take_add_one, h]; simp
set_option maxHeartbeats 8000000 in
set_option maxRecDepth 100000 in
theorem steps_Encode (b : Bld) (ok : okB b) (S : Nat → Prop) (A : Option Addr) (c : Nat) (w : World) (st : StT w) (sb : SlR S w A b.steps.length 7 (flatS b.steps)) (hS : ∀ y, S y → y < w.heap.size) (hG : 24 ≤ w.heap.size) :
  Calls prog 165 #[.agg #[Kg b.ln, Kg b.cl, Kg b.i0, Kg b.ou, .slice A b.steps.length c]] w (Ret (fun v w' => ∃ r A' c', v = .tuple #[.slice A' (encB b).length c', .nilIface] ∧ Ow w' r 5 1 A' (encB b).length c' (Lib.byteCells (encB b)) ∧ (r = 0 ∨ w.heap.size < r) ∧ (encB b).length ≤ 5000000 ∧ Ch No w w')) := by
 have hlen := ok.len
 have hul := uintB_len (n := b.steps.length)
 have hun := uintB_ne b.steps.length
 refine Ku func165 O ntmps165 O (Kb (Km (Cp O) O ?_))
 intro p1 w1 b1 c1 e1 z1
 refine Ww O O (Ww O O (Wz (Kb (Om (Qh υ98 O ς96 O O O) O ?_))))
 refine Om (Qg ι96 O (b1.cell O)) O (Om (Cs υ96 O) O (Om (Rb O O) O (Ka (Qj O (fun hc1 => ?_) (fun hc1 => ?_)))))
 · omega
 refine Qn (Qa (Kb (Oq (Qi call199 O (pack_New _)) O ?_)))
 rintro _ w2 ⟨qw, rfl, wr2, yqw, c2⟩
 have lw2 := wr2.lt
 have z2 := c2.size
 refine Ww O O (Wz (Kb ?_))
 have b1_2 := b1.keep c2
 refine Oq (Qi call200 O (steps_head _ _ _ b1_2)) O ?_
 rintro _ w3 ⟨rh, hA, hc, rfl, hl3, yrh, c3⟩
 have lhl3 := hl3.lt
 have z3 := c3.size
 refine Om (Cs υ234 O) O (Wu O O (Ka (Qt ?_)))
 have wr_3 := wr2.keep c3
 have b1_3 := b1_2.keep c3
 have sb_3 := sb.keep (c1.trans (c2.trans c3))
 have st_3 := st.keep (c1.trans (c2.trans c3))
 have CH_3 := (c1.trans (c2.trans c3))
 refine Kf (σ := Nat × List UInt8 × Nat) (fun (i, o, r2) => [(1, Kh p1), (4, Kh qw), (17, .slice hA 4 hc), (18, Kg 4), (19, Kg i)]) (fun (i, o, r2) w' => i ≤ 4 ∧ o = (b.hd.take i).flatMap (fun x => uintB x.toNat) ∧ o.length ≤ 10 * i ∧ (r2 = 0 ∨ w3.heap.size < r2) ∧ w3.heap.size ≤ w'.heap.size ∧ WrR w' qw r2 o ∧ Bk w' p1 (bldC b A c) 98 ∧ Ow w' rh 133 1 hA 4 hc ([0, 1, 2, 3].map (ptrAt p1)) ∧ SlR S w' A b.steps.length 7 (flatS b.steps) ∧ StT w' ∧ Ch (No) w w') (fun (i, o, r2) => 4 - i) (0, [], 0) ?_ ?_
 · exact ⟨(by omega), (by simp), (by simp), (by omega), (Nat.le_refl _), wr_3, b1_3, hl3, sb_3, st_3, CH_3⟩
 rintro ⟨i, o, r2⟩ w4 ⟨hi, ho, hol, hr2, hsz4, wr_4, b1_4, hl_4, sb_4, st_4, CH_4⟩
 have lwr := wr_4.lt
 refine Kb (Om (Co O O) O (Wz (Qj O (fun hc2 => ?_) (fun hc2 => ?_))))
 ·
  refine Qn (Qa (Qe (Qt (Qe ?_))))
  have hi4 : i < 4 := by omega
  obtain ⟨x', hx'⟩ : ∃ x', b.hd[i]? = some x' := ⟨_, List.getElem?_eq_getElem (show i < b.hd.length by show i < 4; omega)⟩
  have hxb := ok.hd x' (List.mem_of_getElem? hx')
  obtain ⟨x, rfl⟩ := nat_of hxb.1
  have hx := hx'
  have hux := uintB_len (n := x)
  refine Qb (Om (Qs υ234 sizeOf133 O O (hl_4.sl.ne (by omega))) O (Om (Qg isAgg133 O (ptr_get hl_4.sl (four_get hi4))) O (Ww O O (Wz (Qe ?_)))))
  refine Qb (Wu O O (Om (Qq O) O (Om (Qg ι3 O (b1_4.cell (hd_cell b A c hx))) O (Om (Rn.lssF O O (by omega)) O (Wu O O (Wu O O (Om (Qq O) O ?_)))))))
  refine Om (Qg ι3 O (b1_4.cell (hd_cell b A c hx))) O (Om (Rn.gtrF O O (by omega)) O (Om (Qm O O) O (Ka (Cc O (Qn (Qa ?_))))))
  refine Qb (Wu O O (Wu O O (Om (Qq O) O (Om (Qg ι3 O (b1_4.cell (hd_cell b A c hx))) O ?_))))
  refine Om (Rn.convTo υ3 υ74 O (r := ((x : Nat) : Int)) (by rw [IntKind.wrap_u64]; omega)) O ?_
  refine Oq (Qi call201 O (pack_Uint qw r2 (o) (x) (by omega) _ wr_4 (by first | omega | (simp; done) | (simp; omega)))) O ?_
  rintro _ w5 ⟨rw5, rfl, wr5, yw5, c5⟩
  have lw5 := wr5.lt
  have z5 := c5.size
  refine Qf (Ql (Qa (Qb ?_)))
  refine Om (Cd O O) O ?_
  refine Wu O O (Qf ?_)
  refine Ce (i + 1, o ++ uintB x, rw5) (by (dsimp only; omega)) ?_ ⟨O, O, O, O, O, trivial⟩
  have b1_5 := b1_4.to c5
  have hl_5 := hl_4.to c5
  have sb_5 := sb_4.to c5 (by first | exact fun _ _ _ _ => id | (intro q h1 h2 hx h3; have := hS q h2; omega))
  have st_5 := st_4.to c5
  have CH_5 : Ch (No) w w5 := CH_4.then c5
  exact ⟨(by omega), (by rw [take_flat _ _ hx, ho]; simp), (by rw [List.length_append]; omega), (by omega), (by omega), wr5, b1_5, hl_5, sb_5, st_5, CH_5⟩
 refine Cn (Qk (Qk (Qy (Qa (Qe ?_)))))
 have hoh : o = hdB b := by rw [ho, List.take_of_length_le (show b.hd.length ≤ i by show 4 ≤ i; omega)]
 clear ho; subst hoh
 refine Qb (Wu O O (Om (Qh υ98 O ς96 O O O) O (Om (Qg ι96 O (b1_4.cell O)) O (Om (Cs υ96 O) O ?_))))
 refine Om (Rn.convTo υ3 υ74 O (r := ((b.steps.length : Nat) : Int)) (by rw [IntKind.wrap_u64]; omega)) O ?_
 refine Oq (Qi call201 O (pack_Uint qw r2 (hdB b) (b.steps.length) (by omega) _ wr_4 (by first | omega | (simp; done) | (simp; omega)))) O ?_
 rintro _ w6 ⟨rw6, rfl, wr6, yw6, c6⟩
 have lw6 := wr6.lt
 have z6 := c6.size
 refine Wz (Kb (Om (Qh υ98 O ς96 O O O) O ?_))
 have b1_6 := b1_4.to c6
 refine Om (Qg ι96 O (b1_6.cell O)) O (Om (Cs υ96 O) O (Wu O O (Ka (Qt ?_))))
 have sb_6 := sb_4.to c6 (by first | exact fun _ _ _ _ => id | (intro q h1 h2 hx h3; have := hS q h2; omega))
 have st_6 := st_4.to c6
 have CH_6 : Ch (No) w w6 := CH_4.then c6
 refine Kf (σ := Nat × List UInt8 × Nat) (fun (i, o, r2) => [(4, Kh qw), (48, .slice A b.steps.length c), (49, Kg b.steps.length), (50, Kg i)]) (fun (i, o, r2) w' => i ≤ b.steps.length ∧ o = hdB b ++ uintB b.steps.length ++ (b.steps.take i).flatMap encS ∧ o.length ≤ 50 + 70 * i ∧ (r2 = 0 ∨ w.heap.size < r2) ∧ w6.heap.size ≤ w'.heap.size ∧ WrR w' qw r2 o ∧ SlR S w' A b.steps.length 7 (flatS b.steps) ∧ StT w' ∧ Ch (No) w w') (fun (i, o, r2) => b.steps.length - i) (0, hdB b ++ uintB b.steps.length, rw6) ?_ ?_
 · exact ⟨(by omega), (by simp), (by rw [List.length_append]; omega), (by omega), (Nat.le_refl _), wr6, sb_6, st_6, CH_6⟩
 rintro ⟨i, o, r2⟩ w7 ⟨hi, ho, hol, hr2, hsz7, wr_7, sb_7, st_7, CH_7⟩
 have lwr := wr_7.lt
 refine Kb (Om (Co O O) O (Wz (Qj O (fun hc3 => ?_) (fun hc3 => ?_))))
 ·
  refine Qn (Qa (Qe (Qt (Qe ?_))))
  obtain ⟨s, hs⟩ : ∃ s, b.steps[i]? = some s := ⟨_, List.getElem?_eq_getElem (by omega)⟩
  have hfm := ok.st s (List.mem_of_getElem? hs)
  have hnb := form_n hfm
  have hfb := form_bd hfm
  have hfl := fieldIx_len s.op.toNat
  obtain ⟨op, hop⟩ := nat_of (show 0 ≤ s.op by omega)
  have huo := uintB_len (n := op)
  have ks := sl_step sb_7 rfl hs
  refine Qb (Om (Qs υ96 ς135 O O (sb_7.ne (by omega))) O (Om (Qz ι135 ς135 O O ks.1) O (Km (Ck ζ135) O ?_)))
  intro p8 w8 b8 c8 e8 z8
  refine Ks (Cl ς135 O O O O b8) O ?_
  intro w9 c9 z9 b8_9
  refine Wz (Kb (Om (Qz ι135 ς135 O O (b8_9.all' O)) O ?_))
  have cc_7_9 : Ch No w7 w9 := (Ch.then (E := No) c8 c9)
  have st_9 := st_7.keep cc_7_9
  refine Oq (Qi call202 O (steps_form_ok s _ st_9 (by omega) hfm)) O ?_
  rintro _ w10 ⟨rfl, c10⟩
  have z10 := c10.size
  refine Om (Rm O) O (Ka (Cc O (Qn (Qa (Kb ?_)))))
  refine Wu O O (Om (Qh υ135 O ς3 O O O) O ?_)
  have b8_10 := b8_9.keep c10
  refine Om (Qg ι3 O (b8_10.cell O)) O ?_
  refine Om (Rn.convTo υ3 υ74 O (r := ((op : Nat) : Int)) (by rw [IntKind.wrap_u64]; omega)) O ?_
  have cc_7_10 : Ch No w7 w10 := ((Ch.then (E := No) c8 c9).and c10)
  have wr_10 := wr_7.keep cc_7_10
  refine Oq (Qi call201 O (pack_Uint qw r2 (o) (op) (by omega) _ wr_10 (by first | omega | (simp; done) | (simp; omega)))) O ?_
  rintro _ w11 ⟨rw11, rfl, wr11, yw11, c11⟩
  have lw11 := wr11.lt
  have z11 := c11.size
  refine Wy ?_
  have st_10 := st_9.keep c10
  have st_11 := st_10.to c11
  have b8_11 := b8_10.to c11
  refine Oq (Qi call203 O (steps_fields p8 s (by omega) _ st_11 b8_11)) O ?_
  rintro _ w12 ⟨rf, fA, fc, rfl, fl12, yrf, c12⟩
  have lfl12 := fl12.lt
  have z12 := c12.size
  refine Om (Cs υ234 O) O (Wu O O (Ka (Qt ?_)))
  have wr_12 := wr11.keep c12
  have sb_10 := sb_7.keep cc_7_10
  have sb_11 := sb_10.to c11 (by first | exact fun _ _ _ _ => id | (intro q h1 h2 hx h3; have := hS q h2; omega))
  have sb_12 := sb_11.keep c12
  have st_12 := st_11.keep c12
  have b8_12 := b8_11.keep c12
  have CH_10 := CH_7.and cc_7_10
  have CH_11 : Ch (No) w w11 := CH_10.then c11
  have CH_12 := CH_11.and c12
  refine Kf (σ := Nat × List UInt8 × Nat) (fun (j, o2, r3) => [(4, Kh qw), (8, Kh p8), (48, .slice A b.steps.length c), (49, Kg b.steps.length), (50, Kg i), (63, .slice fA (fieldIx s.op.toNat).length fc), (64, Kg (fieldIx s.op.toNat).length), (65, Kg j)]) (fun (j, o2, r3) w' => j ≤ (fieldIx s.op.toNat).length ∧ o2 = o ++ uintB op ++ ((fieldIx s.op.toNat).take j).flatMap (fun ix => uintB (s.val ix).toNat) ∧ o2.length ≤ 60 + 70 * i + 10 * j ∧ (r3 = rw11 ∨ w12.heap.size < r3) ∧ w12.heap.size ≤ w'.heap.size ∧ WrR w' qw r3 o2 ∧ SlR S w' A b.steps.length 7 (flatS b.steps) ∧ StT w' ∧ Bk w' p8 s.cells.toArray 135 ∧ Ow w' rf 133 1 fA (fieldIx s.op.toNat).length fc ((fieldIx s.op.toNat).map (ptrAt p8)) ∧ Ch (No) w w') (fun (j, o2, r3) => (fieldIx s.op.toNat).length - j) (0, o ++ uintB op, rw11) ?_ ?_
  · exact ⟨(by omega), (by simp), (by rw [List.length_append]; omega), (by omega), (Nat.le_refl _), wr_12, sb_12, st_12, b8_12, fl12, CH_12⟩
  rintro ⟨j, o2, r3⟩ w13 ⟨hj0, ho2, hol2, hr3, hsz13, wr_13, sb_13, st_13, b8_13, fl_13, CH_13⟩
  have lwr := wr_13.lt
  refine Kb (Om (Co O O) O (Wz (Qj O (fun hc4 => ?_) (fun hc4 => ?_))))
  ·
   refine Qn (Qa (Qe (Qt (Qe ?_))))
   obtain ⟨ix, hj⟩ : ∃ ix, (fieldIx s.op.toNat)[j]? = some ix := ⟨_, List.getElem?_eq_getElem (by omega)⟩
   have hix := List.mem_of_getElem? hj
   have hzb := hfb.2 ix hix
   obtain ⟨z, hz⟩ := nat_of hzb.1
   have hcl := s.cell_at (j := ix) (by have := fieldIx_lt hix; omega)
   rw [hz] at hcl
   have huz := uintB_len (n := z)
   refine Qb (Om (Qs υ234 sizeOf133 O O (fl_13.sl.ne (by omega))) O (Om (Qg isAgg133 O (ptr_get fl_13.sl hj)) O (Ww O O (Ka (Qb (Wu O O ?_))))))
   refine Wu O O (Om (Qq O) O ?_)
   refine Om (Qg ι3 O (b8_13.cell (by rw [List.getElem?_toArray]; exact hcl))) O ?_
   refine Om (Rn.convTo υ3 υ74 O (r := ((z : Nat) : Int)) (by rw [IntKind.wrap_u64]; omega)) O ?_
   refine Oq (Qi call201 O (pack_Uint qw r3 (o2) (z) (by omega) _ wr_13 (by first | omega | (simp; done) | (simp; omega)))) O ?_
   rintro _ w14 ⟨rw14, rfl, wr14, yw14, c14⟩
   have lw14 := wr14.lt
   have z14 := c14.size
   refine Qf (Ql (Qa (Qb ?_)))
   refine Om (Cd O O) O ?_
   refine Wu O O (Qf ?_)
   refine Ce (j + 1, o2 ++ uintB z, rw14) (by (dsimp only; omega)) ?_ ⟨O, O, O, O, O, O, O, O, trivial⟩
   have sb_14 := sb_13.to c14 (by first | exact fun _ _ _ _ => id | (intro q h1 h2 hx h3; have := hS q h2; omega))
   have st_14 := st_13.to c14
   have b8_14 := b8_13.to c14
   have fl_14 := fl_13.to c14
   have CH_14 : Ch (No) w w14 := CH_13.then c14
   exact ⟨(by omega), (by rw [take_flat _ _ hj, ← List.append_assoc, ← ho2, hz]; simp), (by rw [List.length_append]; omega), (by omega), (by omega), wr14, sb_14, st_14, b8_14, fl_14, CH_14⟩
  refine Cn (Qk (Qk (Qy (Ql (Qa (Qb ?_))))))
  refine Om (Cd O O) O ?_
  refine Wu O O (Qf ?_)
  refine Ce (i + 1, o2, r3) (by (dsimp only; omega)) ?_ ⟨O, O, O, O, trivial⟩
  exact ⟨(by omega), (by have e : op = s.op.toNat := (by omega); rw [take_flat _ _ hs, ← List.append_assoc, ← ho, ho2, List.take_of_length_le (by omega), e, encS, List.append_assoc]), (by omega), (by omega), (by omega), wr_13, sb_13, st_13, CH_13⟩
 refine Cn (Qk (Qk (Qy (Qa (Qe ?_)))))
 have hoe : o = encB b := by rw [ho, List.take_of_length_le (by omega)]; rfl
 clear ho; subst hoe
 refine Qb (Wu O O (Oq (Qi call204 O (pack_Out qw r2 (encB b) _ wr_7 (by omega))) O ?_))
 rintro _ w15 ⟨ro15, oA15, oc15, rfl, out15, yo15, c15⟩
 have lo15 := out15.lt
 have z15 := c15.size
 refine Ww O O (Ww O O (Ka (Qp (Ra O O O (Kx ?_)))))
 have CH_15 := CH_7.and c15
 exact ⟨_, _, _, O, out15, by omega, by omega, CH_15⟩
end Go.Tm
namespace Go.Tm
open Go.RowKit
abbrev Fl := Option Nat
def cn (b : Nat) : Fl := if (FloatKind.f64.decode b).isNaN then none else some b
def fop (op : BinOp) (x y : Fl) : Fl := match x, y with
 | some a, some b => floatBits op .f64 a b
 | _, _ => none
abbrev fadd := fop .add
abbrev fsub := fop .sub
abbrev fmul := fop .mul
abbrev fquo := fop .quo
def fneg (x : Fl) : Fl := x.map fun b => b ^^^ 2 ^ 63
theorem decode_nan {b : Nat} : (FloatKind.f64.decode b).isNaN = decide (2 ^ 52 * (2 ^ 11 - 1) < b % 2 ^ 63) := by
 have e1 : Ieee.double.signWeight = 2 ^ 63 := rfl
 have e2 : Ieee.double.binade = 2 ^ 52 := rfl
 have e3 : Ieee.double.infRung = (2 ^ 11 - 1) * 2 ^ 52 := rfl
 show (Ieee.double.read b).isNaN = _
 unfold Ieee.Format.read
 simp only [e1, e2, e3]
 split
 ·
  rename_i h
  have : ¬ (2 ^ 52 * (2 ^ 11 - 1) < b % 2 ^ 63) := by omega
  simp [Ieee.Datum.isNaN, this]
 ·
  split
  ·
   rename_i h
   have : ¬ (2 ^ 52 * (2 ^ 11 - 1) < b % 2 ^ 63) := by omega
   simp [Ieee.Datum.isNaN, this]
  ·
   split
   ·
    rename_i h
    have : ¬ (2 ^ 52 * (2 ^ 11 - 1) < b % 2 ^ 63) := by omega
    simp [Ieee.Datum.isNaN, this]
   ·
    have : 2 ^ 52 * (2 ^ 11 - 1) < b % 2 ^ 63 := by omega
    simp [Ieee.Datum.isNaN, this]
theorem cn_eq (b : Nat) : cn b = if 2 ^ 52 * (2 ^ 11 - 1) < b % 2 ^ 63 then none else some b := by
 unfold cn; rw [decode_nan]; simp
theorem write_num {d : Ieee.Datum} (h : d.isNaN = false) : cn (Ieee.double.write d) = some (Ieee.double.write d) := by
 rw [cn_eq, if_neg]
 have e1 : Ieee.double.signWeight = 2 ^ 63 := rfl
 have e3 : Ieee.double.infRung = (2 ^ 11 - 1) * 2 ^ 52 := rfl
 have key : ∀ (s : Bool) (r : Nat), r ≤ (2 ^ 11 - 1) * 2 ^ 52 → ¬ (2 ^ 52 * (2 ^ 11 - 1) < Ieee.double.word s r % 2 ^ 63) := by
  intro s r hr
  unfold Ieee.Format.word
  rw [e1]
  split <;> omega
 cases d with
 | number s m p =>
  show ¬ (_ < Ieee.double.nearest s m p % _)
  unfold Ieee.Format.nearest
  simp only
  split
  · exact key s 0 (by omega)
  ·
   refine key s _ ?_
   rw [e3]
   exact Nat.min_le_right _ _
 | infinity s => exact key s _ (by rw [e3]; exact Nat.le_refl _)
 | nan s f => simp [Ieee.Datum.isNaN] at h
theorem sum_num {x y d : Ieee.Datum} (h : x.sum y = some d) : d.isNaN = false := by
 cases x <;> cases y <;> simp only [Ieee.Datum.sum] at h <;> first
  | (cases h; done)
  | (injection h with h; subst h; rfl)
  | (split at h <;> first | (injection h with h; subst h; rfl) | cases h)
theorem product_num {x y d : Ieee.Datum} (h : x.product y = some d) : d.isNaN = false := by
 cases x <;> cases y <;> simp only [Ieee.Datum.product] at h <;> first
  | (cases h; done)
  | (injection h with h; subst h; rfl)
  | (split at h <;> first | (injection h with h; subst h; rfl) | cases h)
theorem quotient_num {n : Nat} {x y d : Ieee.Datum} (h : Ieee.Datum.quotient n x y = some d) : d.isNaN = false := by
 cases x <;> cases y <;> simp only [Ieee.Datum.quotient] at h <;> first
  | (cases h; done)
  | (injection h with h; subst h; rfl)
  | (split at h <;> first | (injection h with h; subst h; rfl) | (split at h <;> first | (injection h with h; subst h; rfl) | cases h) | cases h)
theorem map_num {o : Option Ieee.Datum} {r : Nat} (ho : ∀ d, o = some d → d.isNaN = false) (h : o.map Ieee.double.write = some r) : cn r = some r := by
 cases o with
 | none => cases h
 | some d => injection h with h; subst h; exact write_num (ho d rfl)
theorem floatBits_num {op : BinOp} {x y r : Nat} (h : floatBits op .f64 x y = some r) : cn r = some r := by
 unfold floatBits at h
 split at h
 · exact map_num (fun d hd => sum_num hd) h
 · exact map_num (fun d hd => sum_num hd) h
 · exact map_num (fun d hd => product_num hd) h
 · exact map_num (fun d hd => quotient_num hd) h
 · cases h
theorem isNaN_nan {d : Ieee.Datum} (h : d.isNaN = true) : ∃ s f, d = .nan s f := by
 cases d <;> simp [Ieee.Datum.isNaN] at h
 exact ⟨_, _, O⟩
theorem floatBits_nanL {op : BinOp} {x y : Nat} (h : (FloatKind.f64.decode x).isNaN = true) : floatBits op .f64 x y = none := by
 obtain ⟨s, f, e⟩ := isNaN_nan h
 have e' : Ieee.double.read x = .nan s f := e
 unfold floatBits
 split <;> simp only [FloatKind.format, Ieee.Format.add, Ieee.Format.sub, Ieee.Format.mul, Ieee.Format.div, e'] <;> rfl
theorem floatBits_nanR {op : BinOp} {x y : Nat} (h : (FloatKind.f64.decode y).isNaN = true) : floatBits op .f64 x y = none := by
 obtain ⟨s, f, e⟩ := isNaN_nan h
 have e' : Ieee.double.read y = .nan s f := e
 unfold floatBits
 split <;> simp only [FloatKind.format, Ieee.Format.add, Ieee.Format.sub, Ieee.Format.mul, Ieee.Format.div, e', Ieee.Datum.opposite] <;> cases Ieee.double.read x <;> rfl
theorem floatBits_cn {op : BinOp} {x y : Nat} : fop op (cn x) (cn y) = floatBits op .f64 x y := by
 unfold cn
 split
 · rename_i h; rw [floatBits_nanL h]; rfl
 ·
  split
  · rename_i h; rw [floatBits_nanR h]; rfl
  · rfl
theorem cut_nan (x y t : Nat) : cn (Question.cut (.nanBits .f64 x y) t) = none := by
 rw [cn_eq, if_pos]
 simp only [Question.cut]
 have h1 : t / 2 % (2 ^ 52 - 1) < 2 ^ 52 - 1 := Nat.mod_lt _ (by decide)
 have h2 : t % 2 < 2 := Nat.mod_lt _ (by decide)
 generalize t / 2 % (2 ^ 52 - 1) = u at *
 generalize t % 2 = s at *
 omega
theorem cn_neg (b : Nat) : cn (Op.negFloat .f64 b) = fneg (cn b) := by
 have e : Op.negFloat .f64 b = b ^^^ 2 ^ 63 := rfl
 have h : (b ^^^ 2 ^ 63) % 2 ^ 63 = b % 2 ^ 63 := by
  rw [Nat.xor_mod_two_pow]
  simp
 rw [e, cn_eq, cn_eq, h]
 unfold fneg
 split <;> rfl
section
variable {P : Program} {n : Fr} {k : K} {w : World} {d : Option Tmp} {ty : TypeId} {pos : String} {aft : Array Edge} {g : Option (Nat × Bool)}
theorem run_fl {op : BinOp} (hop : op = .add ∨ op = .sub ∨ op = .mul ∨ op = .quo) (a b : Nat) : ∃ r w', (Op.floatArith op .f64 a b).run P w = .ok (.float .f64 r) w' ∧ cn r = fop op (cn a) (cn b) ∧ Ch No w w' := by
 rw [floatBits_cn]
 have hrun : (Op.floatArith op .f64 a b).run P w = match floatBits op .f64 a b with
   | some r => .ok (.float .f64 r) w
   | none => .ok (.float .f64 (Question.cut (.nanBits .f64 a b) (w.tape w.drawn (.nanBits .f64 a b)))) w.drew := by
  rcases hop with rfl | rfl | rfl | rfl <;> simp only [Op.floatArith, floatBits] <;> simp only [Sem.run_bind, Sem.run_pure] <;> split <;> simp [*, Question.forced]
 cases h : floatBits op .f64 a b with
 | some r => rw [h] at hrun; exact ⟨r, w, hrun, floatBits_num h, Ch.refl _ _⟩
 | none => rw [h] at hrun; exact ⟨_, _, hrun, cut_nan _ _ _, Ch.of_drew rfl⟩
theorem Cw {op : BinOp} {t t' : TypeId} {x y : Operand} {a b : Nat} (hop : op = .add ∨ op = .sub ∨ op = .mul ∨ op = .quo) (hx : ev k x = some (.float .f64 a)) (hy : ev k y = some (.float .f64 b)) :
  Wk P n k w { dst := d, op := .binOp op t x y t', type := ty, pos := pos, after := aft, guard := g } (fun v w' => ∃ r, v = .float .f64 r ∧ cn r = fop op (cn a) (cn b) ∧ Ch No w w') :=
 Rv fun ac ha => by
  obtain ⟨r, w', hr, h1, h2⟩ := run_fl (P := P) (w := w) hop a b
  refine ⟨_, w', ?_, r, O, h1, h2⟩
  rcases hop with rfl | rfl | rfl | rfl <;> simp [execOp, ha.eval hx, ha.eval hy, eqGuard_add, eqGuard_sub, eqGuard_mul, eqGuard_quo, binOp, hr]
theorem Wf {t : TypeId} {x : Operand} {a : Nat} (hx : ev k x = some (.float .f64 a)) : Rn P n k w { dst := d, op := .unOp .neg t x, type := ty, pos := pos, after := aft, guard := g } (.float .f64 (Op.negFloat .f64 a)) :=
 fun a' ha => by simp [execOp, ha.eval hx, Op.unary]
theorem Rh {t : TypeId} {x : Operand} {a b : Nat} (hx : ev k x = some (.complex .f64 a b)) :
  Rn P n k w { dst := d, op := .call { callee := .builtin .real, args := #[x], argTypes := #[t] }, type := ty, pos := pos, after := aft, guard := g } (.float .f64 a) :=
 fun ac ha => by simp [execOp, resolve, invoke, builtin, ha.eval hx, show Builtin.real_ #[t] ty #[.complex .f64 a b] = pure (.float .f64 a) from rfl]
theorem Ri {t : TypeId} {x : Operand} {a b : Nat} (hx : ev k x = some (.complex .f64 a b)) :
  Rn P n k w { dst := d, op := .call { callee := .builtin .imag, args := #[x], argTypes := #[t] }, type := ty, pos := pos, after := aft, guard := g } (.float .f64 b) :=
 fun ac ha => by simp [execOp, resolve, invoke, builtin, ha.eval hx, show Builtin.imag_ #[t] ty #[.complex .f64 a b] = pure (.float .f64 b) from rfl]
theorem Rf {t t' : TypeId} {x y : Operand} {a b : Nat} (hx : ev k x = some (.float .f64 a)) (hy : ev k y = some (.float .f64 b)) :
  Rn P n k w { dst := d, op := .call { callee := .builtin .complex, args := #[x, y], argTypes := #[t, t'] }, type := ty, pos := pos, after := aft, guard := g } (.complex .f64 a b) :=
 fun ac ha => by simp [execOp, resolve, invoke, builtin, ha.eval hx, ha.eval hy, show Builtin.complex_ #[t, t'] ty #[.float .f64 a, .float .f64 b] = pure (.complex .f64 a b) from rfl]
theorem Wb {s t : TypeId} {ds : TypeDesc} {x : Operand} {q : IntKind} {i : Int} (hs : P.underlying s = some ds) (ht : P.underlying t = some (.float .f64)) (hx : ev k x = some (.int q i)) :
  Rn P n k w { dst := d, op := .convert s t x, type := ty, pos := pos, after := aft, guard := g } (.float .f64 (FloatKind.f64.nearest i)) :=
 fun ac ha => by simp [execOp, ha.eval hx, convert, run_underlying hs, run_underlying ht, Conv.intToFloat]
end
end Go.Tm
namespace Go.Tm
open Go.RowKit
abbrev Cx := Fl × Fl
abbrev CB := Nat × Nat
abbrev cxV (z : CB) : Value := .complex .f64 z.1 z.2
def cx (z : CB) : Cx := (cn z.1, cn z.2)
abbrev CR (e : TypeId) (w : World) (r : Nat) (A : Option Addr) (l c : Nat) (xs : List CB) : Prop := Ow w r e 1 A l c (xs.map cxV)
theorem CR.len {e : TypeId} {w : World} {r : Nat} {A : Option Addr} {l c : Nat} {xs : List CB} (h : CR e w r A l c xs) : xs.length = l := by
 have := Ow.len h
 simpa using this
theorem made_one (z : Value) (n : Nat) : madeCells #[z] n = (List.replicate n z).toArray := by
 apply Array.ext <;> simp [madeCells, Nat.mod_one]
section
variable {P : Program} {n : Fr} {k : K} {w : World} {d : Option Tmp} {ty : TypeId} {pos : String} {aft : Array Edge} {g : Option (Nat × Bool)}
theorem Rn.feql {t t' : TypeId} {x y : Operand} {a b : Nat} (hx : ev k x = some (.float .f64 a)) (hy : ev k y = some (.float .f64 b)) :
  Rn P n k w { dst := d, op := .binOp .eql t x y t', type := ty, pos := pos, after := aft, guard := g } (.bool (Ieee.double.order a b == some .eq)) :=
 Rz hx hy (fun x y => by simp [eqGuard, binOp, Op.floatCmp, FloatKind.format])
theorem Rn.fneq {t t' : TypeId} {x y : Operand} {a b : Nat} (hx : ev k x = some (.float .f64 a)) (hy : ev k y = some (.float .f64 b)) :
  Rn P n k w { dst := d, op := .binOp .neq t x y t', type := ty, pos := pos, after := aft, guard := g } (.bool (Ieee.double.order a b != some .eq)) :=
 Rz hx hy (fun x y => by simp [eqGuard, binOp, Op.floatCmp, FloatKind.format])
def ceq (x y : CB) : Bool := (Ieee.double.order x.1 y.1 == some .eq) && (Ieee.double.order x.2 y.2 == some .eq)
theorem Rn.cneq {t t' : TypeId} {x y : Operand} {a b c e : Nat} (hx : ev k x = some (.complex .f64 a b)) (hy : ev k y = some (.complex .f64 c e)) :
  Rn P n k w { dst := d, op := .binOp .neq t x y t', type := ty, pos := pos, after := aft, guard := g } (.bool (!ceq (a, b) (c, e))) :=
 Rz hx hy (fun x y => by
  simp [eqGuard, binOp, Op.complexOp, Op.Complex.cmp, Op.floatCmp, FloatKind.format, asBool, ceq])
theorem Rn.minI {t t' : TypeId} {x y : Operand} {q : IntKind} {a b : Int} (hx : ev k x = some (.int q a)) (hy : ev k y = some (.int q b)) :
  Rn P n k w { dst := d, op := .call { callee := .builtin .min, args := #[x, y], argTypes := #[t, t'] }, type := ty, pos := pos, after := aft, guard := g } (.int q (if b < a then b else a)) :=
 fun ac ha => by simp [execOp, resolve, invoke, builtin, ha.eval hx, ha.eval hy, Builtin.min_, Builtin.min2]
theorem Wn {t e : TypeId} {by' : Nat} {x y : Operand} {ql qc : IntKind} {l : Int} (ht : P.underlying t = some (.slice e)) (hi : Inf P e (.complex .f64 0 0) 1 by') (hx : ev k x = some (.int ql l)) (hy : ev k y = some (.int qc l)) (h0 : 0 ≤ l) (hb : (by' : Int) * l ≤ 281474976710656) (hm : l ≤ 281474976710656) :
  Wk P n k w { dst := d, op := .makeSlice t x y, type := ty, pos := pos, after := aft, guard := g }
   (fun v w' => ∃ p, v = .slice (some ⟨p, 0, none⟩) l.toNat l.toNat ∧ CR e w' (p + 1) (some ⟨p, 0, none⟩) l.toNat l.toNat (List.replicate l.toNat (0, 0)) ∧ Ch No w w' ∧ p = w.heap.size ∧ w'.heap.size = w.heap.size + 1) :=
 (Wk.make ht hi hx hy h0 (Int.le_refl _) hb (by omega)).mono fun v w' ⟨p, hv, N⟩ => by
  rw [Nat.mul_one] at N
  have e1 : (Value.complex .f64 0 0).cells = #[.complex .f64 0 0] := rfl
  rw [e1, made_one] at N
  refine ⟨p, hv, ?_, N.ch, N.p, N.size⟩
  have : (List.replicate l.toNat ((0, 0) : CB)).map cxV = List.replicate l.toNat (.complex .f64 0 0) := by simp
  show Ow _ _ _ _ _ _ _ (List.map cxV _)
  rw [this]
  exact Ow.of_new N (by simp) (by simp only [maxLen]; omega)
theorem Rj {t e : TypeId} {r l c i : Nat} {A : Option Addr} {xs : List CB} {x y : Operand} {a b : Nat} (hz : ∀ w, (sizeOf t).run P w = .ok 1 w) (hx : ev k x = some (.pointer (some ((sAddr A).add (i * 1))))) (hy : ev k y = some (.complex .f64 a b)) (hi : i < l) (hown : CR e w r A l c xs) :
  Wk P n k w { dst := none, op := .store t x y, type := ty, pos := pos, after := aft, guard := g } (fun _ w' => CR e w' r A l c (xs.set i (a, b)) ∧ Ch (At r) w w' ∧ w'.heap.size = w.heap.size) :=
 (Wk.putOw hz hx hy rfl hi hown).mono fun _ w' ⟨h1, h2, h3⟩ => ⟨by show Ow _ _ _ _ _ _ _ (List.map cxV _); rw [List.map_set]; exact h1, h2, h3⟩
theorem Wk.clearC {t e : TypeId} {by' r l c : Nat} {A : Option Addr} {xs : List CB} {x : Operand} (ht : P.underlying t = some (.slice e)) (hi : Inf P e (.complex .f64 0 0) 1 by') (hx : ev k x = some (.slice A l c)) (hown : CR e w r A l c xs) (hl : 0 < l) :
  Wk P n k w { dst := none, op := .call { callee := .builtin .clear, args := #[x], argTypes := #[t] }, type := ty, pos := pos, after := aft, guard := g } (fun _ w' => CR e w' r A l c (List.replicate l (0, 0)) ∧ Ch (At r) w w' ∧ w'.heap.size = w.heap.size) := by
 obtain ⟨g', cur, rfl, rfl, hg, hlc, hcm, hcs, htk⟩ := Ow.open' hown hl
 obtain ⟨inf, h1, h2, h3, h4⟩ := hi
 have hzv : (zeroValue e).run P w = .ok (.complex .f64 0 0) w := by simp [zeroValue, typeInfo, h1, h2]
 obtain ⟨m, rfl⟩ : ∃ m, l = m + 1 := ⟨l - 1, by omega⟩
 have hzc : ∀ u ∈ (Builtin.zeroCells (Value.complex .f64 0 0).cells (m + 1)).toList, u = .complex .f64 0 0 := fun u hu => by
  simp only [Builtin.zeroCells, show (Value.complex .f64 0 0).cells = #[.complex .f64 0 0] from rfl] at hu
  simp [Nat.mod_one] at hu
  exact hu.2.symm
 have hzl : (Builtin.zeroCells (Value.complex .f64 0 0).cells (m + 1)).toList.length = m + 1 := by simp [size_zeroCells, show (Value.complex .f64 0 0).cells = #[.complex .f64 0 0] from rfl]
 have hZ : (Builtin.zeroCells (Value.complex .f64 0 0).cells (m + 1)).toList = List.replicate (m + 1) (.complex .f64 0 0) := List.eq_replicate_iff.2 ⟨hzl, hzc⟩
 have hst := run_storeCells_at P g' 0 e (List.replicate (m + 1) (.complex .f64 0 0)) 0 cur w hg (by simp; omega) (fun u hu => by rw [List.eq_of_mem_replicate hu]; rfl)
 simp only [Nat.add_zero, Nat.zero_add, List.take_zero, List.nil_append] at hst
 have hs := Sts.of_row (w' := w.setRow g' (List.replicate (m + 1) (Value.complex .f64 0 0) ++ cur.toList.drop (List.replicate (m + 1) (Value.complex .f64 0 0)).length).toArray) rfl hg
 refine Rv fun a ha => ⟨.tuple #[], _, ?_, ⟨by simp, .inr ⟨g', _, O, O, hs.same, hlc, hcm, ?_, ?_⟩⟩, hs.ch.more (fun q _ hq => by rw [hq]), hs.size⟩
 · simp [execOp, resolve, invoke, builtin, ha.eval hx, Builtin.clear_, run_underlying ht, hzv, hZ, hst]
 · simp; omega
 · simp
theorem Wk.copyC {S : Nat → Prop} {t u e : TypeId} {by' r l c m mc : Nat} {A B : Option Addr} {xs ys : List CB} {x y : Operand} {off : Int} (ht : P.underlying t = some (.slice e)) (hi : Inf P e (.complex .f64 0 0) 1 by')
  (hx : ev k x = some (.slice (if c = off.toNat then A else A.map (·.add (off.toNat * 1))) (l - off.toNat) (c - off.toNat))) (hy : ev k y = some (.slice B m mc)) (hown : CR e w r A l c xs) (hsrc : SlR S w B m 1 (ys.map cxV)) (hoff : off.toNat + m ≤ l) (hl : l ≤ c) :
  Wk P n k w { dst := d, op := .call { callee := .builtin .copy, args := #[x, y], argTypes := #[t, u] }, type := ty, pos := pos, after := aft, guard := g } (fun v w' => v = .int .i64 m ∧ CR e w' r A l c (xs.take off.toNat ++ ys ++ xs.drop (off.toNat + m)) ∧ Ch (At r) w w' ∧ w'.heap.size = w.heap.size) := by
 have hxl := CR.len hown
 have hyl : ys.length = m := by have := hsrc.len; simpa using this
 obtain ⟨inf, h1, h2, h3, h4⟩ := hi
 have hsz : (P.info? e).map (·.size) = some 1 := by rw [h1]; simp [h3]
 generalize hoo : off.toNat = o at *
 by_cases hm : m = 0
 ·
  subst hm
  obtain rfl : ys = [] := List.eq_nil_of_length_eq_zero hyl
  generalize (if c = o then A else A.map (·.add (o * 1))) = AA at hx
  refine Rv fun a ha => ⟨goInt 0, w, ?_, O, ?_, Ch.refl _ _, O⟩
  ·
   have := run_copy_none (P := P) w t u ty e AA B (l - o) (c - o) 0 mc ht hsz (by simp)
   simp [execOp, resolve, invoke, builtin, ha.eval hx, ha.eval hy, this]
  · simpa using hown
 ·
  obtain ⟨g', cur, rfl, rfl, hg, hlc, hcm, hcs, htk⟩ := Ow.open' hown (by omega)
  obtain ⟨ad, rfl⟩ := hsrc.ne (by omega)
  rw [if_neg (by omega)] at hx
  have hx' : ev k x = some (.slice (some ⟨g', o, none⟩) (l - o) (c - o)) := by rw [hx]; simp [Addr.add_lit]
  have hmin : (ys.map cxV).length = Nat.min m (l - o) := by rw [List.length_map, hyl]; exact (Nat.min_eq_left (by omega)).symm
  have hr := run_copy_row (P := P) w t u ty e g' o (l - o) (c - o) ad m mc cur e (ys.map cxV) ht hsz hg hmin (fun j v hj => hsrc.cells ad rfl j v hj) (by simp; omega) (fun v hv => by obtain ⟨z, _, rfl⟩ := List.mem_map.1 hv; rfl)
  have hs := Sts.of_row (w' := w.setRow g' (cur.toList.take o ++ ys.map cxV ++ cur.toList.drop (o + (ys.map cxV).length)).toArray) rfl hg
  refine Rv fun a ha => ⟨goInt (ys.map cxV).length, _, ?_, by simp [goInt, hyl], ⟨by simp; omega, .inr ⟨g', _, O, O, hs.same, hlc, hcm, ?_, ?_⟩⟩, hs.ch.more (fun q _ hq => by rw [hq]), hs.size⟩
  · simp [execOp, resolve, invoke, builtin, ha.eval hx', ha.eval hy, hr]
  · simp; omega
  ·
   rw [Nat.mul_one] at htk ⊢
   have hc : cur.toList.length = c := by simp [hcs]
   have e1 : cur.toList.take o = (xs.map cxV).take o := by rw [← htk, List.take_take, Nat.min_eq_left (by omega)]
   have e2 : (cur.toList.drop (o + m)).take (l - (o + m)) = (xs.map cxV).drop (o + m) := by rw [← htk, List.drop_take]
   have hA : (cur.toList.take o).length = o := by simp [hcs]; omega
   have hB : (ys.map cxV).length = m := by rw [List.length_map, hyl]
   rw [hB, List.take_append, List.take_of_length_le (by rw [List.length_append, hA, hB]; omega), List.length_append, hA, hB, e2, e1]
   simp only [List.map_append, List.map_take, List.map_drop]
theorem Cu {t e : TypeId} {m sz b o o' : Nat} {x y : Operand} {q : IntKind} {i : Int} (ht : P.underlying t = some (.array m e)) (hz : ∀ w, (sizeOf e).run P w = .ok sz w) (hx : ev k x = some (.pointer (some ⟨b, o, none⟩))) (hy : ev k y = some (.int q i)) (h0 : 0 ≤ i := by omega) (h1 : i < m := by omega) (ho : o + i.toNat * sz = o' := by omega) :
  Rn P n k w { dst := d, op := .indexAddr t x y, type := ty, pos := pos, after := aft, guard := g } (.pointer (some ⟨b, o', none⟩)) :=
 fun a ha => by subst ho; simp [execOp, ha.eval hx, ha.eval hy, Instr.indexAt, run_underlying ht, asIntOf, Instr.sureAddr, h0, h1, hz, Addr.add_lit]
theorem Rn.toArr {t e : TypeId} {N l c : Nat} {A : Option Addr} {x : Operand} (ht : P.underlying t = some (.array N e)) (hx : ev k x = some (.slice A l c)) (hl : N ≤ l) :
  Rn P n k w { dst := d, op := .sliceToArrayPointer t x, type := ty, pos := pos, after := aft, guard := g } (.pointer A) :=
 fun a ha => by
  have : ¬ l < N := by omega
  simp [execOp, ha.eval hx, Instr.arrayAt, run_underlying ht, this]
theorem Rn.sliceAll {t e : TypeId} {m sz : Nat} {x : Operand} {ad : Addr} (ht : P.underlying t = some (.array m e)) (hz : ∀ w, (sizeOf e).run P w = .ok sz w) (hx : ev k x = some (.pointer (some ad))) (hm : m ≠ 0) :
  Rn P n k w { dst := d, op := .slice t x none none none, type := ty, pos := pos, after := aft, guard := g } (.slice (some (ad.add 0)) m m) :=
 fun a ha => by simp [execOp, ha.eval hx, Instr.sliceAt, run_underlying ht, Instr.sureAddr, Instr.sliceBounds, hz, hm]
theorem Rn.sliceLH {t e : TypeId} {sz l c : Nat} {A : Option Addr} {x y z : Operand} {q q' : IntKind} {i j : Int} (ht : P.underlying t = some (.slice e)) (hz : ∀ w, (sizeOf e).run P w = .ok sz w) (hx : ev k x = some (.slice A l c)) (hy : ev k y = some (.int q i)) (hj : ev k z = some (.int q' j)) (h0 : 0 ≤ i) (h1 : i ≤ j) (h2 : j ≤ c) :
  Rn P n k w { dst := d, op := .slice t x (some y) (some z) none, type := ty, pos := pos, after := aft, guard := g } (.slice (if c = i.toNat then A else A.map (·.add (i.toNat * sz))) (j.toNat - i.toNat) (c - i.toNat)) :=
 fun a ha => by
  have h3 : 0 ≤ j := by omega
  have h4 : i ≤ (j.toNat : Int) := by omega
  simp [execOp, ha.eval hx, ha.eval hy, ha.eval hj, Instr.sliceAt, Instr.slice, run_underlying ht, Instr.sliceBounds, Instr.sliceBound, asIntOf, h0, h3, h4, h2, hz]
  intro h; omega
end
theorem SlR.sub {S : Nat → Prop} {w : World} {A : Option Addr} {l c : Nat} {cs : List Value} (h : SlR S w A l 1 cs) {i j : Nat} (h1 : i ≤ j) (h2 : j ≤ l) (hc : l ≤ c) : SlR S w (if c = i then A else A.map (·.add (i * 1))) (j - i) 1 ((cs.drop i).take (j - i)) := by
 have hl : cs.length = l := by have := h.len; omega
 refine ⟨by simp; omega, fun h0 => ?_, fun ad had => ?_, fun ad had => ?_⟩
 ·
  obtain ⟨ad, rfl⟩ := h.ne (by omega)
  rw [if_neg (by omega)]; exact ⟨_, rfl⟩
 ·
  intro q v hq
  have hq0 : q < j - i := by
   have := (List.getElem?_eq_some_iff.1 hq).1
   simp at this; omega
  rw [if_neg (by omega)] at had
  obtain ⟨ad', rfl⟩ := h.ne (by omega)
  injection had with had
  subst had
  rw [List.getElem?_take, if_pos hq0, List.getElem?_drop] at hq
  rw [Nat.mul_one, add_add]
  exact h.cells ad' O _ v hq
 ·
  split at had
  · exact h.ok ad had
  ·
   cases A with
   | none => cases had
   | some ad' =>
    injection had with had
    subst had
    have := h.ok ad' rfl
    unfold Addr.add
    split <;> exact this
theorem SlR.getC {S : Nat → Prop} {w : World} {A : Option Addr} {l : Nat} {xs : List CB} (h : SlR S w A l 1 (xs.map cxV)) {i : Int} (h0 : 0 ≤ i) (h1 : i < l) : w.cell? ((sAddr A).add (i.toNat * 1)) = some (.complex .f64 (xs.getD i.toNat (0, 0)).1 (xs.getD i.toNat (0, 0)).2) := SlR.get (f := cxV) h (0, 0) h0 h1
end Go.Tm
namespace Go.Tm
def plusC (x y : Cx) : Cx := (fadd x.1 y.1, fadd x.2 y.2)
def lessC (x y : Cx) : Cx := (fsub x.1 y.1, fsub x.2 y.2)
def mulC (a b : Cx) : Cx := (fsub (fmul a.1 b.1) (fmul a.2 b.2), fadd (fmul a.1 b.2) (fmul a.2 b.1))
def conjC (a : Cx) : Cx := (a.1, fneg a.2)
def timesI (a : Cx) : Cx := (fneg a.2, a.1)
def minusI (a : Cx) : Cx := (a.2, fneg a.1)
def fi (n : Int) : Fl := cn (FloatKind.f64.nearest n)
def overC (a : Cx) (n : Int) : Cx := (fquo a.1 (fi n), fquo a.2 (fi n))
def flyC : List Cx → List Cx
 | [a, b] => [plusC a b, lessC a b]
 | [a, b, c, d] => [plusC (plusC a c) (plusC b d), plusC (lessC a c) (minusI (lessC b d)), lessC (plusC a c) (plusC b d), plusC (lessC a c) (timesI (lessC b d))]
 | l => l
def pzB (b : Nat) : Nat := if (Ieee.double.order b 0 == some .eq) = true then 0 else b
def tur : Nat → Nat × Nat
 | 0 => (4607182418800017408, 0)
 | q + 1 => (Op.negFloat .f64 (tur q).2, (tur q).1)
abbrev z0 : Cx := cx (0, 0)
def putN (c : List Cx) (u v : Nat) (ys : List Cx) : Nat → List Cx
 | 0 => c
 | q + 1 => (putN c u v ys q).set (u + q * v) (ys.getD q z0)
theorem map_getD (xs : List CB) (j : Nat) : (xs.map cx).getD j z0 = cx (xs.getD j (0, 0)) := by
 simp only [List.getD, List.getElem?_map]
 cases xs[j]? <;> rfl
def rowF (n : Nat) (f : Nat → CB) (j : Nat) : List CB := (List.range j).map f ++ List.replicate (n - j) (0, 0)
theorem rowF_set {n j : Nat} {f : Nat → CB} (h : j < n) : (rowF n f j).set j (f j) = rowF n f (j + 1) := by
 unfold rowF
 obtain ⟨m, hm⟩ : ∃ m, n - j = m + 1 := ⟨n - j - 1, by omega⟩
 rw [hm, show n - (j + 1) = m by omega, List.set_append_right _ _ (by simp), List.range_succ, List.map_append]
 simp [List.replicate_succ]
theorem rowF_zero (n : Nat) (f : Nat → CB) : rowF n f 0 = List.replicate n (0, 0) := by simp [rowF]
theorem rowF_all (n : Nat) (f : Nat → CB) : rowF n f n = (List.range n).map f := by simp [rowF]
def cntS : List Stp → Int
 | [] => 0
 | s :: t => s.count + cntS t
theorem cntS_drop {L : List Stp} {j : Nat} {s : Stp} (h : L[j]? = some s) : cntS (L.drop j) = s.count + cntS (L.drop (j + 1)) := by
 rw [← List.cons_getElem?_drop_succ' h]; rfl
def StepOk (s : Stp) (N : Nat) : Prop := 1 ≤ s.count ∧ s.count ≤ 1000000 ∧ 0 ≤ s.dst ∧ 0 ≤ s.src ∧ 1 ≤ s.jump ∧ s.jump ≤ 1000000 ∧ ((s.op = 1 ∧ s.dst + s.count ≤ N ∧ s.src + (s.count - 1) * s.jump < N) ∨ (s.op = 5 ∧ (s.n = 2 ∨ s.n = 4) ∧ s.dst + s.count - 1 + (s.n - 1) * s.jump < N) ∨ (s.op = 6 ∧ (s.n = 1 ∨ s.n = 2 ∨ s.n = 4) ∧ s.count ≤ s.n ∧ s.dst + s.count ≤ N ∧ s.src + (s.n - 1) * s.jump < N))
instance (s : Stp) (N : Nat) : Decidable (StepOk s N) := by unfold StepOk; infer_instance
theorem cntS_some {L : List Stp} {j : Nat} (h : 0 < cntS (L.drop j)) : ∃ s, L[j]? = some s := by
 by_cases hj : j < L.length
 · exact ⟨_, List.getElem?_eq_getElem hj⟩
 ·
  rw [List.drop_of_length_le (by omega)] at h
  exact absurd h (by decide)
end Go.Tm
