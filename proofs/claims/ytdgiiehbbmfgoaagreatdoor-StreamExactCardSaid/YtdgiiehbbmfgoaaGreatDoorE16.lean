/- Lemmas of this claim, joined by program. Walks of functions: filters on whole numbers: New, a block. Walks of functions: filters on whole numbers: Push, Flush, Whole. Walks of functions: filters on whole numbers: Flush, Whole. The law StreamExact walks. Conditions: each lemma names its own. -/
import Derived.Test.YtdgiiehbbmfgoaaGreatDoorE15
set_option linter.all false
namespace Go.Tm
open Go.RowKit Go.Proofs
theorem isum_tail {f : Nat → Int} {k : Nat} : ∀ n, k ≤ n → (∀ j, k ≤ j → j < n → f j = 0) → isum f n = isum f k
  | 0, h, _ => by rw [show k = 0 by omega]
  | n + 1, h, h0 => by
    by_cases c : k = n + 1
    · rw [c]
    · rw [isum, isum_tail n (by omega) (fun j h1 h2 => h0 j h1 (by omega)), h0 n (by omega) (by omega)]; omega
theorem isum_shift (f : Nat → Int) (p : Nat) : ∀ k, isum f (p + k) = isum f p + isum (fun t => f (p + t)) k
  | 0 => by simp [isum]
  | k + 1 => by
    show isum f (p + k) + f (p + k) = isum f p + (isum (fun t => f (p + t)) k + f (p + k))
    rw [isum_shift f p k]; omega
theorem lin_split (m : Nat) (F : Nat → Nat → Int) (p k K : Nat) : lin m F (p + k) K = lin m F p K + isum (fun t => linT m F K (p + t)) k := isum_shift _ p k
theorem lin_out {h p i : Nat} (F : Nat → Nat → Int) (hi : h ≤ i) : lin (h + 1) F p (p + i) = 0 := by
  unfold lin
  rw [isum_tail (k := 0) p (Nat.zero_le _) (fun t _ ht => by unfold linT; rw [if_neg (by omega)])]
  rfl
theorem lin_final {m p N k : Nat} (F : Nat → Nat → Int) (hk : k < p) (hp : p ≤ N) : lin m F p k = lin m F N k := by
  unfold lin
  exact (isum_tail N hp (fun t h1 _ => by unfold linT; rw [if_neg (by omega)])).symm
def pcF (us : Nat → Int) (p k j : Nat) : Int := if j < k then us (p + j) else 0
theorem conv_lin {n h k p i : Nat} {us vs xs ys : Nat → Int} (hn : k + h ≤ n) (hk : 1 ≤ k) (hi : i < k + h) (o2 : ∀ j, h + 1 ≤ j → xs j = 0 ∧ ys j = 0) :
    cyc n (fR (pcF us p k) (pcF vs p k) xs ys) i = isum (fun t => linT (h + 1) (fR us vs xs ys) (p + i) (p + t)) k ∧ cyc n (fI (pcF us p k) (pcF vs p k) xs ys) i = isum (fun t => linT (h + 1) (fI us vs xs ys) (p + i) (p + t)) k := by
  have key : ∀ (F F' : Nat → Nat → Int), (∀ j m, k ≤ j → F' j m = 0) → (∀ j m, h + 1 ≤ m → F' j m = 0) → (∀ j m, j < k → F' j m = F (p + j) m) → cyc n F' i = isum (fun t => linT (h + 1) F (p + i) (p + t)) k := by
    intro F F' h1 h2 h3
    unfold cyc
    rw [isum_tail n (by omega) (fun j hj1 hj2 => h1 j _ hj1)]
    refine isum_congr k fun j hj => ?_
    unfold linT
    by_cases c : j ≤ i
    · rw [show i + n - j = (i - j) + n by omega, Nat.add_mod_right, Nat.mod_eq_of_lt (by omega), h3 j _ hj]
      by_cases d : i - j < h + 1
      · rw [if_pos ⟨by omega, by omega⟩, show p + i - (p + j) = i - j by omega]
      · rw [if_neg (by omega), ← h3 j _ hj, h2 j _ (by omega)]
    · rw [Nat.mod_eq_of_lt (by omega), if_neg (by omega), h2 j _ (by omega)]
  constructor
  · refine key _ _ (fun j m hj => ?_) (fun j m hm => ?_) (fun j m hj => ?_)
    · simp only [fR, gRe, pcF, if_neg (show ¬ j < k by omega)]; simp
    · simp only [fR, gRe, (o2 m hm).1, (o2 m hm).2]; simp
    · simp only [fR, pcF, if_pos hj]
  · refine key _ _ (fun j m hj => ?_) (fun j m hm => ?_) (fun j m hj => ?_)
    · simp only [fI, gIm, pcF, if_neg (show ¬ j < k by omega)]; simp
    · simp only [fI, gIm, (o2 m hm).1, (o2 m hm).2]; simp
    · simp only [fI, pcF, if_pos hj]
theorem block_lin {n h k p i : Nat} {us vs xs ys : Nat → Int} (hn : k + h ≤ n) (hk : 1 ≤ k) (hi : i < k + h) (o2 : ∀ j, h + 1 ≤ j → xs j = 0 ∧ ys j = 0) :
    (if i < h then lin (h + 1) (fR us vs xs ys) p (p + i) + cyc n (fR (pcF us p k) (pcF vs p k) xs ys) i else cyc n (fR (pcF us p k) (pcF vs p k) xs ys) i) = lin (h + 1) (fR us vs xs ys) (p + k) (p + i) ∧
    (if i < h then lin (h + 1) (fI us vs xs ys) p (p + i) + cyc n (fI (pcF us p k) (pcF vs p k) xs ys) i else cyc n (fI (pcF us p k) (pcF vs p k) xs ys) i) = lin (h + 1) (fI us vs xs ys) (p + k) (p + i) := by
  obtain ⟨e1, e2⟩ := conv_lin (us := us) (vs := vs) (p := p) hn hk hi o2
  rw [e1, e2, lin_split, lin_split]
  by_cases c : i < h
  · rw [if_pos c, if_pos c]; exact ⟨rfl, rfl⟩
  · rw [if_neg c, if_neg c, lin_out _ (by omega), lin_out _ (by omega)]; exact ⟨(Int.zero_add _).symm, (Int.zero_add _).symm⟩
theorem pcF_B17 {us vs : Nat → Int} (hB : B17 us vs) (p k : Nat) : B17 (pcF us p k) (pcF vs p k) := fun j => by
  have := hB (p + j)
  unfold pcF; split <;> omega
theorem lin_bdB {us vs xs ys : Nat → Int} (h1 : B17 us vs) (h2 : B17 xs ys) {m p K : Nat} (hp : p ≤ 1000) : (-100000000000000 ≤ lin m (fR us vs xs ys) p K ∧ lin m (fR us vs xs ys) p K ≤ 100000000000000) ∧ -100000000000000 ≤ lin m (fI us vs xs ys) p K ∧ lin m (fI us vs xs ys) p K ≤ 100000000000000 := by
  have a1 := isum_bdI (f := linT m (fR us vs xs ys) K) (B := 68719476736) (fun j => by unfold linT; split; exact (h1.prod h2 _ _).1; simp) p
  have a2 := isum_bdI (f := linT m (fI us vs xs ys) K) (B := 68719476736) (fun j => by unfold linT; split; exact (h1.prod h2 _ _).2; simp) p
  have : p * 68719476736 ≤ 1000 * 68719476736 := Nat.mul_le_mul_right _ hp
  unfold lin
  omega
section
variable {P : Program} {n : Fr} {k : K} {w : World} {d : Option Tmp} {ty : TypeId} {pos : String} {aft : Array Edge} {g : Option (Nat × Bool)}
theorem Wk.copyH {S : Nat → Prop} {t u e : TypeId} {by' r l c m mc : Nat} {A B : Option Addr} {xs ys : List CB} {x y : Operand} (ht : P.underlying t = some (.slice e)) (hi : Inf P e (.complex .f64 0 0) 1 by')
    (hx : ev k x = some (.slice A l c)) (hy : ev k y = some (.slice B m mc)) (hown : CR e w r A l c xs) (hsrc : SlR S w B m 1 (ys.map cxV)) (hml : m ≤ l) (hl : l ≤ c) :
    Wk P n k w { dst := d, op := .call { callee := .builtin .copy, args := #[x, y], argTypes := #[t, u] }, type := ty, pos := pos, after := aft, guard := g } (fun v w' => v = .int .i64 m ∧ CR e w' r A l c (ys ++ xs.drop m) ∧ Ch (At r) w w' ∧ w'.heap.size = w.heap.size) := by
  have e0 : (if c = (0 : Int).toNat then A else A.map (·.add ((0 : Int).toNat * 1))) = A := by
    split
    · rfl
    · cases A <;> simp [Addr.add]
  have := Wk.copyC (P := P) (n := n) (d := d) (ty := ty) (pos := pos) (aft := aft) (g := g) (t := t) (u := u) (off := 0) ht hi (by rw [e0]; exact hx) hy hown hsrc (by simpa using hml) hl
  simpa using this
end
theorem Ow.cut {w : World} {r : Nat} {e : TypeId} {sz : Nat} {A : Option Addr} {l c l' : Nat} {cs : List Value} (h : Ow w r e sz A l c cs) (h0 : 0 < l') (hl : l' ≤ l) : Ow w r e sz A l' c (cs.take (l' * sz)) := by
  obtain ⟨g, cur, rfl, rfl, hg, hlc, hcm, hcs, ht⟩ := h.open' (by omega)
  have hm : l' * sz ≤ l * sz := Nat.mul_le_mul_right _ hl
  refine ⟨by rw [List.length_take, h.len]; omega, .inr ⟨g, cur, rfl, rfl, hg, by omega, hcm, hcs, ?_⟩⟩
  rw [← ht, List.take_take, Nat.min_eq_left hm]
theorem CR.cut {w : World} {r : Nat} {e : TypeId} {A : Option Addr} {l c l' : Nat} {zs : List CB} (h : CR e w r A l c zs) (h0 : 0 < l') (hl : l' ≤ l) : CR e w r A l' c (zs.take l') := by
  have := Ow.cut h h0 hl
  rwa [Nat.mul_one, ← List.map_take] at this
theorem WhU.take {n m : Nat} {us vs : Nat → Int} {zs : List CB} (h : WhU n us vs n zs) (hm : m ≤ n) : WhU m us vs m (zs.take m) :=
  ⟨by rw [List.length_take, h.len]; omega, fun i hi => by
    have := h.get i (by omega)
    simp only [List.getD, List.getElem?_take, if_pos hi] at this ⊢
    exact this⟩
theorem WhU.drop {n m : Nat} {us vs : Nat → Int} {zs : List CB} (h : WhU n us vs n zs) (hm : m ≤ n) : WhU (n - m) (fun i => us (m + i)) (fun i => vs (m + i)) (n - m) (zs.drop m) :=
  ⟨by rw [List.length_drop, h.len], fun i hi => by
    have := h.get (m + i) (by omega)
    simp only [List.getD, List.getElem?_drop] at this ⊢
    exact this⟩
theorem WhU.app {n m : Nat} {us vs : Nat → Int} {zs ws : List CB} (h : WhU n us vs n zs) (h2 : WhU m (fun i => us (n + i)) (fun i => vs (n + i)) m ws) : WhU (n + m) us vs (n + m) (zs ++ ws) := by
  have hl := h.len; have hl2 := h2.len
  refine ⟨by rw [List.length_append]; omega, fun i hi => ?_⟩
  by_cases c : i < n
  · have := h.get i c
    simp only [List.getD] at this ⊢
    rwa [List.getElem?_append_left (by omega)]
  · have := h2.get (i - n) (by omega)
    simp only [List.getD] at this ⊢
    rw [List.getElem?_append_right (by omega), hl]
    simpa [show n + (i - n) = i by omega] using this
theorem SlR.hi {S : Nat → Prop} {w : World} {A : Option Addr} {l : Nat} {cs : List Value} (h : SlR S w A l 1 cs) {i : Nat} (hi : i ≤ l) : SlR S w A i 1 (cs.take i) := by
  have := SlR.sub (c := l + 1) h (i := 0) (j := i) (by omega) hi (by omega)
  rw [if_neg (by omega)] at this
  have e : A.map (·.add (0 * 1)) = A := by cases A <;> simp [Addr.add]
  simpa [e] using this
theorem SlR.hiI {S : Nat → Prop} {w : World} {A : Option Addr} {l : Nat} {ls : List Int} (h : SlR S w A l 1 (ls.map IV)) {i : Nat} (hi : i ≤ l) : SlR S w A i 1 ((ls.take i).map IV) := by
  have := SlR.hi h hi; rwa [← List.map_take] at this
theorem SlR.hiC {S : Nat → Prop} {w : World} {A : Option Addr} {l : Nat} {ls : List CB} (h : SlR S w A l 1 (ls.map cxV)) {i : Nat} (hi : i ≤ l) : SlR S w A i 1 ((ls.take i).map cxV) := by
  have := SlR.hi h hi; rwa [← List.map_take] at this
theorem SlR.loC {S : Nat → Prop} {w : World} {A : Option Addr} {l c : Nat} {ls : List CB} (h : SlR S w A l 1 (ls.map cxV)) {i : Nat} (hi : i ≤ l) (hc : l ≤ c) : SlR S w (if c = i then A else A.map (·.add (i * 1))) (l - i) 1 ((ls.drop i).map cxV) := by
  have := SlR.sub h (i := i) (j := l) hi (Nat.le_refl _) hc
  rw [← List.map_drop, ← List.map_take] at this
  have hl : ls.length = l := by have := h.len; simpa using this
  rwa [List.take_of_length_le (by rw [List.length_drop, hl]; omega)] at this
theorem B17.plus {a b : Int} (ha : -100000000000000 ≤ a ∧ a ≤ 100000000000000) (hb : -1099511627776 ≤ b ∧ b ≤ 1099511627776) : Sm a ∧ Sm b ∧ Sm (a + b) := ⟨sm_of (by omega) (by omega), sm_of (by omega) (by omega), sm_of (by omega) (by omega)⟩
theorem plan_LenL (n lo hi p : Nat) (PP : Pln) (w : World) (pl : PlnR lo hi w p PP) (hh : hi ≤ w.heap.size) (hL : Leaf n PP.b) :
    Calls Tryz.prog 99 #[.pointer (some ⟨p, 0, none⟩)] w (Ret fun v w' => v = .int .i64 (n : Nat) ∧ w = w') := by
  refine (p_Length _ _ _ _ _ pl hh).mono ?_
  rintro e w' ⟨v, rfl, rfl, h⟩
  exact ⟨_, rfl, by rw [hL.ln], h⟩
set_option maxRecDepth 100000 in
theorem inf53w72 : Inf Tryz.prog 53 (.complex .f64 0 0) 1 16 := ⟨Tryz.t53, Tryz.type53, rfl, rfl, rfl⟩
theorem bld107_0_1_2_3_5w72 {v0 v1 v2 v3 v5 : Value} (h : [v0, v1, v2, v3, v5].all Value.oneCell' = true) (w : World) : (Instr.build 107 ([(0, v0), (1, v1), (2, v2), (3, v3), (5, v5)] : List (Nat × Value)).toArray).run Tryz.prog w = .ok (.agg #[v0, v1, v2, v3, .slice none 0 0, v5, .bool false]) w := by
  simp only [List.all_cons, Bool.and_eq_true, List.all_nil, and_true] at h
  have hv0 := oneCell_cells (v := v0) (by simp_all)
  have hv1 := oneCell_cells (v := v1) (by simp_all)
  have hv2 := oneCell_cells (v := v2) (by simp_all)
  have hv3 := oneCell_cells (v := v3) (by simp_all)
  have hv5 := oneCell_cells (v := v5) (by simp_all)
  have h1 := fill_set (fun i => ([(0, 1), (1, 1), (2, 1), (3, 1), (4, 1), (5, 1), (6, 1)] : List (Nat × Nat))[i]?) [(0, v0), (1, v1), (2, v2), (3, v3), (5, v5)] [.slice none 0 0, .int .i64 0, .pointer none, .slice none 0 0, .slice none 0 0, .slice none 0 0, .bool false] (by simp [okF, agg_cells, hv0, hv1, hv2, hv3, hv5, Nat.beq, Nat.ble])
  simp [setF, agg_cells, hv0, hv1, hv2, hv3, hv5] at h1
  simp [Instr.build, Tryz.runUnderlying107, Tryz.zeroValue107, Tryz.sizeOf3, Tryz.sizeOf4, Tryz.sizeOf39, Tryz.sizeOf70, agg_cells, h1]
set_option maxHeartbeats 1000000 in
set_option maxRecDepth 100000 in
theorem st_padded (SX : Nat → Prop) (X : Option Addr) (a N xc : Nat) (zs : List CB) (w : World) (sx : SlR SX w X a 1 (zs.map cxV)) (hX : ∀ q, SX q → q < w.heap.size) (ha : a ≤ N ∧ 1 ≤ N ∧ N ≤ 4096) :
  Calls Tryz.prog 85 #[.slice X a xc, .int .i64 N] w (Ret (fun v w' => ∃ q, v = .slice (some ⟨q, 0, none⟩) N N ∧ CR 53 w' (q + 1) (some ⟨q, 0, none⟩) N N (zs ++ List.replicate (N - a) (0, 0)) ∧ w.heap.size ≤ q ∧ Ch No w w')) := by
 refine calls_of_VC (args := [.slice X a xc, .int .i64 N]) Tryz.func85 rfl Tryz.ntmps85 rfl (VC.seq (VC.region (VO.mv (Rn.assign rfl) rfl rfl rfl (VO.nil (VQ.then_code (VC.seq (VC.region ?_)))))))
 refine VO.mv (Rn.move rfl) rfl rfl rfl (VO.wk (Wk.mkC Tryz.underlying39 inf53w72 rfl rfl (by omega) (by omega) (by omega)) rfl rfl rfl ?_)
 rintro _ w1 ⟨p1, rfl, o1, c1, e1, z1⟩
 refine VO.mv (Rn.assign rfl) rfl rfl rfl (VO.nil (VQ.then_code (VC.seq (VC.region (VO.mv (Rn.move rfl) rfl rfl rfl (VO.mv (Rn.move rfl) rfl rfl rfl ?_))))))
 have sx_1 := sx.keep c1
 refine VO.wk (Wk.copyH Tryz.underlying39 inf53w72 rfl rfl o1 sx_1 (by omega) (by omega)) rfl rfl rfl ?_
 rintro _ w2 ⟨rfl, row2, c2, z2⟩
 have yr2 := Ow.lt row2
 have z2 := c2.size
 refine VO.nil (VQ.then_code (VC.seq (VC.region (VO.mv (Rn.move rfl) rfl rfl rfl (VO.mv (Rn.assign rfl) rfl rfl rfl (VO.nil (VQ.then_code ?_)))))))
 refine VC.ret (VQ.ret1 rfl rfl (Ret.mk ?_))
 have o9 := row2; have e8 : (N : Int).toNat = N := rfl; rw [e8, List.drop_replicate] at o9
 have CH_1 := (Ch.refl (No) w).and c1
 have CH_2 : Ch (No) w w2 := CH_1.then c2 (by intro q h1 h2; rcases h2 with h2 | h2 <;> first | exact h2 | (exfalso; omega) | omega)
 exact ⟨_, rfl, o9, by omega, CH_2⟩
set_option maxHeartbeats 2000000 in
set_option maxRecDepth 100000 in
theorem st_New (SX : Nat → Prop) (X : Option Addr) (h L xc : Nat) (xs2 ys2 : Nat → Int) (ts : List CB) (w : World) (sx : SlR SX w X (h + 1) 1 (ts.map cxV)) (hX : ∀ q, SX q → q < w.heap.size) (hl : 1 ≤ L ∧ h + L ≤ 4) (ht : WhU (h + 1) xs2 ys2 (h + 1) ts) (h2 : B17 xs2 ys2) (o2 : ∀ j, h + 1 ≤ j → xs2 j = 0 ∧ ys2 j = 0) (st : StT w) (tab : TabB w.heap.size w) (hG : 12 ≤ w.heap.size) :
  Calls Tryz.prog 65 #[.slice X (h + 1) xc, .int .i64 L] w (Ret (fun v w' => ∃ pf pp lo hi PP n TA tc PA pk rp qc ps, v = .tuple #[.pointer (some ⟨pf, 0, none⟩), .nilIface] ∧ N3 n ∧ L + h ≤ n ∧ Bk w' pf #[.slice TA (h + 1) tc, .int .i64 L, .pointer (some ⟨pp, 0, none⟩), .slice PA n pk, .slice none 0 0, .slice (some ⟨qc, 0, none⟩) h h, .bool false] 107 ∧ PlnR lo hi w' pp PP ∧ Leaf n PP.b ∧ CR 53 w' rp PA n pk ps ∧ WhU n (fun k => (uvL n k xs2 ys2 n).1) (fun k => (uvL n k xs2 ys2 n).2) n ps ∧ CR 53 w' (qc + 1) (some ⟨qc, 0, none⟩) h h (List.replicate h (0, 0)) ∧ (w.heap.size ≤ pf ∧ w.heap.size ≤ lo ∧ hi ≤ pf ∧ hi < rp ∧ rp ≤ pf ∧ w.heap.size ≤ qc ∧ qc < pf) ∧ Ch No w w')) := by
 refine calls_of_VC (args := [.slice X (h + 1) xc, .int .i64 L]) Tryz.func65 rfl Tryz.ntmps65 rfl (VC.seq (VC.region (VO.mv (Rn.assign rfl) rfl rfl rfl (VO.mv (Rn.assign rfl) rfl rfl rfl (VO.nil (VQ.then_code (VC.seq ?_)))))))
 refine VC.region (VO.mv (Rn.move rfl) rfl rfl rfl (VO.mv (Rn.len Tryz.underlying39 rfl) rfl rfl rfl (VO.mv (Rn.assign rfl) rfl rfl rfl (VO.nil (VQ.then_code (VC.seq (VC.seq ?_)))))))
 refine VC.region (VO.mv (Rn.move rfl) rfl rfl rfl (VO.mv (Rn.lssF rfl rfl (by omega)) rfl rfl rfl (VO.mv (Rn.move rfl) rfl rfl rfl (VO.mv (Rn.move rfl) rfl rfl rfl (VO.mv (Rn.gtrF rfl rfl (by omega)) rfl rfl rfl (VO.mv (Rn.pick_false rfl rfl) rfl rfl rfl (VO.mv (Rn.move rfl) rfl rfl rfl ?_)))))))
 refine VO.mv (Rn.move rfl) rfl rfl rfl (VO.mv (Rn.lssF rfl rfl (by omega)) rfl rfl rfl (VO.mv (Rn.pick_false rfl rfl) rfl rfl rfl (VO.mv (Rn.move rfl) rfl rfl rfl (VO.mv (Rn.move rfl) rfl rfl rfl (VO.mv (Rn.gtrF rfl rfl (by omega)) rfl rfl rfl (VO.mv (Rn.pick_false rfl rfl) rfl rfl rfl (VO.nil ?_)))))))
 refine VQ.then_code (VC.cond_false rfl (VC.skip (VQ.then_code (VC.seq (VC.region (VO.mv (Rn.move rfl) rfl rfl rfl (VO.mv (Rn.move rfl) rfl rfl rfl ?_)))))))
 refine VO.wk (Wk.call Tryz.call80 rfl (ring_Size L (h + 1) _ (by omega))) rfl rfl rfl ?_
 rintro _ _ ⟨⟨n, rfl, hn3, hsz⟩, rfl⟩
 have hn4 : 1 ≤ n ∧ n ≤ 4 := by have := hn3.h; omega
 refine VO.mv (Rn.move rfl) rfl rfl rfl (VO.mv (Rn.extract rfl rfl) rfl rfl rfl (VO.mv (Rn.extract rfl rfl) rfl rfl rfl (VO.mv (Rn.assign rfl) rfl rfl rfl (VO.mv (Rn.assign rfl) rfl rfl rfl (VO.nil (VQ.then_code (VC.seq ?_)))))))
 refine VC.seq (VC.region (VO.mv (Rn.move rfl) rfl rfl rfl (VO.mv (Rn.nil_neq_nil Tryz.underlying29 rfl) rfl rfl rfl (VO.nil (VQ.then_code (VC.cond_false rfl (VC.skip ?_)))))))
 refine VQ.then_code (VC.seq (VC.region (VO.mv (Rn.move rfl) rfl rfl rfl (VO.wk (Wk.call Tryz.call69 rfl (plan_NewL n hn3.h _ st ((tab).up (by omega)) (by omega))) rfl rfl rfl ?_))))
 rintro _ w1 ⟨pp, PP, rfl, pl1, hL, c1⟩
 have z1 := c1.size
 refine VO.mv (Rn.move rfl) rfl rfl rfl (VO.mv (Rn.extract rfl rfl) rfl rfl rfl (VO.mv (Rn.extract rfl rfl) rfl rfl rfl (VO.mv (Rn.assign rfl) rfl rfl rfl (VO.mv (Rn.assign rfl) rfl rfl rfl (VO.nil (VQ.then_code (VC.seq ?_)))))))
 refine VC.seq (VC.region (VO.mv (Rn.move rfl) rfl rfl rfl (VO.mv (Rn.nil_neq_nil Tryz.underlying29 rfl) rfl rfl rfl (VO.nil (VQ.then_code (VC.cond_false rfl (VC.skip ?_)))))))
 refine VQ.then_code (VC.seq (VC.region (VO.mv (Rn.move rfl) rfl rfl rfl (VO.mv (Rn.move rfl) rfl rfl rfl (VO.mv (Rn.move rfl) rfl rfl rfl ?_)))))
 have sx_1 := sx.keep c1
 refine VO.wk (Wk.call Tryz.call85 rfl (st_padded _ _ (h + 1) n _ _ _ sx_1 (fun q hq => by have := hX q hq; omega) (by omega))) rfl rfl rfl ?_
 rintro _ w2 ⟨q2, rfl, pd2, e2, c2⟩
 have yp2 := Ow.lt pd2
 have z2 := c2.size
 have pl_2 := pl1.keep c2
 have st_2 := st.keep (c1.trans c2)
 refine VO.wk (Wk.call Tryz.call41 rfl (plan_FwdL n _ _ _ _ _ _ _ _ xs2 ys2 _ (pd2).sl (fun q hq => by have := Ow.lt pd2; omega) pl_2 (by omega) hL (ht.pad (by omega) o2) h2.b44 st_2 (by omega))) rfl rfl rfl ?_
 rintro _ w3 ⟨r3, A3, k3, osP, rfl, pw3, htP, yr3, c3⟩
 have yt3 := Ow.lt pw3
 have z3 := c3.size
 refine VO.mv (Rn.move rfl) rfl rfl rfl (VO.mv (Rn.extract rfl rfl) rfl rfl rfl (VO.mv (Rn.extract rfl rfl) rfl rfl rfl (VO.mv (Rn.assign rfl) rfl rfl rfl (VO.mv (Rn.assign rfl) rfl rfl rfl (VO.nil (VQ.then_code (VC.seq ?_)))))))
 refine VC.seq (VC.region (VO.mv (Rn.move rfl) rfl rfl rfl (VO.mv (Rn.nil_neq_nil Tryz.underlying29 rfl) rfl rfl rfl (VO.nil (VQ.then_code (VC.cond_false rfl (VC.skip ?_)))))))
 refine VQ.then_code (VC.seq (VC.drawsT 11 (.mv 0 (.mv 2 (.mv 3 (.mv 4 (.mv 5 (.mv 6 (.two 1 (.wk 7 (.mv 8 (.wk 9 (.mv 10 .nil)))) 7 (.wk 1 (.mv 8 (.wk 9 (.mv 10 .nil))))))))))) (fun w1 w' => Ch (No) w1 w') mixed (by kernel_rfl) (fun _ _ => Ch.refl _ _) ?_))
 intro w4 D4
 have c4 := Ch.of_drew D4; have z4 := c4.size
 refine VT.mv (fun w' hS => Rn.move rfl) rfl rfl rfl rfl (VT.mv (fun w' hS => Rn.move rfl) rfl rfl rfl rfl (VT.mv (fun w' hS => Rn.move rfl) rfl rfl rfl rfl (VT.mv (fun w' hS => Rn.move rfl) rfl rfl rfl rfl (VT.mv (fun w' hS => Rn.move rfl) rfl rfl rfl rfl ?_))))
 refine VT.mv (fun w' hS => Rn.sub rfl rfl (by rw [IntKind.wrap_i64]; omega)) rfl rfl rfl rfl ?_
 refine VT.two ?_ ?_
 ·
  have sx_4 := sx_1.keep (c2.trans (c3.trans c4))
  refine VT.wk (Wk.append (S := _) Tryz.underlying39 inf53w72 rfl (by decide) rfl rfl (Ow.nil _ _ _) sx_4 (cx_one _) (fun hh => absurd hh (by omega)) (by omega) (by simp only [maxLen]; omega)) rfl rfl rfl rfl ?_
  rintro _ w5 ⟨r5, A5, k5, rfl, o5, c5, q5⟩
  have z5 := c5.size
  have y5 := o5.lt
  have RD_5 : Ch (No) w4 w5 := (Ch.refl (No) w4).then c5 (by intro q h1 h2; rcases h2 with h2 | h2 <;> first | exact h2 | (exfalso; omega) | omega)
  refine ⟨RD_5, ?_⟩
  refine VT.wk (Wk.mkC Tryz.underlying39 inf53w72 rfl rfl (by omega) (by omega) (by omega)) rfl rfl rfl rfl ?_
  rintro _ w6 ⟨p6, rfl, o6, c6, e6, z6⟩
  have RD_6 := RD_5.and c6
  refine ⟨RD_6, ?_⟩
  refine VT.mv (fun w' hS => Rn.build rfl (bld107_0_1_2_3_5w72 rfl)) rfl rfl rfl rfl (VT.wk (Wk.box rfl) rfl rfl rfl rfl ?_)
  rintro _ w7 ⟨p7, rfl, N7⟩
  have c7 := N7.ch
  have e7 := N7.p; have z7 := N7.size
  have b65 := Bk.new N7
  have RD_7 := RD_6.and c7
  refine ⟨RD_7, ?_⟩
  refine VT.mv (fun w' hS => Rn.assign rfl) rfl rfl rfl rfl (VT.done (VO.mv (Rn.assign rfl) rfl rfl rfl (VO.nil (VQ.noPanic (VQ.then_code (VC.ret (VQ.ret2 rfl rfl rfl ?_)))))))
  refine Ret.mk ?_
  have e9 : (((h + 1 : Nat) : Int) - 1).toNat = h := by omega
  have e8 : 0 + (h + 1) = h + 1 := by omega
  have b9 := b65; rw [e9, e8] at b9
  have ca_7 := o6.keep c7
  have o9 := ca_7; rw [e9] at o9
  have pl_4 := pl_2.keep (c3.trans c4)
  have pl_5 := pl_4.to c5 (by first | exact fun _ _ _ _ => id | (intro q h1 h2 hx h3; omega))
  have pl_7 := pl_5.keep (c6.trans c7)
  have pw_4 := pw3.keep c4
  have pw_5 := pw_4.to c5 (by first | exact fun _ _ _ _ => id | (intro q h1 h2 hx h3; omega))
  have pw_7 := pw_5.keep (c6.trans c7)
  have CH_4 := (Ch.refl (No) w).and (c1.trans (c2.trans (c3.trans c4)))
  have CH_5 : Ch (No) w w5 := CH_4.then c5 (by intro q h1 h2; rcases h2 with h2 | h2 <;> first | exact h2 | (exfalso; omega) | omega)
  have CH_7 := CH_5.and (c6.trans c7)
  exact ⟨_, _, _, _, _, n, _, _, _, _, _, _, _, rfl, hn3, by omega, b9, pl_7, hL, pw_7, htP, o9, ⟨by omega, by omega, by omega, by omega, by omega, by omega, by omega⟩, CH_7⟩
 ·
  refine VT.wk (Wk.mkC Tryz.underlying39 inf53w72 rfl rfl (by omega) (by omega) (by omega)) rfl rfl rfl rfl ?_
  rintro _ w8 ⟨p8, rfl, o8, c8, e8, z8⟩
  have RD_8 := (Ch.refl (No) w4).and c8
  refine ⟨RD_8, ?_⟩
  have sx_8 := sx_1.keep (c2.trans (c3.trans (c4.trans c8)))
  refine VT.wk (Wk.append (S := _) Tryz.underlying39 inf53w72 rfl (by decide) rfl rfl (Ow.nil _ _ _) sx_8 (cx_one _) (fun hh => absurd hh (by omega)) (by omega) (by simp only [maxLen]; omega)) rfl rfl rfl rfl ?_
  rintro _ w9 ⟨r9, A9, k9, rfl, o9, c9, q9⟩
  have z9 := c9.size
  have y9 := o9.lt
  have RD_9 : Ch (No) w4 w9 := RD_8.then c9 (by intro q h1 h2; rcases h2 with h2 | h2 <;> first | exact h2 | (exfalso; omega) | omega)
  refine ⟨RD_9, ?_⟩
  refine VT.mv (fun w' hS => Rn.build rfl (bld107_0_1_2_3_5w72 rfl)) rfl rfl rfl rfl (VT.wk (Wk.box rfl) rfl rfl rfl rfl ?_)
  rintro _ w10 ⟨p10, rfl, N10⟩
  have c10 := N10.ch
  have e10 := N10.p; have z10 := N10.size
  have b65 := Bk.new N10
  have RD_10 := RD_9.and c10
  refine ⟨RD_10, ?_⟩
  refine VT.mv (fun w' hS => Rn.assign rfl) rfl rfl rfl rfl (VT.done (VO.mv (Rn.assign rfl) rfl rfl rfl (VO.nil (VQ.noPanic (VQ.then_code (VC.ret (VQ.ret2 rfl rfl rfl ?_)))))))
  refine Ret.mk ?_
  have e9 : (((h + 1 : Nat) : Int) - 1).toNat = h := by omega
  have e8 : 0 + (h + 1) = h + 1 := by omega
  have b9 := b65; rw [e9, e8] at b9
  have ca_9 := o8.to c9 (by first | exact fun _ _ _ _ => id | (intro q h1 h2 hx h3; omega))
  have ca_10 := ca_9.keep c10
  have o9 := ca_10; rw [e9] at o9
  have pl_8 := pl_2.keep (c3.trans (c4.trans c8))
  have pl_9 := pl_8.to c9 (by first | exact fun _ _ _ _ => id | (intro q h1 h2 hx h3; omega))
  have pl_10 := pl_9.keep c10
  have pw_8 := pw3.keep (c4.trans c8)
  have pw_9 := pw_8.to c9 (by first | exact fun _ _ _ _ => id | (intro q h1 h2 hx h3; omega))
  have pw_10 := pw_9.keep c10
  have CH_8 := (Ch.refl (No) w).and (c1.trans (c2.trans (c3.trans (c4.trans c8))))
  have CH_9 : Ch (No) w w9 := CH_8.then c9 (by intro q h1 h2; rcases h2 with h2 | h2 <;> first | exact h2 | (exfalso; omega) | omega)
  have CH_10 := CH_9.and c10
  exact ⟨_, _, _, _, _, n, _, _, _, _, _, _, _, rfl, hn3, by omega, b9, pl_10, hL, pw_10, htP, o9, ⟨by omega, by omega, by omega, by omega, by omega, by omega, by omega⟩, CH_10⟩
set_option maxHeartbeats 4000000 in
set_option maxRecDepth 100000 in
theorem st_do (pf pp lo hi : Nat) (PP : Pln) (n h L tc pk rp rc cc k : Nat) (TA PA CA : Option Addr) (wv : Value) (SX : Nat → Prop) (X : Option Addr) (xc : Nat) (us vs xs2 ys2 cr ci : Nat → Int) (zs ps cs : List CB) (w : World) (bf : Bk w pf #[.slice TA (h + 1) tc, .int .i64 L, .pointer (some ⟨pp, 0, none⟩), .slice PA n pk, wv, .slice CA h cc, .bool false] 107) (pl : PlnR lo hi w pp PP) (hh : hi ≤ w.heap.size) (hL : Leaf n PP.b) (pw : CR 53 w rp PA n pk ps) (htP : WhU n (fun k => (uvL n k xs2 ys2 n).1) (fun k => (uvL n k xs2 ys2 n).2) n ps) (cy : CR 53 w rc CA h cc cs) (hcy : WhU h cr ci h cs) (hcb : ∀ i, (-100000000000000 ≤ cr i ∧ cr i ≤ 100000000000000) ∧ -100000000000000 ≤ ci i ∧ ci i ≤ 100000000000000) (sx : SlR SX w X k 1 (zs.map cxV)) (hX : ∀ q, SX q → q < w.heap.size) (hk : 1 ≤ k ∧ k ≤ L) (hl : 1 ≤ L ∧ L + h ≤ n) (hz : WhU k us vs k zs) (h1 : B17 us vs) (h2 : B17 xs2 ys2) (o1 : ∀ j, k ≤ j → us j = 0 ∧ vs j = 0) (st : StT w) (hG : 12 ≤ w.heap.size) :
  Calls Tryz.prog 86 #[.pointer (some ⟨pf, 0, none⟩), .slice X k xc] w (Ret (fun v w' => ∃ r A kk os, v = .tuple #[.slice A (L + h) kk, .nilIface] ∧ CR 53 w' r A (L + h) kk os ∧ WhU (L + h) (fun i => if i < h then cr i + (cyc n (fR us vs xs2 ys2)) i else (cyc n (fR us vs xs2 ys2)) i) (fun i => if i < h then ci i + (cyc n (fI us vs xs2 ys2)) i else (cyc n (fI us vs xs2 ys2)) i) (L + h) os ∧ w.heap.size < r ∧ Ch No w w')) := by
 have hn4 : 1 ≤ n ∧ n ≤ 4 := by have := hL.n; omega
 have lpf := bf.lt; have lrp := Ow.lt pw; have lrc := Ow.lt cy
 refine calls_of_VC (args := [.pointer (some ⟨pf, 0, none⟩), .slice X k xc]) Tryz.func86 rfl Tryz.ntmps86 rfl (VC.seq (VC.region (VO.mv (Rn.assign rfl) rfl rfl rfl (VO.mv (Rn.assign rfl) rfl rfl rfl (VO.nil (VQ.then_code (VC.seq ?_)))))))
 refine VC.draws 16 [(0, true), (1, true), (2, true), (3, true), (4, true), (5, true), (6, true), (7, true), (8, true), (9, false), (10, false), (11, false), (12, true), (13, true), (14, true), (15, true)] (fun w1 w' => Ch (No) w1 w') mixed (by kernel_rfl) (fun _ _ => Ch.refl _ _) ?_
 intro w1 D1
 have c1 := Ch.of_drew D1; have z1 := c1.size
 have bf_1 := bf.keep c1
 have pw_1 := pw.keep c1
 have cy_1 := cy.keep c1
 have sx_1 := sx.keep c1
 refine VH.mv (fun w' hS => Rn.move rfl) rfl rfl rfl rfl (VH.mv (fun w' hS => Rn.nilCheck rfl) rfl rfl rfl rfl (VH.mv (fun w' hS => Rn.field Tryz.underlying107 rfl Tryz.sizeOf70 rfl rfl rfl) rfl rfl rfl rfl (VH.mv (fun w' hS => Rn.load Tryz.isAgg70 rfl ((bf_1.keep hS).cell rfl)) rfl rfl rfl rfl (VH.mv (fun w' hS => Rn.move rfl) rfl rfl rfl rfl (VH.mv (fun w' hS => Rn.move rfl) rfl rfl rfl rfl (VH.mv (fun w' hS => Rn.nilCheck rfl) rfl rfl rfl rfl (VH.mv (fun w' hS => Rn.field Tryz.underlying107 rfl Tryz.sizeOf70 rfl rfl rfl) rfl rfl rfl rfl ?_)))))))
 refine VH.mv (fun w' hS => Rn.load Tryz.isAgg70 rfl ((bf_1.keep hS).cell rfl)) rfl rfl rfl rfl ?_
 have pl_1 := pl.keep c1
 refine VH.wk (Wk.call Tryz.call99 rfl (plan_LenL n _ _ _ _ _ pl_1 (by omega) hL)) rfl rfl rfl rfl ?_
 rintro _ _ ⟨rfl, rfl⟩
 refine ⟨(Ch.refl (No) w1), ?_⟩
 refine VH.wk (Wk.call Tryz.call85 rfl (st_padded _ _ k n _ _ _ sx_1 (fun q hq => by have := hX q hq; omega) (by omega))) rfl rfl rfl rfl ?_
 rintro _ w2 ⟨q2, rfl, pd2, e2, c2⟩
 have yp2 := Ow.lt pd2
 have z2 := c2.size
 have RD_2 := (Ch.refl (No) w1).and c2
 refine ⟨RD_2, ?_⟩
 have pl_2 := pl_1.keep c2
 have st_2 := st.keep (c1.trans c2)
 refine VH.wk (Wk.call Tryz.call41 rfl (plan_FwdL n _ _ _ _ _ _ _ _ us vs _ (pd2).sl (fun q hq => by have := Ow.lt pd2; omega) pl_2 (by omega) hL (hz.pad (by omega) o1) h1.b44 st_2 (by omega))) rfl rfl rfl rfl ?_
 rintro _ w3 ⟨r3, A3, k3, os3, rfl, tr3, ht3, yr3, c3⟩
 have yt3 := Ow.lt tr3
 have z3 := c3.size
 obtain ⟨osX, hosX⟩ : ∃ z, z = os3 := ⟨_, rfl⟩
 have htX := ht3; rw [← hosX] at htX tr3
 have yrx := yr3; have ytx := yt3
 have RD_3 := RD_2.and c3
 refine ⟨RD_3, ?_⟩
 refine VH.mv (fun w' hS => Rn.move rfl) rfl rfl rfl rfl (VH.mv (fun w' hS => Rn.extract rfl rfl) rfl rfl rfl rfl (VH.mv (fun w' hS => Rn.extract rfl rfl) rfl rfl rfl rfl (VH.mv (fun w' hS => Rn.assign rfl) rfl rfl rfl rfl (VH.done (VO.mv (Rn.assign rfl) rfl rfl rfl (VO.nil (VQ.noPanic ?_)))))))
 refine VQ.then_code (VC.seq (VC.seq (VC.region (VO.mv (Rn.move rfl) rfl rfl rfl (VO.mv (Rn.nil_neq_nil Tryz.underlying29 rfl) rfl rfl rfl (VO.nil (VQ.then_code ?_)))))))
 refine VC.cond_false rfl (VC.skip (VQ.then_code (VC.seq (VC.seq (VC.region (VO.mv (Rn.move rfl) rfl rfl rfl (VO.mv (Rn.len Tryz.underlying39 rfl) rfl rfl rfl ?_)))))))
 refine VO.mv (Rn.move rfl) rfl rfl rfl (VO.nil (VQ.then_code (VC.block ?_)))
 have bf_3 := bf_1.keep (c2.trans c3)
 have pl_3 := pl_2.keep c3
 have pw_3 := pw_1.keep (c2.trans c3)
 have cy_3 := cy_1.keep (c2.trans c3)
 have st_3 := st_2.keep c3
 have CH_3 := (Ch.refl (No) w).and (c1.trans (c2.trans c3))
 refine VC.loopS (σ := Nat × List CB) (fun (j, os) => [(0, .pointer (some ⟨pf, 0, none⟩)), (6, .slice A3 n k3), (30, .int .i64 n), (31, .int .i64 j)]) (fun (j, os) w' => j ≤ n ∧ WhU n (mixF (fun k => gRe (uvL n k us vs n).1 (uvL n k us vs n).2 (uvL n k xs2 ys2 n).1 (uvL n k xs2 ys2 n).2) (fun k => (uvL n k us vs n).1) j) (mixF (fun k => gIm (uvL n k us vs n).1 (uvL n k us vs n).2 (uvL n k xs2 ys2 n).1 (uvL n k xs2 ys2 n).2) (fun k => (uvL n k us vs n).2) j) n os ∧ w3.heap.size ≤ w'.heap.size ∧ CR 53 w' r3 A3 n k3 os ∧ Bk w' pf #[.slice TA (h + 1) tc, .int .i64 L, .pointer (some ⟨pp, 0, none⟩), .slice PA n pk, wv, .slice CA h cc, .bool false] 107 ∧ PlnR lo hi w' pp PP ∧ CR 53 w' rp PA n pk ps ∧ CR 53 w' rc CA h cc cs ∧ StT w' ∧ Ch (No) w w') (fun (j, os) => n - j) (0, osX) ?_ ⟨rfl, rfl, rfl, rfl, trivial⟩ ?_
 · exact ⟨(by omega), htX.mix0, (Nat.le_refl _), tr3, bf_3, pl_3, pw_3, cy_3, st_3, CH_3⟩
 rintro ⟨j, os⟩ w4 ⟨hj, hm, hsz4, tx_4, bf_4, pl_4, pw_4, cy_4, st_4, CH_4⟩
 show VC _ _ _ _ [(0, .pointer (some ⟨pf, 0, none⟩)), (6, .slice A3 n k3), (30, .int .i64 n), (31, .int .i64 j)] _
 refine VC.seq (VC.region (VO.mv (Rn.lss rfl rfl) rfl rfl rfl (VO.nil (VQ.then_code (VC.seq (VC.cond_if rfl (fun hc1 => ?_) (fun hc1 => ?_)))))))
 ·
  refine VC.skip (VQ.then_code (VC.seq (VC.block (VC.seq (VC.region (VO.mv (Rn.move rfl) rfl rfl rfl (VO.mv (Rn.assign rfl) rfl rfl rfl ?_)))))))
  refine VO.nil (VQ.then_code (VC.draws 15 [(0, true), (1, true), (2, true), (3, true), (4, true), (5, true), (6, true), (7, true), (8, true), (9, true), (10, true), (11, true), (12, true), (13, false), (14, true)] (fun w1 w' => Ch (No) w1 w') mixed (by kernel_rfl) (fun _ _ => Ch.refl _ _) ?_))
  intro w5 D5
  have c5 := Ch.of_drew D5; have z5 := c5.size
  have bf_5 := bf_4.keep c5
  have pw_5 := pw_4.keep c5
  have cy_5 := cy_4.keep c5
  have tx_5 := tx_4.keep c5
  refine VH.mv (fun w' hS => Rn.move rfl) rfl rfl rfl rfl (VH.mv (fun w' hS => Rn.move rfl) rfl rfl rfl rfl (VH.mv (fun w' hS => Rn.move rfl) rfl rfl rfl rfl (VH.mv (fun w' hS => Rn.move rfl) rfl rfl rfl rfl (VH.mv (fun w' hS => Rn.indexS Tryz.underlying39 Tryz.sizeOf53 rfl rfl (tx_5.sl.ne (by omega)) (by omega) (by omega)) rfl rfl rfl rfl (VH.mv (fun w' hS => Rn.load Tryz.isAgg53 rfl ((tx_5.keep hS).sl.getC (by omega) (by omega))) rfl rfl rfl rfl (VH.mv (fun w' hS => Rn.move rfl) rfl rfl rfl rfl (VH.mv (fun w' hS => Rn.nilCheck rfl) rfl rfl rfl rfl ?_)))))))
  refine VH.mv (fun w' hS => Rn.field Tryz.underlying107 rfl Tryz.sizeOf39 rfl rfl rfl) rfl rfl rfl rfl (VH.mv (fun w' hS => Rn.load Tryz.isAgg39 rfl ((bf_5.keep hS).cell rfl)) rfl rfl rfl rfl (VH.mv (fun w' hS => Rn.move rfl) rfl rfl rfl rfl (VH.mv (fun w' hS => Rn.indexS Tryz.underlying39 Tryz.sizeOf53 rfl rfl (pw_5.sl.ne (by omega)) (by omega) (by omega)) rfl rfl rfl rfl (VH.mv (fun w' hS => Rn.load Tryz.isAgg53 rfl ((pw_5.keep hS).sl.getC (by omega) (by omega))) rfl rfl rfl rfl (VH.wk (Wk.call Tryz.call59 rfl (cplx_Mul _ _ _ _ _)) rfl rfl rfl rfl ?_)))))
  rintro _ w6 ⟨p6, q6, rfl, F6, c6⟩
  have z6 := c6.size
  have RD_6 := (Ch.refl (No) w5).and c6
  refine ⟨RD_6, ?_⟩
  refine VH.mv (fun w' hS => Rn.indexS Tryz.underlying39 Tryz.sizeOf53 rfl rfl (tx_5.sl.ne (by omega)) (by omega) (by omega)) rfl rfl rfl rfl (VH.done ?_)
  have tx_6 := tx_5.keep c6
  refine VO.wk0 (Wk.putC Tryz.sizeOf53 rfl rfl (by omega) tx_6) rfl rfl ?_
  rintro _ w7 ⟨o7, c7, z7⟩
  have y7 := o7.lt
  refine VO.nil (VQ.noPanic (VQ.block_normal (VQ.then_code (VC.region ?_))))
  refine VO.mv (Rn.add rfl rfl (by rw [IntKind.wrap_i64]; omega)) rfl rfl rfl ?_
  refine VO.mv (Rn.move rfl) rfl rfl rfl (VO.nil ?_)
  refine VQ.round (j + 1, os.set j (p6, q6)) (by first | omega | (dsimp only; omega)) ?_ ⟨rfl, rfl, rfl, rfl, trivial⟩
  have bf_6 := bf_5.keep c6
  have bf_7 := bf_6.to c7 (by first | exact id | omega)
  have pl_6 := pl_4.keep (c5.trans c6)
  have pl_7 := pl_6.to c7 (by first | exact fun _ _ _ _ => id | (intro q h1 h2 hx h3; omega))
  have pw_6 := pw_5.keep c6
  have pw_7 := pw_6.to c7 (by first | exact fun _ _ _ _ => id | (intro q h1 h2 hx h3; omega))
  have cy_6 := cy_5.keep c6
  have cy_7 := cy_6.to c7 (by first | exact fun _ _ _ _ => id | (intro q h1 h2 hx h3; omega))
  have st_6 := st_4.keep (c5.trans c6)
  have st_7 := st_6.to c7 (by first | exact fun _ _ _ _ => id | (intro q h1 h2 hx h3; omega))
  have CH_6 := CH_4.and (c5.trans c6)
  have CH_7 : Ch (No) w w7 := CH_6.then c7 (by intro q h1 h2; rcases h2 with h2 | h2 <;> first | exact h2 | (exfalso; omega) | omega)
  exact ⟨(by omega), (hm.mix (by omega) (by rw [F6, Int.toNat_natCast]; have h8 := hm.get j (by omega); simp only [mixF, if_neg (Nat.lt_irrefl j)] at h8; exact h8.mulG (htP.get j (by omega)) (h1.uv hn4.2) (h2.uv hn4.2))), (by omega), o7, bf_7, pl_7, pw_7, cy_7, st_7, CH_7⟩
 ·
  refine VC.exit (VQ.then_exit (VQ.then_exit (VQ.block_exit (VQ.then_code (VC.seq (VC.seq ?_))))))
  have ej : j = n := by omega
  rw [ej] at hm
  refine VC.region (VO.mv (Rn.move rfl) rfl rfl rfl (VO.mv (Rn.nilCheck rfl) rfl rfl rfl (VO.mv (Rn.field Tryz.underlying107 rfl Tryz.sizeOf70 rfl rfl rfl) rfl rfl rfl (VO.mv (Rn.load Tryz.isAgg70 rfl (bf_4.cell rfl)) rfl rfl rfl (VO.mv (Rn.move rfl) rfl rfl rfl ?_)))))
  refine VO.wk (Wk.call Tryz.call43 rfl (plan_InvL n _ _ _ _ _ _ _ _ (cyc n (fR us vs xs2 ys2)) (cyc n (fI us vs xs2 ys2)) _ (tx_4).sl (fun q hq => by have := Ow.lt tx_4; omega) pl_4 (by omega) hL (hm.mixAll.cast fun k hk => conv_uv hL.n us vs xs2 ys2 hk) (h1.cyc hn4.2 h2) st_4 (by omega))) rfl rfl rfl ?_
  rintro _ w8 ⟨r8, A8, k8, os8, rfl, tr8, ht8, yr8, c8⟩
  have yt8 := Ow.lt tr8
  have z8 := c8.size
  have htY := ht8
  have hcpY := Ow.cap tr8 (by omega)
  have yry := yr8; have yty := yt8
  refine VO.mv (Rn.move rfl) rfl rfl rfl (VO.mv (Rn.extract rfl rfl) rfl rfl rfl (VO.mv (Rn.extract rfl rfl) rfl rfl rfl (VO.mv (Rn.assign rfl) rfl rfl rfl (VO.mv (Rn.assign rfl) rfl rfl rfl (VO.nil (VQ.then_code (VC.seq ?_)))))))
  refine VC.region (VO.mv (Rn.move rfl) rfl rfl rfl (VO.mv (Rn.nil_neq_nil Tryz.underlying29 rfl) rfl rfl rfl (VO.nil (VQ.then_code (VC.cond_false rfl (VC.skip (VQ.then_code ?_)))))))
  refine VC.seq (VC.draws 13 [(0, true), (1, true), (2, true), (3, true), (4, true), (5, true), (6, true), (7, true), (8, true), (9, true), (10, true), (11, true), (12, true)] (fun w1 w' => Ch (No) w1 w') mixed (by kernel_rfl) (fun _ _ => Ch.refl _ _) ?_)
  intro w9 D9
  have c9 := Ch.of_drew D9; have z9 := c9.size
  have bf_9 := bf_4.keep (c8.trans c9)
  have pw_9 := pw_4.keep (c8.trans c9)
  have cy_9 := cy_4.keep (c8.trans c9)
  have tx_9 := tx_4.keep (c8.trans c9)
  have tr8_9 := tr8.keep c9
  have yy_9 := tr8.keep c9
  refine VH.mv (fun w' hS => Rn.move rfl) rfl rfl rfl rfl (VH.mv (fun w' hS => Rn.move rfl) rfl rfl rfl rfl (VH.mv (fun w' hS => Rn.nilCheck rfl) rfl rfl rfl rfl (VH.mv (fun w' hS => Rn.field Tryz.underlying107 rfl Tryz.sizeOf3 rfl rfl rfl) rfl rfl rfl rfl (VH.mv (fun w' hS => Rn.load Tryz.isAgg3 rfl ((bf_9.keep hS).cell rfl)) rfl rfl rfl rfl (VH.mv (fun w' hS => Rn.move rfl) rfl rfl rfl rfl (VH.mv (fun w' hS => Rn.nilCheck rfl) rfl rfl rfl rfl (VH.mv (fun w' hS => Rn.field Tryz.underlying107 rfl Tryz.sizeOf39 rfl rfl rfl) rfl rfl rfl rfl ?_)))))))
  refine VH.mv (fun w' hS => Rn.load Tryz.isAgg39 rfl ((bf_9.keep hS).cell rfl)) rfl rfl rfl rfl (VH.mv (fun w' hS => Rn.len Tryz.underlying39 rfl) rfl rfl rfl rfl ?_)
  refine VH.mv (fun w' hS => Rn.add rfl rfl (by rw [IntKind.wrap_i64]; omega)) rfl rfl rfl rfl ?_
  refine VH.mv (fun w' hS => Rn.sub rfl rfl (by rw [IntKind.wrap_i64]; omega)) rfl rfl rfl rfl ?_
  refine VH.mv (fun w' hS => Rn.sliceHi Tryz.underlying39 Tryz.sizeOf53 rfl rfl (by omega) (by omega)) rfl rfl rfl rfl (VH.done (VO.mv (Rn.assign rfl) rfl rfl rfl (VO.nil (VQ.noPanic (VQ.then_code (VC.seq (VC.seq ?_)))))))
  have hyc := CR.cut yy_9 (l' := ((L : Int) + ((h + 1 : Nat) : Int) - 1).toNat) (by omega) (by omega)
  have hcM := h1.cyc (n := n) hn4.2 h2
  refine VC.region (VO.mv (Rn.move rfl) rfl rfl rfl (VO.mv (Rn.nilCheck rfl) rfl rfl rfl (VO.mv (Rn.field Tryz.underlying107 rfl Tryz.sizeOf39 rfl rfl rfl) rfl rfl rfl (VO.mv (Rn.load Tryz.isAgg39 rfl (bf_9.cell rfl)) rfl rfl rfl (VO.mv (Rn.len Tryz.underlying39 rfl) rfl rfl rfl (VO.mv (Rn.move rfl) rfl rfl rfl (VO.nil ?_)))))))
  refine VQ.then_code (VC.block ?_)
  have pl_9 := pl_4.keep (c8.trans c9)
  have st_9 := st_4.keep (c8.trans c9)
  have CH_9 := CH_4.and (c8.trans c9)
  refine VC.loopS (σ := Nat × List CB) (fun (j, os) => [(0, .pointer (some ⟨pf, 0, none⟩)), (6, .slice A8 ((L : Int) + ((h + 1 : Nat) : Int) - 1).toNat k8), (78, .slice CA h cc), (79, .int .i64 h), (80, .int .i64 j)]) (fun (j, os) w' => j ≤ h ∧ WhU ((L : Int) + ((h + 1 : Nat) : Int) - 1).toNat (mixF (fun i => cr i + (cyc n (fR us vs xs2 ys2)) i) (cyc n (fR us vs xs2 ys2)) j) (mixF (fun i => ci i + (cyc n (fI us vs xs2 ys2)) i) (cyc n (fI us vs xs2 ys2)) j) ((L : Int) + ((h + 1 : Nat) : Int) - 1).toNat os ∧ w9.heap.size ≤ w'.heap.size ∧ CR 53 w' r8 A8 ((L : Int) + ((h + 1 : Nat) : Int) - 1).toNat k8 os ∧ Bk w' pf #[.slice TA (h + 1) tc, .int .i64 L, .pointer (some ⟨pp, 0, none⟩), .slice PA n pk, wv, .slice CA h cc, .bool false] 107 ∧ PlnR lo hi w' pp PP ∧ CR 53 w' rp PA n pk ps ∧ CR 53 w' rc CA h cc cs ∧ StT w' ∧ Ch (No) w w') (fun (j, os) => h - j) (0, os8.take ((L : Int) + ((h + 1 : Nat) : Int) - 1).toNat) ?_ ⟨rfl, rfl, rfl, rfl, rfl, trivial⟩ ?_
  · exact ⟨(by omega), (htY.take (by omega)).mix0, (Nat.le_refl _), hyc, bf_9, pl_9, pw_9, cy_9, st_9, CH_9⟩
  rintro ⟨j, os⟩ w10 ⟨hj, hm2, hsz10, yy_10, bf_10, pl_10, pw_10, cy_10, st_10, CH_10⟩
  show VC _ _ _ _ [(0, .pointer (some ⟨pf, 0, none⟩)), (6, .slice A8 ((L : Int) + ((h + 1 : Nat) : Int) - 1).toNat k8), (78, .slice CA h cc), (79, .int .i64 h), (80, .int .i64 j)] _
  refine VC.seq (VC.region (VO.mv (Rn.lss rfl rfl) rfl rfl rfl (VO.nil (VQ.then_code (VC.seq (VC.cond_if rfl (fun hc2 => ?_) (fun hc2 => ?_)))))))
  ·
   refine VC.skip (VQ.then_code (VC.seq (VC.block (VC.seq (VC.region (VO.mv (Rn.move rfl) rfl rfl rfl (VO.mv (Rn.indexS Tryz.underlying39 Tryz.sizeOf53 rfl rfl (cy_10.sl.ne (by omega)) (by omega) (by omega)) rfl rfl rfl ?_)))))))
   refine VO.mv (Rn.load Tryz.isAgg53 rfl (cy_10.sl.getC (by omega) (by omega))) rfl rfl rfl (VO.mv (Rn.assign rfl) rfl rfl rfl (VO.mv (Rn.assign rfl) rfl rfl rfl (VO.nil (VQ.then_code (VC.region (VO.mv (Rn.move rfl) rfl rfl rfl (VO.mv (Rn.move rfl) rfl rfl rfl ?_)))))))
   refine VO.mv (Rn.move rfl) rfl rfl rfl (VO.mv (Rn.move rfl) rfl rfl rfl (VO.mv (Rn.move rfl) rfl rfl rfl (VO.mv (Rn.indexS Tryz.underlying39 Tryz.sizeOf53 rfl rfl (yy_10.sl.ne (by omega)) (by omega) (by omega)) rfl rfl rfl (VO.mv (Rn.load Tryz.isAgg53 rfl (yy_10.sl.getC (by omega) (by omega))) rfl rfl rfl (VO.wk (Wk.cbin (.inl rfl) rfl rfl) rfl rfl rfl ?_)))))
   rintro _ w11 ⟨p11, q11, rfl, F11, c11⟩
   have z11 := c11.size
   have yy_11 := yy_10.keep c11
   refine VO.mv (Rn.indexS Tryz.underlying39 Tryz.sizeOf53 rfl rfl (yy_11.sl.ne (by omega)) (by omega) (by omega)) rfl rfl rfl (VO.wk0 (Wk.putC Tryz.sizeOf53 rfl rfl (by omega) yy_11) rfl rfl ?_)
   rintro _ w12 ⟨o12, c12, z12⟩
   have y12 := o12.lt
   refine VO.nil (VQ.block_normal (VQ.then_code (VC.region ?_)))
   refine VO.mv (Rn.add rfl rfl (by rw [IntKind.wrap_i64]; omega)) rfl rfl rfl ?_
   refine VO.mv (Rn.move rfl) rfl rfl rfl (VO.nil ?_)
   refine VQ.round (j + 1, os.set j (p11, q11)) (by first | omega | (dsimp only; omega)) ?_ ⟨rfl, rfl, rfl, rfl, rfl, trivial⟩
   have bf_11 := bf_10.keep c11
   have bf_12 := bf_11.to c12 (by first | exact id | omega)
   have pl_11 := pl_10.keep c11
   have pl_12 := pl_11.to c12 (by first | exact fun _ _ _ _ => id | (intro q h1 h2 hx h3; omega))
   have pw_11 := pw_10.keep c11
   have pw_12 := pw_11.to c12 (by first | exact fun _ _ _ _ => id | (intro q h1 h2 hx h3; omega))
   have cy_11 := cy_10.keep c11
   have cy_12 := cy_11.to c12 (by first | exact fun _ _ _ _ => id | (intro q h1 h2 hx h3; omega))
   have st_11 := st_10.keep c11
   have st_12 := st_11.to c12 (by first | exact fun _ _ _ _ => id | (intro q h1 h2 hx h3; omega))
   have CH_11 := CH_10.and c11
   have CH_12 : Ch (No) w w12 := CH_11.then c12 (by intro q h1 h2; rcases h2 with h2 | h2 <;> first | exact h2 | (exfalso; omega) | omega)
   exact ⟨(by omega), (hm2.mix (by omega) (by have h8 := hm2.get j (by omega); simp only [mixF, if_neg (Nat.lt_irrefl j)] at h8; rw [F11]; exact (hcy.get j (by omega)).plus h8 (hcb j).1 (hcb j).2 (by have := (hcM j).1; omega) (by have := (hcM j).2; omega))), (by omega), o12, bf_12, pl_12, pw_12, cy_12, st_12, CH_12⟩
  ·
   refine VC.exit (VQ.then_exit (VQ.then_exit (VQ.block_exit (VQ.then_code (VC.seq (VC.region (VO.mv (Rn.move rfl) rfl rfl rfl ?_)))))))
   refine VO.mv (Rn.assign rfl) rfl rfl rfl (VO.mv (Rn.assign rfl) rfl rfl rfl (VO.nil (VQ.then_code (VC.ret (VQ.ret2 rfl rfl rfl (Ret.mk ?_))))))
   have ej : j = h := by omega
   rw [ej] at hm2
   have e9 : ((L : Int) + ((h + 1 : Nat) : Int) - 1).toNat = L + h := by omega
   have o9 := yy_10; rw [e9] at o9 hm2
   exact ⟨_, _, _, os, congrArg (fun m => Value.tuple #[.slice A8 m k8, .nilIface]) e9, o9, hm2.cast (fun i _ => ⟨rfl, rfl⟩), by omega, CH_10⟩
end Go.Tm
namespace Go.Tm
open Go.RowKit Go.Proofs
theorem Ow.some {w : World} {r : Nat} {e : TypeId} {sz : Nat} {A : Option Addr} {l c : Nat} {cs : List Value} (h : Ow w r e sz A l c cs) (hl : 0 < l) : ∃ ad, A = some ad := by
  obtain ⟨g, _, rfl, _⟩ := h.open' hl
  exact ⟨_, rfl⟩
theorem pcF_out {us vs : Nat → Int} {p k : Nat} (j : Nat) (h : k ≤ j) : pcF us p k j = 0 ∧ pcF vs p k j = 0 := by
  unfold pcF; rw [if_neg (by omega), if_neg (by omega)]; exact ⟨rfl, rfl⟩
theorem pcF_in {us vs : Nat → Int} {p k : Nat} (j : Nat) (h : j < k) : us (p + j) = pcF us p k j ∧ vs (p + j) = pcF vs p k j := by
  unfold pcF; rw [if_pos h, if_pos h]; exact ⟨rfl, rfl⟩
theorem rep0 (h m : Nat) (F G : Nat → Nat → Int) : WhU h (fun i => lin m F 0 (0 + i)) (fun i => lin m G 0 (0 + i)) h (List.replicate h (0, 0)) := ⟨by simp, fun i hi => by
  have e : (List.replicate h ((0, 0) : CB)).getD i (0, 0) = (0, 0) := by
    simp only [List.getD, List.getElem?_replicate, if_pos hi]; rfl
  rw [e]; exact ⟨wh_zero, wh_zero⟩⟩
set_option maxRecDepth 100000 in
theorem inf53w73 : Inf Tryz.prog 53 (.complex .f64 0 0) 1 16 := ⟨Tryz.t53, Tryz.type53, rfl, rfl, rfl⟩
set_option maxHeartbeats 8000000 in
set_option maxRecDepth 100000 in
theorem st_Push (pf pp lo hi : Nat) (PP : Pln) (n h L tc pk rp : Nat) (TA PA : Option Addr) (qc : Nat) (SX : Nat → Prop) (X : Option Addr) (N xc : Nat) (us vs xs2 ys2 : Nat → Int) (zs ps : List CB) (w : World) (bf : Bk w pf #[.slice TA (h + 1) tc, .int .i64 L, .pointer (some ⟨pp, 0, none⟩), .slice PA n pk, .slice none 0 0, .slice (some ⟨qc, 0, none⟩) h h, .bool false] 107) (pl : PlnR lo hi w pp PP) (hh : hi ≤ w.heap.size) (hL : Leaf n PP.b) (pw : CR 53 w rp PA n pk ps) (htP : WhU n (fun k => (uvL n k xs2 ys2 n).1) (fun k => (uvL n k xs2 ys2 n).2) n ps) (cy : CR 53 w (qc + 1) (some ⟨qc, 0, none⟩) h h (List.replicate h (0, 0))) (sx : SlR SX w X N 1 (zs.map cxV)) (hX : ∀ q, SX q → q < w.heap.size) (hN : 1 ≤ N ∧ N ≤ 1000) (hz : WhU N us vs N zs) (dq : ¬ qc = pf) (hl : 1 ≤ L ∧ L + h ≤ n) (h1 : B17 us vs) (h2 : B17 xs2 ys2) (ho2 : ∀ j, h + 1 ≤ j → xs2 j = 0 ∧ ys2 j = 0) (dp : ¬ rp = pf + 1) (dl : hi ≤ pf) (dg : 12 ≤ pf) (st : StT w) (hG : 12 ≤ w.heap.size)  :
  Calls Tryz.prog 66 #[.pointer (some ⟨pf, 0, none⟩), .slice X N xc] w (Ret (fun v w' => ∃ p OA oc ro os WA wc rw CA cc rc cs, v = .tuple #[.slice OA p oc, .nilIface] ∧ (p ≤ N ∧ N < p + L) ∧ CR 53 w' ro OA p oc os ∧ WhU p (lin (h + 1) (fR us vs xs2 ys2) N) (lin (h + 1) (fI us vs xs2 ys2) N) p os ∧ Bk w' pf #[.slice TA (h + 1) tc, .int .i64 L, .pointer (some ⟨pp, 0, none⟩), .slice PA n pk, .slice WA (N - p) wc, .slice CA h cc, .bool false] 107 ∧ CR 53 w' rw WA (N - p) wc (zs.drop p) ∧ CR 53 w' rc CA h cc cs ∧ WhU h (fun i => lin (h + 1) (fR us vs xs2 ys2) p (p + i)) (fun i => lin (h + 1) (fI us vs xs2 ys2) p (p + i)) h cs ∧ (¬ ro = pf + 1 ∧ ¬ rw = pf + 1 ∧ ¬ rc = pf + 1 ∧ (ro = 0 ∨ w.heap.size < ro)) ∧ Ch (Is pf) w w')) := by
 have hn4 : 1 ≤ n ∧ n ≤ 4 := by have := hL.n; omega
 have lpf := bf.lt; have lrp := Ow.lt pw; have lrc := Ow.lt cy
 refine calls_of_VC (args := [.pointer (some ⟨pf, 0, none⟩), .slice X N xc]) Tryz.func66 rfl Tryz.ntmps66 rfl (VC.seq (VC.region (VO.mv (Rn.assign rfl) rfl rfl rfl (VO.mv (Rn.assign rfl) rfl rfl rfl (VO.nil (VQ.then_code (VC.seq ?_)))))))
 refine VC.seq (VC.region (VO.mv (Rn.move rfl) rfl rfl rfl (VO.mv (Rn.nilCheck rfl) rfl rfl rfl (VO.mv (Rn.field Tryz.underlying107 rfl Tryz.sizeOf4 rfl rfl rfl) rfl rfl rfl (VO.mv (Rn.load Tryz.isAgg4 rfl (bf.cell rfl)) rfl rfl rfl (VO.nil (VQ.then_code ?_)))))))
 refine VC.cond_false rfl (VC.skip (VQ.then_code (VC.seq (VC.region (VO.mv (Rn.move rfl) rfl rfl rfl (VO.mv (Rn.nilCheck rfl) rfl rfl rfl (VO.mv (Rn.field Tryz.underlying107 rfl Tryz.sizeOf39 rfl rfl rfl) rfl rfl rfl ?_)))))))
 refine VO.mv (Rn.load Tryz.isAgg39 rfl (bf.cell rfl)) rfl rfl rfl ?_
 refine VO.wk (Wk.append (S := _) Tryz.underlying39 inf53w73 rfl (by decide) rfl rfl (Ow.nil _ _ _) (SlR.nil (fun _ => False) _ 1) (by rfl) (fun _ _ => rfl) (by omega) (by simp only [maxLen]; omega)) rfl rfl rfl ?_
 rintro _ w1 ⟨r1, A1, k1, rfl, o1, c1, q1⟩
 have z1 := c1.size
 have y1 := o1.lt
 refine VO.mv (Rn.move rfl) rfl rfl rfl ?_
 have sx_1 := sx.to c1 (by first | exact fun _ _ _ _ => id | (intro q h1 h2 hx h3; have := hX q h2; omega))
 refine VO.wk (Wk.append (S := _) Tryz.underlying39 inf53w73 rfl (by decide) rfl rfl o1 sx_1 (cx_one _) (fun h9 => absurd h9 (by omega)) (by omega) (by simp only [maxLen]; omega)) rfl rfl rfl ?_
 rintro _ w2 ⟨r2, A2, k2, rfl, o2, c2, q2⟩
 have z2 := c2.size
 have y2 := o2.lt
 have yal0 := Ow.r_pos o2 (by omega)
 refine VO.mv (Rn.assign rfl) rfl rfl rfl (VO.nil (VQ.then_code (VC.seq (VC.region (VO.mv (Rn.assign rfl) rfl rfl rfl (VO.nil (VQ.then_code ?_)))))))
 refine VC.seq (VC.block ?_)
 have bf_1 := bf.to c1 (by first | exact id | omega)
 have bf_2 := bf_1.to c2 (by first | exact id | omega)
 have pl_1 := pl.to c1 (by first | exact fun _ _ _ _ => id | (intro q h1 h2 hx h3; omega))
 have pl_2 := pl_1.to c2 (by first | exact fun _ _ _ _ => id | (intro q h1 h2 hx h3; omega))
 have pw_1 := pw.to c1 (by first | exact fun _ _ _ _ => id | (intro q h1 h2 hx h3; omega))
 have pw_2 := pw_1.to c2 (by first | exact fun _ _ _ _ => id | (intro q h1 h2 hx h3; omega))
 have cy_1 := cy.to c1 (by first | exact fun _ _ _ _ => id | (intro q h1 h2 hx h3; omega))
 have cy_2 := cy_1.to c2 (by first | exact fun _ _ _ _ => id | (intro q h1 h2 hx h3; omega))
 have st_1 := st.to c1 (by first | exact fun _ _ _ _ => id | (intro q h1 h2 hx h3; omega))
 have st_2 := st_1.to c2 (by first | exact fun _ _ _ _ => id | (intro q h1 h2 hx h3; omega))
 have CH_1 : Ch (Is pf) w w1 := (Ch.refl (Is pf) w).then c1 (by intro q h1 h2; rcases h2 with h2 | h2 <;> first | exact h2 | (exfalso; omega) | omega)
 have CH_2 : Ch (Is pf) w w2 := CH_1.then c2 (by intro q h1 h2; rcases h2 with h2 | h2 <;> first | exact h2 | (exfalso; omega) | omega)
 refine VC.loopS (σ := Nat × Nat × Nat × Option Addr × Nat × Option Addr × Nat × List CB × Nat × Option Addr × Nat × List CB) (fun (p, lx, cx, AX, rq, Aq, cq, os, rc, CA, cc, cs) => [(0, .pointer (some ⟨pf, 0, none⟩)), (6, .slice AX lx cx), (7, .slice Aq p cq)]) (fun (p, lx, cx, AX, rq, Aq, cq, os, rc, CA, cc, cs) w' => lx + p = N ∧ lx ≤ cx ∧ (∃ ad, AX = some ad) ∧ WhU p (lin (h + 1) (fR us vs xs2 ys2) N) (lin (h + 1) (fI us vs xs2 ys2) N) p os ∧ WhU h (fun i => lin (h + 1) (fR us vs xs2 ys2) p (p + i)) (fun i => lin (h + 1) (fI us vs xs2 ys2) p (p + i)) h cs ∧ (rq = 0 ∨ w.heap.size < rq) ∧ ¬ rq = r2 ∧ ¬ rq = rc ∧ ¬ rc = pf + 1 ∧ ¬ rq = pf + 1 ∧ w2.heap.size ≤ w'.heap.size ∧ Bk w' pf #[.slice TA (h + 1) tc, .int .i64 L, .pointer (some ⟨pp, 0, none⟩), .slice PA n pk, .slice none 0 0, .slice CA h cc, .bool false] 107 ∧ PlnR lo hi w' pp PP ∧ CR 53 w' rp PA n pk ps ∧ CR 53 w' rc CA h cc cs ∧ SlR (At r2) w' AX lx 1 ((zs.drop p).map cxV) ∧ CR 53 w' rq Aq p cq os ∧ StT w' ∧ Ch (Is pf) w w') (fun (p, lx, cx, AX, rq, Aq, cq, os, rc, CA, cc, cs) => lx) (0, 0 + 0 + N, k2, A2, 0, none, 0, [], qc + 1, some ⟨qc, 0, none⟩, h, List.replicate h (0, 0)) ?_ ⟨rfl, rfl, rfl, trivial⟩ ?_
 · exact ⟨(by omega), (Ow.cap o2 (by omega)), (Ow.some o2 (by omega)), ⟨rfl, fun i hi => absurd hi (by omega)⟩, (rep0 _ _ _ _), (.inl rfl), (by omega), (by omega), (by omega), (by omega), (Nat.le_refl _), bf_2, pl_2, pw_2, cy_2, (o2).sl, (Ow.nil _ _ _), st_2, CH_2⟩
 rintro ⟨p, lx, cx, AX, rq, Aq, cq, os, rc, CA, cc, cs⟩ w3 ⟨hp, hcx, hax, hos, hcs, hr2, hr3, hr4, hr5, hr6, hsz3, bf_3, pl_3, pw_3, cy_3, av_3, out_3, st_3, CH_3⟩
 show VC _ _ _ _ [(0, .pointer (some ⟨pf, 0, none⟩)), (6, .slice AX lx cx), (7, .slice Aq p cq)] _
 have yo9 := Ow.lt out_3; have yc9 := Ow.lt cy_3
 refine VC.seq (VC.seq (VC.region (VO.mv (Rn.move rfl) rfl rfl rfl (VO.mv (Rn.len Tryz.underlying39 rfl) rfl rfl rfl (VO.mv (Rn.move rfl) rfl rfl rfl (VO.mv (Rn.nilCheck rfl) rfl rfl rfl (VO.mv (Rn.field Tryz.underlying107 rfl Tryz.sizeOf3 rfl rfl rfl) rfl rfl rfl ?_)))))))
 refine VO.mv (Rn.load Tryz.isAgg3 rfl (bf_3.cell rfl)) rfl rfl rfl (VO.mv (Rn.geq rfl rfl) rfl rfl rfl (VO.nil (VQ.then_code (VC.cond_if rfl (fun hc1 => ?_) (fun hc1 => ?_)))))
 ·
  refine VC.skip (VQ.then_code (VC.block (VC.seq ?_)))
  have avh := (av_3).hiC (i := L) (by omega)
  have yal9 : r2 ≤ w3.heap.size := by omega
  refine VC.region (VO.mv (Rn.move rfl) rfl rfl rfl (VO.mv (Rn.move rfl) rfl rfl rfl (VO.mv (Rn.move rfl) rfl rfl rfl (VO.mv (Rn.nilCheck rfl) rfl rfl rfl (VO.mv (Rn.field Tryz.underlying107 rfl Tryz.sizeOf3 rfl rfl rfl) rfl rfl rfl (VO.mv (Rn.load Tryz.isAgg3 rfl (bf_3.cell rfl)) rfl rfl rfl (VO.mv (Rn.sliceHi Tryz.underlying39 Tryz.sizeOf53 rfl rfl (by omega) (by omega)) rfl rfl rfl ?_)))))))
  refine VO.wk (Wk.call Tryz.call86 rfl (st_do pf pp _ _ PP n h L _ _ _ _ _ L _ _ _ _ _ _ _ (pcF us p L) (pcF vs p L) xs2 ys2 (fun i => lin (h + 1) (fR us vs xs2 ys2) p (p + i)) (fun i => lin (h + 1) (fI us vs xs2 ys2) p (p + i)) _ ps cs _ bf_3 pl_3 (by omega) hL pw_3 htP cy_3 hcs (fun i => lin_bdB h1 h2 (by omega)) (avh) (fun q hq => by omega) ⟨by omega, by omega⟩ hl (((hz.drop (m := p) (by omega)).cast (fun i hi => ⟨rfl, rfl⟩)).take (m := L) (by omega) |>.cast (fun i hi => pcF_in i hi)) (pcF_B17 h1 p L) h2 (fun j hj => pcF_out j hj) st_3 (by omega))) rfl rfl rfl ?_
  rintro _ w4 ⟨r4, A4, k4, osV, rfl, vv4, hvv, yv4, c4⟩
  have ylv4 := Ow.lt vv4; have hcv := Ow.cap vv4 (by omega); have hAv := Ow.some vv4 (by omega)
  have z4 := c4.size
  refine VO.mv (Rn.move rfl) rfl rfl rfl (VO.mv (Rn.extract rfl rfl) rfl rfl rfl (VO.mv (Rn.extract rfl rfl) rfl rfl rfl (VO.mv (Rn.assign rfl) rfl rfl rfl (VO.mv (Rn.assign rfl) rfl rfl rfl (VO.nil (VQ.then_code (VC.seq ?_)))))))
  refine VC.seq (VC.region (VO.mv (Rn.move rfl) rfl rfl rfl (VO.mv (Rn.nil_neq_nil Tryz.underlying29 rfl) rfl rfl rfl (VO.nil (VQ.then_code (VC.cond_false rfl (VC.skip ?_)))))))
  refine VQ.then_code (VC.seq ?_)
  have vh := (vv4).sl.hiC (i := L) (by omega)
  refine VC.region (VO.mv (Rn.move rfl) rfl rfl rfl (VO.mv (Rn.move rfl) rfl rfl rfl (VO.mv (Rn.move rfl) rfl rfl rfl (VO.mv (Rn.nilCheck rfl) rfl rfl rfl (VO.mv (Rn.field Tryz.underlying107 rfl Tryz.sizeOf3 rfl rfl rfl) rfl rfl rfl ?_)))))
  have bf_4 := bf_3.keep c4
  refine VO.mv (Rn.load Tryz.isAgg3 rfl (bf_4.cell rfl)) rfl rfl rfl (VO.mv (Rn.sliceHi Tryz.underlying39 Tryz.sizeOf53 rfl rfl (by omega) (by omega)) rfl rfl rfl ?_)
  have out_4 := out_3.keep c4
  refine VO.wk (Wk.append (S := _) Tryz.underlying39 inf53w73 rfl (by decide) rfl rfl out_4 vh (cx_one _) (fun h9 => absurd (show L = 0 from h9) (by omega)) (by omega) (by simp only [maxLen]; omega)) rfl rfl rfl ?_
  rintro _ w5 ⟨r5, A5, k5, rfl, o5, c5, q5⟩
  have z5 := c5.size
  have y5 := o5.lt
  have yop := Ow.r_pos o5 (by omega)
  refine VO.mv (Rn.assign rfl) rfl rfl rfl (VO.nil (VQ.then_code (VC.seq ?_)))
  have vv_5 := vv4.to c5 (by first | exact fun _ _ _ _ => id | (intro q h1 h2 hx h3; omega))
  have vl := (vv_5).sl.loC (i := L) (c := k4) (by omega) hcv
  refine VC.region (VO.mv (Rn.move rfl) rfl rfl rfl (VO.mv (Rn.move rfl) rfl rfl rfl (VO.mv (Rn.move rfl) rfl rfl rfl (VO.mv (Rn.nilCheck rfl) rfl rfl rfl (VO.mv (Rn.field Tryz.underlying107 rfl Tryz.sizeOf3 rfl rfl rfl) rfl rfl rfl ?_)))))
  have bf_5 := bf_4.to c5 (by first | exact id | omega)
  refine VO.mv (Rn.load Tryz.isAgg3 rfl (bf_5.cell rfl)) rfl rfl rfl (VO.mv (Rn.sliceLo Tryz.underlying39 Tryz.sizeOf53 rfl rfl (by omega) (by omega) (by omega)) rfl rfl rfl ?_)
  refine VO.wk (Wk.append (S := _) Tryz.underlying39 inf53w73 rfl (by decide) rfl rfl (Ow.nil _ _ _) vl (cx_one _) (fun _ h9 => by obtain ⟨g9, hg9⟩ := hAv; rw [hg9] at h9; split at h9 <;> cases h9) (by omega) (by simp only [maxLen]; omega)) rfl rfl rfl ?_
  rintro _ w6 ⟨r6, A6, k6, rfl, o6, c6, q6⟩
  have z6 := c6.size
  have y6 := o6.lt
  refine VO.mv (Rn.nilCheck rfl) rfl rfl rfl (VO.mv (Rn.field Tryz.underlying107 rfl Tryz.sizeOf39 rfl rfl rfl) rfl rfl rfl ?_)
  have bf_6 := bf_5.to c6 (by first | exact id | omega)
  refine VO.wk0 (Wk.put Tryz.sizeOf39 rfl rfl rfl rfl bf_6 rfl) rfl rfl ?_
  intro _ w7 Z7
  have c7 := Z7.ch; have z7 := Z7.size
  have bf_7 := Bk.put Z7
  refine VO.nil (VQ.then_code (VC.region (VO.mv (Rn.move rfl) rfl rfl rfl (VO.mv (Rn.move rfl) rfl rfl rfl (VO.mv (Rn.nilCheck rfl) rfl rfl rfl (VO.mv (Rn.field Tryz.underlying107 rfl Tryz.sizeOf3 rfl rfl rfl) rfl rfl rfl (VO.mv (Rn.load Tryz.isAgg3 rfl (bf_7.cell rfl)) rfl rfl rfl ?_)))))))
  refine VO.mv (Rn.sliceLo Tryz.underlying39 Tryz.sizeOf53 rfl rfl (by omega) (by omega) (by omega)) rfl rfl rfl (VO.mv (Rn.assign rfl) rfl rfl rfl (VO.nil (VQ.block_normal ?_)))
  refine VQ.round (p + L, lx - L, cx - L, (if cx = L then AX else AX.map (·.add (L * 1))), r5, A5, k5, os ++ osV.take L, r6, A6, k6, osV.drop L) (by first | omega | (dsimp only; omega)) ?_ ⟨rfl, rfl, rfl, trivial⟩
  have pl_4 := pl_3.keep c4
  have pl_5 := pl_4.to c5 (by first | exact fun _ _ _ _ => id | (intro q h1 h2 hx h3; omega))
  have pl_6 := pl_5.to c6 (by first | exact fun _ _ _ _ => id | (intro q h1 h2 hx h3; omega))
  have pl_7 := pl_6.to c7 (by first | exact fun _ _ _ _ => id | (intro q h1 h2 hx h3; omega))
  have pw_4 := pw_3.keep c4
  have pw_5 := pw_4.to c5 (by first | exact fun _ _ _ _ => id | (intro q h1 h2 hx h3; omega))
  have pw_6 := pw_5.to c6 (by first | exact fun _ _ _ _ => id | (intro q h1 h2 hx h3; omega))
  have pw_7 := pw_6.to c7 (by first | exact fun _ _ _ _ => id | (intro q h1 h2 hx h3; omega))
  have cn_7 := o6.to c7 (by first | exact fun _ _ _ _ => id | (intro q h1 h2 hx h3; omega))
  have av_4 := av_3.keep c4
  have av_5 := av_4.to c5 (by first | exact fun _ _ _ _ => id | (intro q h1 h2 hx h3; omega))
  have av_6 := av_5.to c6 (by first | exact fun _ _ _ _ => id | (intro q h1 h2 hx h3; omega))
  have av_7 := av_6.to c7 (by first | exact fun _ _ _ _ => id | (intro q h1 h2 hx h3; omega))
  have out_6 := o5.to c6 (by first | exact fun _ _ _ _ => id | (intro q h1 h2 hx h3; omega))
  have out_7 := out_6.to c7 (by first | exact fun _ _ _ _ => id | (intro q h1 h2 hx h3; omega))
  have st_4 := st_3.keep c4
  have st_5 := st_4.to c5 (by first | exact fun _ _ _ _ => id | (intro q h1 h2 hx h3; omega))
  have st_6 := st_5.to c6 (by first | exact fun _ _ _ _ => id | (intro q h1 h2 hx h3; omega))
  have st_7 := st_6.to c7 (by first | exact fun _ _ _ _ => id | (intro q h1 h2 hx h3; omega))
  have CH_4 := CH_3.and c4
  have CH_5 : Ch (Is pf) w w5 := CH_4.then c5 (by intro q h1 h2; rcases h2 with h2 | h2 <;> first | exact h2 | (exfalso; omega) | omega)
  have CH_6 : Ch (Is pf) w w6 := CH_5.then c6 (by intro q h1 h2; rcases h2 with h2 | h2 <;> first | exact h2 | (exfalso; omega) | omega)
  have CH_7 : Ch (Is pf) w w7 := CH_6.then c7 (by intro q h1 h2; rcases h2 with h2 | h2 <;> first | exact h2 | (exfalso; omega) | omega)
  exact ⟨(by omega), (by omega), (by obtain ⟨a9, ha9⟩ := hax; rw [ha9]; split <;> exact ⟨_, rfl⟩), (hos.app ((hvv.take (m := L) (by omega)).cast fun i hi => ⟨(block_lin (us := us) (vs := vs) (p := p) (k := L) (i := i) (show L + h ≤ n by omega) (by omega) (by omega) ho2).1.trans (lin_final _ (by omega) (by omega)), (block_lin (us := us) (vs := vs) (p := p) (k := L) (i := i) (show L + h ≤ n by omega) (by omega) (by omega) ho2).2.trans (lin_final _ (by omega) (by omega))⟩)), (by have h9 := hvv.drop (m := L) (by omega); rw [show L + h - L = h by omega] at h9; exact h9.cast fun i hi => ⟨by rw [(block_lin (us := us) (vs := vs) (p := p) (k := L) (i := L + i) (show L + h ≤ n by omega) (by omega) (by omega) ho2).1, Nat.add_assoc], by rw [(block_lin (us := us) (vs := vs) (p := p) (k := L) (i := L + i) (show L + h ≤ n by omega) (by omega) (by omega) ho2).2, Nat.add_assoc]⟩), (by omega), (by omega), (by omega), (by omega), (by omega), (by omega), (by have h9 := bf_7; rw [show 0 + (L + h - ((L : Nat) : Int).toNat) = h by omega] at h9; exact h9), pl_7, pw_7, (by have h9 := cn_7; rw [show 0 + (L + h - ((L : Nat) : Int).toNat) = h by omega, List.nil_append] at h9; exact h9), (by have h9 := (av_7).loC (i := L) (by omega) hcx; rw [List.drop_drop] at h9; exact h9), (by have h9 := out_7; show Ow _ _ _ _ _ _ _ _; rw [List.map_append]; exact h9), st_7, CH_7⟩
 ·
  refine VC.exit (VQ.then_exit (VQ.then_exit (VQ.block_exit (VQ.then_code (VC.seq (VC.region (VO.mv (Rn.move rfl) rfl rfl rfl ?_)))))))
  refine VO.mv (Rn.move rfl) rfl rfl rfl ?_
  refine VO.wk (Wk.append (S := _) Tryz.underlying39 inf53w73 rfl (by decide) rfl rfl (Ow.nil _ _ _) av_3 (cx_one _) (fun _ h9 => by obtain ⟨a9, ha9⟩ := hax; rw [ha9] at h9; cases h9) (by omega) (by simp only [maxLen]; omega)) rfl rfl rfl ?_
  rintro _ w8 ⟨r8, A8, k8, rfl, o8, c8, q8⟩
  have z8 := c8.size
  have y8 := o8.lt
  refine VO.mv (Rn.nilCheck rfl) rfl rfl rfl (VO.mv (Rn.field Tryz.underlying107 rfl Tryz.sizeOf39 rfl rfl rfl) rfl rfl rfl ?_)
  have bf_8 := bf_3.to c8 (by first | exact id | omega)
  refine VO.wk0 (Wk.put Tryz.sizeOf39 rfl rfl rfl rfl bf_8 rfl) rfl rfl ?_
  intro _ w9 Z9
  have c9 := Z9.ch; have z9 := Z9.size
  have bf_9 := Bk.put Z9
  refine VO.nil (VQ.then_code (VC.seq (VC.region (VO.mv (Rn.move rfl) rfl rfl rfl (VO.mv (Rn.assign rfl) rfl rfl rfl (VO.mv (Rn.assign rfl) rfl rfl rfl (VO.nil ?_)))))))
  refine VQ.then_code (VC.ret (VQ.ret2 rfl rfl rfl (Ret.mk ?_)))
  have wt_9 := o8.to c9 (by first | exact fun _ _ _ _ => id | (intro q h1 h2 hx h3; omega))
  have wt9 := wt_9; rw [show 0 + lx = N - p by omega, List.nil_append] at wt9
  have b9 := bf_9; rw [show 0 + lx = N - p by omega] at b9
  have out_8 := out_3.to c8 (by first | exact fun _ _ _ _ => id | (intro q h1 h2 hx h3; omega))
  have out_9 := out_8.to c9 (by first | exact fun _ _ _ _ => id | (intro q h1 h2 hx h3; omega))
  have cy_8 := cy_3.to c8 (by first | exact fun _ _ _ _ => id | (intro q h1 h2 hx h3; omega))
  have cy_9 := cy_8.to c9 (by first | exact fun _ _ _ _ => id | (intro q h1 h2 hx h3; omega))
  have CH_8 : Ch (Is pf) w w8 := CH_3.then c8 (by intro q h1 h2; rcases h2 with h2 | h2 <;> first | exact h2 | (exfalso; omega) | omega)
  have CH_9 : Ch (Is pf) w w9 := CH_8.then c9 (by intro q h1 h2; rcases h2 with h2 | h2 <;> first | exact h2 | (exfalso; omega) | omega)
  exact ⟨p, _, _, _, os, _, _, _, _, _, _, cs, rfl, ⟨by omega, by omega⟩, out_9, hos, b9, wt9, cy_9, hcs, ⟨by omega, by omega, by omega, by omega⟩, CH_9⟩
end Go.Tm
namespace Go.Tm
open Go.RowKit Go.Proofs
set_option maxRecDepth 100000 in
theorem inf53w74 : Inf Tryz.prog 53 (.complex .f64 0 0) 1 16 := ⟨Tryz.t53, Tryz.type53, rfl, rfl, rfl⟩
set_option maxHeartbeats 8000000 in
set_option maxRecDepth 100000 in
theorem st_Flush (pf pp lo hi : Nat) (PP : Pln) (n h L tc pk rp : Nat) (TA PA : Option Addr) (p r N wc cc rw rc : Nat) (WA CA : Option Addr) (us vs xs2 ys2 : Nat → Int) (zs ps cs : List CB) (w : World) (bf : Bk w pf #[.slice TA (h + 1) tc, .int .i64 L, .pointer (some ⟨pp, 0, none⟩), .slice PA n pk, .slice WA r wc, .slice CA h cc, .bool false] 107) (pl : PlnR lo hi w pp PP) (hh : hi ≤ w.heap.size) (hL : Leaf n PP.b) (pw : CR 53 w rp PA n pk ps) (htP : WhU n (fun k => (uvL n k xs2 ys2 n).1) (fun k => (uvL n k xs2 ys2 n).2) n ps) (wt : CR 53 w rw WA r wc zs) (hzr : WhU r (pcF us p r) (pcF vs p r) r zs) (cy : CR 53 w rc CA h cc cs) (hcs : WhU h (fun i => lin (h + 1) (fR us vs xs2 ys2) p (p + i)) (fun i => lin (h + 1) (fI us vs xs2 ys2) p (p + i)) h cs) (hN : p + r = N ∧ N ≤ 1000 ∧ r < L) (dw : ¬ rw = pf + 1) (dc : ¬ rc = pf + 1) (hl : 1 ≤ L ∧ L + h ≤ n) (h1 : B17 us vs) (h2 : B17 xs2 ys2) (ho2 : ∀ j, h + 1 ≤ j → xs2 j = 0 ∧ ys2 j = 0) (dp : ¬ rp = pf + 1) (dl : hi ≤ pf) (dg : 12 ≤ pf) (st : StT w) (hG : 12 ≤ w.heap.size)  :
  Calls Tryz.prog 67 #[.pointer (some ⟨pf, 0, none⟩)] w (Ret (fun v w' => ∃ A c ro os, v = .tuple #[.slice A (r + h) c, .nilIface] ∧ CR 53 w' ro A (r + h) c os ∧ WhU (r + h) (fun i => lin (h + 1) (fR us vs xs2 ys2) N (p + i)) (fun i => lin (h + 1) (fI us vs xs2 ys2) N (p + i)) (r + h) os ∧ (ro = 0 ∨ w.heap.size < ro) ∧ Ch (Is pf) w w')) := by
 have hn4 : 1 ≤ n ∧ n ≤ 4 := by have := hL.n; omega
 have lpf := bf.lt; have lrp := Ow.lt pw; have lrc := Ow.lt cy; have lrw := Ow.lt wt
 refine calls_of_VC (args := [.pointer (some ⟨pf, 0, none⟩)]) Tryz.func67 rfl Tryz.ntmps67 rfl (VC.seq (VC.region (VO.mv (Rn.assign rfl) rfl rfl rfl (VO.mv (Rn.assign rfl) rfl rfl rfl (VO.nil (VQ.then_code (VC.seq ?_)))))))
 refine VC.seq (VC.region (VO.mv (Rn.move rfl) rfl rfl rfl (VO.mv (Rn.nilCheck rfl) rfl rfl rfl (VO.mv (Rn.field Tryz.underlying107 rfl Tryz.sizeOf4 rfl rfl rfl) rfl rfl rfl (VO.mv (Rn.load Tryz.isAgg4 rfl (bf.cell rfl)) rfl rfl rfl (VO.nil (VQ.then_code ?_)))))))
 refine VC.cond_false rfl (VC.skip (VQ.then_code (VC.seq (VC.region (VO.mv (Rn.move rfl) rfl rfl rfl (VO.mv (Rn.nilCheck rfl) rfl rfl rfl (VO.mv (Rn.field Tryz.underlying107 rfl Tryz.sizeOf39 rfl rfl rfl) rfl rfl rfl ?_)))))))
 refine VO.mv (Rn.load Tryz.isAgg39 rfl (bf.cell rfl)) rfl rfl rfl ?_
 refine VO.wk (Wk.append (S := _) Tryz.underlying39 inf53w74 rfl (by decide) rfl rfl (Ow.nil _ _ _) cy.sl (cx_one _) (fun _ h9 => Ow.nilc cy h9) (by omega) (by simp only [maxLen]; omega)) rfl rfl rfl ?_
 rintro _ w1 ⟨r1, A1, k1, rfl, o1, c1, q1⟩
 have z1 := c1.size
 have y1 := o1.lt
 refine VO.mv (Rn.assign rfl) rfl rfl rfl (VO.nil (VQ.then_code (VC.seq (VC.seq (VC.region (VO.mv (Rn.move rfl) rfl rfl rfl (VO.mv (Rn.nilCheck rfl) rfl rfl rfl ?_)))))))
 refine VO.mv (Rn.field Tryz.underlying107 rfl Tryz.sizeOf39 rfl rfl rfl) rfl rfl rfl ?_
 have bf_1 := bf.to c1 (by first | exact id | omega)
 refine VO.mv (Rn.load Tryz.isAgg39 rfl (bf_1.cell rfl)) rfl rfl rfl (VO.mv (Rn.len Tryz.underlying39 rfl) rfl rfl rfl (VO.mv (Rn.assign rfl) rfl rfl rfl (VO.nil (VQ.then_code (VC.seq (VC.region (VO.mv (Rn.move rfl) rfl rfl rfl ?_)))))))
 refine VO.mv (Rn.gtr rfl rfl) rfl rfl rfl (VO.nil (VQ.then_code (VC.cond_if rfl (fun hc1 => ?_) (fun hc1 => ?_))))
 ·
  refine VC.seq (VC.region (VO.mv (Rn.move rfl) rfl rfl rfl (VO.mv (Rn.move rfl) rfl rfl rfl (VO.mv (Rn.nilCheck rfl) rfl rfl rfl (VO.mv (Rn.field Tryz.underlying107 rfl Tryz.sizeOf39 rfl rfl rfl) rfl rfl rfl (VO.mv (Rn.load Tryz.isAgg39 rfl (bf_1.cell rfl)) rfl rfl rfl ?_))))))
  have pl_1 := pl.to c1 (by first | exact fun _ _ _ _ => id | (intro q h1 h2 hx h3; omega))
  have pw_1 := pw.to c1 (by first | exact fun _ _ _ _ => id | (intro q h1 h2 hx h3; omega))
  have cy_1 := cy.to c1 (by first | exact fun _ _ _ _ => id | (intro q h1 h2 hx h3; omega))
  have wt_1 := wt.to c1 (by first | exact fun _ _ _ _ => id | (intro q h1 h2 hx h3; omega))
  have st_1 := st.to c1 (by first | exact fun _ _ _ _ => id | (intro q h1 h2 hx h3; omega))
  refine VO.wk (Wk.call Tryz.call86 rfl (st_do pf pp _ _ PP n h L _ _ _ _ _ r _ _ _ _ _ _ _ (pcF us p r) (pcF vs p r) xs2 ys2 (fun i => lin (h + 1) (fR us vs xs2 ys2) p (p + i)) (fun i => lin (h + 1) (fI us vs xs2 ys2) p (p + i)) _ ps cs _ bf_1 pl_1 (by omega) hL pw_1 htP cy_1 hcs (fun i => lin_bdB h1 h2 (by omega)) (wt_1).sl (fun q hq => by omega) ⟨by omega, by omega⟩ hl hzr (pcF_B17 h1 p r) h2 (fun j hj => pcF_out j hj) st_1 (by omega))) rfl rfl rfl ?_
  rintro _ w2 ⟨r2, A2, k2, osV, rfl, vv2, hvv, yv2, c2⟩
  have ylv2 := Ow.lt vv2; have hcv := Ow.cap vv2 (by omega); have hAv := Ow.some vv2 (by omega)
  have z2 := c2.size
  refine VO.mv (Rn.move rfl) rfl rfl rfl (VO.mv (Rn.extract rfl rfl) rfl rfl rfl (VO.mv (Rn.extract rfl rfl) rfl rfl rfl (VO.mv (Rn.assign rfl) rfl rfl rfl (VO.mv (Rn.assign rfl) rfl rfl rfl (VO.nil (VQ.then_code (VC.seq ?_)))))))
  refine VC.seq (VC.region (VO.mv (Rn.move rfl) rfl rfl rfl (VO.mv (Rn.nil_neq_nil Tryz.underlying29 rfl) rfl rfl rfl (VO.nil (VQ.then_code (VC.cond_false rfl (VC.skip ?_)))))))
  refine VQ.then_code ?_
  have vr := (vv2).sl.hiC (i := ((r : Int) + ((h + 1 : Nat) : Int) - 1).toNat) (by omega)
  refine VC.region (VO.mv (Rn.move rfl) rfl rfl rfl (VO.mv (Rn.move rfl) rfl rfl rfl (VO.mv (Rn.move rfl) rfl rfl rfl (VO.mv (Rn.nilCheck rfl) rfl rfl rfl (VO.mv (Rn.field Tryz.underlying107 rfl Tryz.sizeOf39 rfl rfl rfl) rfl rfl rfl ?_)))))
  have bf_2 := bf_1.keep c2
  refine VO.mv (Rn.load Tryz.isAgg39 rfl (bf_2.cell rfl)) rfl rfl rfl (VO.mv (Rn.len Tryz.underlying39 rfl) rfl rfl rfl ?_)
  refine VO.mv (Rn.add rfl rfl (by rw [IntKind.wrap_i64]; omega)) rfl rfl rfl ?_
  refine VO.mv (Rn.sub rfl rfl (by rw [IntKind.wrap_i64]; omega)) rfl rfl rfl ?_
  refine VO.mv (Rn.sliceHi Tryz.underlying39 Tryz.sizeOf53 rfl rfl (by omega) (by omega)) rfl rfl rfl ?_
  refine VO.wk (Wk.append (S := _) Tryz.underlying39 inf53w74 rfl (by decide) rfl rfl (Ow.nil _ _ _) vr (cx_one _) (fun h9 => absurd h9 (by omega)) (by omega) (by simp only [maxLen]; omega)) rfl rfl rfl ?_
  rintro _ w3 ⟨r3, A3, k3, rfl, o3, c3, q3⟩
  have z3 := c3.size
  have y3 := o3.lt
  refine VO.mv (Rn.assign rfl) rfl rfl rfl (VO.nil (VQ.then_code (VC.seq (VC.region (VO.mv (Rn.move rfl) rfl rfl rfl (VO.mv (Rn.move rfl) rfl rfl rfl (VO.mv (Rn.nilCheck rfl) rfl rfl rfl ?_)))))))
  refine VO.mv (Rn.field Tryz.underlying107 rfl Tryz.sizeOf4 rfl rfl rfl) rfl rfl rfl ?_
  have bf_3 := bf_2.to c3 (by first | exact id | omega)
  refine VO.wk0 (Wk.put Tryz.sizeOf4 rfl rfl rfl rfl bf_3 rfl) rfl rfl ?_
  intro _ w4 Z4
  have c4 := Z4.ch; have z4 := Z4.size
  have bf_4 := Bk.put Z4
  refine VO.mv (Rn.nilCheck rfl) rfl rfl rfl (VO.mv (Rn.field Tryz.underlying107 rfl Tryz.sizeOf39 rfl rfl rfl) rfl rfl rfl (VO.wk0 (Wk.put Tryz.sizeOf39 rfl rfl rfl rfl bf_4 rfl) rfl rfl ?_))
  intro _ w5 Z5
  have c5 := Z5.ch; have z5 := Z5.size
  have bf_5 := Bk.put Z5
  refine VO.nil (VQ.then_code (VC.seq (VC.region (VO.mv (Rn.move rfl) rfl rfl rfl (VO.mv (Rn.move rfl) rfl rfl rfl (VO.mv (Rn.nilCheck rfl) rfl rfl rfl (VO.mv (Rn.field Tryz.underlying107 rfl Tryz.sizeOf39 rfl rfl rfl) rfl rfl rfl ?_)))))))
  refine VO.mv (Rn.load Tryz.isAgg39 rfl (bf_5.cell rfl)) rfl rfl rfl (VO.mv (Rn.len Tryz.underlying39 rfl) rfl rfl rfl ?_)
  refine VO.mv (Rn.sub rfl rfl (by rw [IntKind.wrap_i64]; omega)) rfl rfl rfl ?_
  refine VO.wk (Wk.mkC Tryz.underlying39 inf53w74 rfl rfl (by omega) (by omega) (by omega)) rfl rfl rfl ?_
  rintro _ w6 ⟨p6, rfl, o6, c6, e6, z6⟩
  refine VO.mv (Rn.nilCheck rfl) rfl rfl rfl (VO.mv (Rn.field Tryz.underlying107 rfl Tryz.sizeOf39 rfl rfl rfl) rfl rfl rfl ?_)
  have bf_6 := bf_5.keep c6
  refine VO.wk0 (Wk.put Tryz.sizeOf39 rfl rfl rfl rfl bf_6 rfl) rfl rfl ?_
  intro _ w7 Z7
  have c7 := Z7.ch; have z7 := Z7.size
  have bf_7 := Bk.put Z7
  refine VO.nil (VQ.then_code (VC.seq (VC.region (VO.mv (Rn.move rfl) rfl rfl rfl (VO.mv (Rn.assign rfl) rfl rfl rfl (VO.mv (Rn.assign rfl) rfl rfl rfl (VO.nil ?_)))))))
  refine VQ.then_code (VC.ret (VQ.ret2 rfl rfl rfl (Ret.mk ?_)))
  have e9 : 0 + ((r : Int) + ((h + 1 : Nat) : Int) - 1).toNat = r + h := by omega
  have e8 : ((r : Int) + ((h + 1 : Nat) : Int) - 1).toNat = r + h := by omega
  have o2__4 := o3.to c4 (by first | exact fun _ _ _ _ => id | (intro q h1 h2 hx h3; omega))
  have o2__5 := o2__4.to c5 (by first | exact fun _ _ _ _ => id | (intro q h1 h2 hx h3; omega))
  have o2__6 := o2__5.keep c6
  have o2__7 := o2__6.to c7 (by first | exact fun _ _ _ _ => id | (intro q h1 h2 hx h3; omega))
  have o9 := o2__7; rw [e9, e8, List.nil_append] at o9
  have CH_1 : Ch (Is pf) w w1 := (Ch.refl (Is pf) w).then c1 (by intro q h1 h2; rcases h2 with h2 | h2 <;> first | exact h2 | (exfalso; omega) | omega)
  have CH_2 := CH_1.and c2
  have CH_3 : Ch (Is pf) w w3 := CH_2.then c3 (by intro q h1 h2; rcases h2 with h2 | h2 <;> first | exact h2 | (exfalso; omega) | omega)
  have CH_4 : Ch (Is pf) w w4 := CH_3.then c4 (by intro q h1 h2; rcases h2 with h2 | h2 <;> first | exact h2 | (exfalso; omega) | omega)
  have CH_5 : Ch (Is pf) w w5 := CH_4.then c5 (by intro q h1 h2; rcases h2 with h2 | h2 <;> first | exact h2 | (exfalso; omega) | omega)
  have CH_6 := CH_5.and c6
  have CH_7 : Ch (Is pf) w w7 := CH_6.then c7 (by intro q h1 h2; rcases h2 with h2 | h2 <;> first | exact h2 | (exfalso; omega) | omega)
  exact ⟨_, _, _, osV.take (r + h), congrArg (fun m => Value.tuple #[.slice A3 m k3, .nilIface]) e9, o9, (hvv.take (m := r + h) (by omega)).cast (fun i hi => ⟨by rw [(block_lin (us := us) (vs := vs) (p := p) (k := r) (i := i) (show r + h ≤ n by omega) (by omega) (by omega) ho2).1, hN.1], by rw [(block_lin (us := us) (vs := vs) (p := p) (k := r) (i := i) (show r + h ≤ n by omega) (by omega) (by omega) ho2).2, hN.1]⟩), by omega, CH_7⟩
 ·
  refine VC.skip (VQ.then_code (VC.seq (VC.region (VO.mv (Rn.move rfl) rfl rfl rfl (VO.mv (Rn.move rfl) rfl rfl rfl (VO.mv (Rn.nilCheck rfl) rfl rfl rfl (VO.mv (Rn.field Tryz.underlying107 rfl Tryz.sizeOf4 rfl rfl rfl) rfl rfl rfl ?_)))))))
  refine VO.wk0 (Wk.put Tryz.sizeOf4 rfl rfl rfl rfl bf_1 rfl) rfl rfl ?_
  intro _ w8 Z8
  have c8 := Z8.ch; have z8 := Z8.size
  have bf_8 := Bk.put Z8
  refine VO.mv (Rn.nilCheck rfl) rfl rfl rfl (VO.mv (Rn.field Tryz.underlying107 rfl Tryz.sizeOf39 rfl rfl rfl) rfl rfl rfl (VO.wk0 (Wk.put Tryz.sizeOf39 rfl rfl rfl rfl bf_8 rfl) rfl rfl ?_))
  intro _ w9 Z9
  have c9 := Z9.ch; have z9 := Z9.size
  have bf_9 := Bk.put Z9
  refine VO.nil (VQ.then_code (VC.seq (VC.region (VO.mv (Rn.move rfl) rfl rfl rfl (VO.mv (Rn.move rfl) rfl rfl rfl (VO.mv (Rn.nilCheck rfl) rfl rfl rfl (VO.mv (Rn.field Tryz.underlying107 rfl Tryz.sizeOf39 rfl rfl rfl) rfl rfl rfl ?_)))))))
  refine VO.mv (Rn.load Tryz.isAgg39 rfl (bf_9.cell rfl)) rfl rfl rfl (VO.mv (Rn.len Tryz.underlying39 rfl) rfl rfl rfl ?_)
  refine VO.mv (Rn.sub rfl rfl (by rw [IntKind.wrap_i64]; omega)) rfl rfl rfl ?_
  refine VO.wk (Wk.mkC Tryz.underlying39 inf53w74 rfl rfl (by omega) (by omega) (by omega)) rfl rfl rfl ?_
  rintro _ w10 ⟨p10, rfl, o10, c10, e10, z10⟩
  refine VO.mv (Rn.nilCheck rfl) rfl rfl rfl (VO.mv (Rn.field Tryz.underlying107 rfl Tryz.sizeOf39 rfl rfl rfl) rfl rfl rfl ?_)
  have bf_10 := bf_9.keep c10
  refine VO.wk0 (Wk.put Tryz.sizeOf39 rfl rfl rfl rfl bf_10 rfl) rfl rfl ?_
  intro _ w11 Z11
  have c11 := Z11.ch; have z11 := Z11.size
  have bf_11 := Bk.put Z11
  refine VO.nil (VQ.then_code (VC.seq (VC.region (VO.mv (Rn.move rfl) rfl rfl rfl (VO.mv (Rn.assign rfl) rfl rfl rfl (VO.mv (Rn.assign rfl) rfl rfl rfl (VO.nil ?_)))))))
  refine VQ.then_code (VC.ret (VQ.ret2 rfl rfl rfl (Ret.mk ?_)))
  have e9 : r = 0 := by omega
  have e7 : 0 + h = r + h := by omega
  have e6 : N = p := by omega
  have ou_8 := o1.to c8 (by first | exact fun _ _ _ _ => id | (intro q h1 h2 hx h3; omega))
  have ou_9 := ou_8.to c9 (by first | exact fun _ _ _ _ => id | (intro q h1 h2 hx h3; omega))
  have ou_10 := ou_9.keep c10
  have ou_11 := ou_10.to c11 (by first | exact fun _ _ _ _ => id | (intro q h1 h2 hx h3; omega))
  have o9 := ou_11; rw [e7, List.nil_append] at o9
  have CH_1 : Ch (Is pf) w w1 := (Ch.refl (Is pf) w).then c1 (by intro q h1 h2; rcases h2 with h2 | h2 <;> first | exact h2 | (exfalso; omega) | omega)
  have CH_8 : Ch (Is pf) w w8 := CH_1.then c8 (by intro q h1 h2; rcases h2 with h2 | h2 <;> first | exact h2 | (exfalso; omega) | omega)
  have CH_9 : Ch (Is pf) w w9 := CH_8.then c9 (by intro q h1 h2; rcases h2 with h2 | h2 <;> first | exact h2 | (exfalso; omega) | omega)
  have CH_10 := CH_9.and c10
  have CH_11 : Ch (Is pf) w w11 := CH_10.then c11 (by intro q h1 h2; rcases h2 with h2 | h2 <;> first | exact h2 | (exfalso; omega) | omega)
  exact ⟨_, _, _, cs, congrArg (fun m => Value.tuple #[.slice A1 m k1, .nilIface]) e7, o9, (by rw [e9, Nat.zero_add, e6]; exact hcs), by omega, CH_11⟩
set_option maxHeartbeats 4000000 in
set_option maxRecDepth 100000 in
theorem st_Whole (SX SY : Nat → Prop) (X Y : Option Addr) (h L N xc yc : Nat) (us vs xs2 ys2 : Nat → Int) (ts zs : List CB) (w : World) (sx : SlR SX w X (h + 1) 1 (ts.map cxV)) (sy : SlR SY w Y N 1 (zs.map cxV)) (hX : ∀ q, SX q → q < w.heap.size) (hY : ∀ q, SY q → q < w.heap.size) (hl : 1 ≤ L ∧ h + L ≤ 4) (hN : 1 ≤ N ∧ N ≤ 1000) (ht : WhU (h + 1) xs2 ys2 (h + 1) ts) (hz : WhU N us vs N zs) (h1 : B17 us vs) (h2 : B17 xs2 ys2) (ho2 : ∀ j, h + 1 ≤ j → xs2 j = 0 ∧ ys2 j = 0) (st : StT w) (tab : TabB w.heap.size w) (hG : 12 ≤ w.heap.size) :
  Calls Tryz.prog 37 #[.slice X (h + 1) xc, .int .i64 L, .slice Y N yc] w (Ret (fun v w' => ∃ A c ro os, v = .tuple #[.slice A (N + h) c, .nilIface] ∧ CR 53 w' ro A (N + h) c os ∧ WhU (N + h) (lin (h + 1) (fR us vs xs2 ys2) N) (lin (h + 1) (fI us vs xs2 ys2) N) (N + h) os ∧ Ch No w w')) := by
 refine calls_of_VC (args := [.slice X (h + 1) xc, .int .i64 L, .slice Y N yc]) Tryz.func37 rfl Tryz.ntmps37 rfl (VC.seq (VC.region (VO.mv (Rn.assign rfl) rfl rfl rfl (VO.mv (Rn.assign rfl) rfl rfl rfl (VO.nil (VQ.then_code (VC.seq ?_)))))))
 refine VC.region (VO.mv (Rn.move rfl) rfl rfl rfl (VO.mv (Rn.move rfl) rfl rfl rfl ?_))
 refine VO.wk (Wk.call Tryz.call65 rfl (st_New _ _ h L _ xs2 ys2 ts _ sx (fun q hq => by have := hX q hq; omega) hl ht h2 ho2 st ((tab).up (by omega)) (by omega))) rfl rfl rfl ?_
 rintro _ w1 ⟨pf, pp, plo, phi, PP, n, TA, tc, PA, pk, rp, qc, ps, rfl, hn3, hLh, bf1, pl1, hL, pw1, htP, cy1, hdd, c1⟩
 obtain ⟨hd1, hd2, hd3, hd4, hd5, hd6, hd7⟩ := hdd
 have ypf := bf1.lt; have ypw := Ow.lt pw1; have ycy := Ow.lt cy1
 have z1 := c1.size
 refine VO.mv (Rn.move rfl) rfl rfl rfl (VO.mv (Rn.extract rfl rfl) rfl rfl rfl (VO.mv (Rn.extract rfl rfl) rfl rfl rfl (VO.mv (Rn.assign rfl) rfl rfl rfl (VO.mv (Rn.assign rfl) rfl rfl rfl (VO.nil (VQ.then_code (VC.seq ?_)))))))
 refine VC.seq (VC.region (VO.mv (Rn.move rfl) rfl rfl rfl (VO.mv (Rn.nil_neq_nil Tryz.underlying29 rfl) rfl rfl rfl (VO.nil (VQ.then_code (VC.cond_false rfl (VC.skip ?_)))))))
 refine VQ.then_code (VC.seq (VC.region (VO.mv (Rn.move rfl) rfl rfl rfl (VO.mv (Rn.move rfl) rfl rfl rfl ?_))))
 have sy_1 := sy.keep c1
 have st_1 := st.keep c1
 refine VO.wk (Wk.call Tryz.call66 rfl (st_Push pf pp _ _ PP n h L _ _ _ _ _ qc _ _ N _ us vs xs2 ys2 zs ps _ bf1 pl1 (by omega) hL pw1 htP cy1 sy_1 (fun q hq => by have := hY q hq; omega) hN hz (by omega) ⟨by omega, by omega⟩ h1 h2 ho2 (by omega) (by omega) (by omega) st_1 (by omega))) rfl rfl rfl ?_
 rintro _ w2 ⟨p, OA, oc, ro, os, WA, wc, rw_, CA, cc, rc, cs, rfl, hpN, out2, hos, bf2, wt2, cy2, hcs, hdp, c2⟩
 obtain ⟨hdp1, hdp2, hdp3, hdp4⟩ := hdp
 have yout := Ow.lt out2; have ywt := Ow.lt wt2; have ycy2 := Ow.lt cy2
 have z2 := c2.size
 refine VO.mv (Rn.move rfl) rfl rfl rfl (VO.mv (Rn.extract rfl rfl) rfl rfl rfl (VO.mv (Rn.extract rfl rfl) rfl rfl rfl (VO.mv (Rn.assign rfl) rfl rfl rfl (VO.mv (Rn.assign rfl) rfl rfl rfl (VO.nil (VQ.then_code (VC.seq ?_)))))))
 refine VC.seq (VC.region (VO.mv (Rn.move rfl) rfl rfl rfl (VO.mv (Rn.nil_neq_nil Tryz.underlying29 rfl) rfl rfl rfl (VO.nil (VQ.then_code (VC.cond_false rfl (VC.skip ?_)))))))
 refine VQ.then_code (VC.seq (VC.region (VO.mv (Rn.move rfl) rfl rfl rfl ?_)))
 have pl_2 := pl1.to c2 (by first | exact fun _ _ _ _ => id | (intro q h1 h2 hx h3; omega))
 have pw_2 := pw1.to c2 (by first | exact fun _ _ _ _ => id | (intro q h1 h2 hx h3; omega))
 have st_2 := st_1.to c2 (by first | exact fun _ _ _ _ => id | (intro q h1 h2 hx h3; omega))
 refine VO.wk (Wk.call Tryz.call67 rfl (st_Flush pf pp _ _ PP n h L _ _ _ _ _ p (N - p) N _ _ _ _ _ _ us vs xs2 ys2 (zs.drop p) ps cs _ bf2 pl_2 (by omega) hL pw_2 htP wt2 ((hz.drop (m := p) (by omega)).cast (fun i hi => pcF_in i hi)) cy2 hcs ⟨by omega, by omega, by omega⟩ (by omega) (by omega) ⟨by omega, by omega⟩ h1 h2 ho2 (by omega) (by omega) (by omega) st_2 (by omega))) rfl rfl rfl ?_
 rintro _ w3 ⟨FA, fc, rf, of_, rfl, fl3, hfl, hrf, c3⟩
 have yfl := Ow.lt fl3
 have z3 := c3.size
 refine VO.mv (Rn.move rfl) rfl rfl rfl (VO.mv (Rn.extract rfl rfl) rfl rfl rfl (VO.mv (Rn.extract rfl rfl) rfl rfl rfl (VO.mv (Rn.assign rfl) rfl rfl rfl (VO.mv (Rn.assign rfl) rfl rfl rfl (VO.nil (VQ.then_code (VC.seq ?_)))))))
 refine VC.seq (VC.region (VO.mv (Rn.move rfl) rfl rfl rfl (VO.mv (Rn.nil_neq_nil Tryz.underlying29 rfl) rfl rfl rfl (VO.nil (VQ.then_code (VC.cond_false rfl (VC.skip ?_)))))))
 refine VQ.then_code (VC.seq (VC.region (VO.mv (Rn.move rfl) rfl rfl rfl (VO.mv (Rn.move rfl) rfl rfl rfl ?_))))
 have out_3 := out2.to c3 (by first | exact fun _ _ _ _ => id | (intro q h1 h2 hx h3; omega))
 refine VO.wk (Wk.append (S := _) Tryz.underlying39 inf53w74 rfl (by decide) rfl rfl out_3 fl3.sl (cx_one _) (fun _ h9 => Ow.nilc fl3 h9) (by omega) (by simp only [maxLen]; omega)) rfl rfl rfl ?_
 rintro _ w4 ⟨r4, A4, k4, rfl, o4, c4, q4⟩
 have z4 := c4.size
 have y4 := o4.lt
 refine VO.mv (Rn.assign rfl) rfl rfl rfl (VO.mv (Rn.assign rfl) rfl rfl rfl (VO.nil (VQ.then_code (VC.ret (VQ.ret2 rfl rfl rfl (Ret.mk ?_))))))
 have e9 : p + (N - p + h) = N + h := by omega
 have o9 := o4; rw [e9] at o9
 have u9 := hos.app hfl; rw [e9] at u9
 have CH_1 := (Ch.refl (No) w).and c1
 have CH_2 : Ch (No) w w2 := CH_1.then c2 (by intro q h1 h2; rcases h2 with h2 | h2 <;> first | exact h2 | (exfalso; omega) | omega)
 have CH_3 : Ch (No) w w3 := CH_2.then c3 (by intro q h1 h2; rcases h2 with h2 | h2 <;> first | exact h2 | (exfalso; omega) | omega)
 have CH_4 : Ch (No) w w4 := CH_3.then c4 (by intro q h1 h2; rcases h2 with h2 | h2 <;> first | exact h2 | (exfalso; omega) | omega)
 exact ⟨_, _, _, os ++ of_, congrArg (fun m => Value.tuple #[.slice A4 m k4, .nilIface]) e9, (by show Ow _ _ _ _ _ _ _ _; rw [List.map_append]; exact o9), u9, CH_4⟩
end Go.Tm
namespace Go.Tm
open Go.RowKit Go.Proofs
def wq (M : Int) (ls : List Int) (i : Nat) : Gs := ((ls.getD (2 * i) 0).tmod M, (ls.getD (2 * i + 1) 0).tmod M)
def wcM (M : Int) (ls : List Int) (h : Nat) : List CB := (List.range h).map (fun i => (FloatKind.f64.nearest (wq M ls i).1, FloatKind.f64.nearest (wq M ls i).2))
def wu (M : Int) (ls : List Int) (h j : Nat) : Int := if j < h then (wq M ls j).1 else 0
def wv (M : Int) (ls : List Int) (h j : Nat) : Int := if j < h then (wq M ls j).2 else 0
theorem tmM {M : Int} (hM : 0 < M) (x : Int) : -M < x.tmod M ∧ x.tmod M < M := by
  have h1 := Int.tmod_lt_of_pos x hM
  have h2 := Int.tmod_lt_of_pos (-x) hM
  rw [Int.neg_tmod] at h2
  omega
theorem wcM_succ (M : Int) (ls : List Int) (h : Nat) : (wcM M ls (h + 1)).map cxV = (wcM M ls h).map cxV ++ [.complex .f64 (FloatKind.f64.nearest (wq M ls h).1) (FloatKind.f64.nearest (wq M ls h).2)] := by simp [wcM, List.range_succ]
theorem wq_bd {M : Int} (hM : 0 < M) (ls : List Int) (i : Nat) : (-M < (wq M ls i).1 ∧ (wq M ls i).1 < M) ∧ -M < (wq M ls i).2 ∧ (wq M ls i).2 < M := ⟨tmM hM _, tmM hM _⟩
theorem wcM_WhU {M : Int} (hM : 0 < M ∧ M ≤ 131072) (ls : List Int) (h : Nat) : WhU h (wu M ls h) (wv M ls h) h (wcM M ls h) := by
  refine ⟨by simp [wcM], fun k hk => ?_⟩
  have e : (wcM M ls h).getD k (0, 0) = (FloatKind.f64.nearest (wq M ls k).1, FloatKind.f64.nearest (wq M ls k).2) := by simp [wcM, List.getD, hk]
  have b := wq_bd hM.1 ls k
  rw [e, wu, wv, if_pos hk, if_pos hk]
  exact whC_int (sm_of (by omega) (by omega)) (sm_of (by omega) (by omega))
theorem wu_B17 {M : Int} (hM : 0 < M ∧ M ≤ 131072) (ls : List Int) (h : Nat) : B17 (wu M ls h) (wv M ls h) := fun j => by
  have b := wq_bd hM.1 ls j
  unfold wu wv; split <;> omega
theorem wu_out (M : Int) (ls : List Int) (h j : Nat) (hj : h ≤ j) : wu M ls h j = 0 ∧ wv M ls h j = 0 := by
  unfold wu wv; rw [if_neg (by omega), if_neg (by omega)]; exact ⟨rfl, rfl⟩
theorem wcM_take (M : Int) (ls : List Int) {h m : Nat} (hm : m ≤ h) : (wcM M ls h).take m = wcM M ls m := by
  unfold wcM
  rw [← List.map_take, List.take_range, Nat.min_eq_left hm]
theorem nsum_const {f : Nat → Nat} {B : Nat} (h : ∀ j, f j ≤ B) : ∀ n, nsum f n ≤ n * B
  | 0 => Nat.zero_le _
  | n + 1 => by have := nsum_const h n; have := h n; rw [nsum, Nat.succ_mul]; omega
theorem wu_GB {M : Int} {b : Nat} (hM : 0 < M ∧ M ≤ b) (ls : List Int) {h : Nat} (hh : h * (2 * b) ≤ 33554432) : GB (wu M ls h) (wv M ls h) h := ⟨by
  refine Nat.le_trans (nsum_const (B := 2 * b) (fun j => ?_) h) hh
  have b := wq_bd hM.1 ls j
  unfold wu wv; split <;> omega⟩
abbrev u11 : Nat → Int := fun j => if j < 2 then 1 else 0
abbrev u123 : Nat → Int := fun j => if j < 3 then (j : Int) + 1 else 0
abbrev L11 : List CB := [(4607182418800017408, 0), (4607182418800017408, 0)]
abbrev L123 : List CB := [(4607182418800017408, 0), (4611686018427387904, 0), (4613937818241073152, 0)]
abbrev L1353 : List CB := [(4607182418800017408, 0), (4613937818241073152, 0), (4617315517961601024, 0), (4613937818241073152, 0)]
theorem h11 : WhU 2 u11 no0 2 L11 := ⟨rfl, fun k hk => by
  match k, hk with
  | 0, _ => exact ⟨⟨false, by kernel_rfl, by decide⟩, ⟨false, by kernel_rfl, by decide⟩⟩
  | 1, _ => exact ⟨⟨false, by kernel_rfl, by decide⟩, ⟨false, by kernel_rfl, by decide⟩⟩⟩
theorem h123 : WhU 3 u123 no0 3 L123 := ⟨rfl, fun k hk => by
  match k, hk with
  | 0, _ => exact ⟨⟨false, by kernel_rfl, by decide⟩, ⟨false, by kernel_rfl, by decide⟩⟩
  | 1, _ => exact ⟨⟨false, by kernel_rfl, by decide⟩, ⟨false, by kernel_rfl, by decide⟩⟩
  | 2, _ => exact ⟨⟨false, by kernel_rfl, by decide⟩, ⟨false, by kernel_rfl, by decide⟩⟩⟩
theorem h1353 : WhU 4 (lin 2 (fR u123 no0 u11 no0) 3) (lin 2 (fI u123 no0 u11 no0) 3) 4 L1353 := ⟨rfl, fun k hk => by
  match k, hk with
  | 0, _ => exact ⟨⟨false, by kernel_rfl, by decide⟩, ⟨false, by kernel_rfl, by decide⟩⟩
  | 1, _ => exact ⟨⟨false, by kernel_rfl, by decide⟩, ⟨false, by kernel_rfl, by decide⟩⟩
  | 2, _ => exact ⟨⟨false, by kernel_rfl, by decide⟩, ⟨false, by kernel_rfl, by decide⟩⟩
  | 3, _ => exact ⟨⟨false, by kernel_rfl, by decide⟩, ⟨false, by kernel_rfl, by decide⟩⟩⟩
theorem sm1353 (j : Nat) (hj : j < 4) : Sm (lin 2 (fR u123 no0 u11 no0) 3 j) ∧ Sm (lin 2 (fI u123 no0 u11 no0) 3 j) := by
  match j, hj with
  | 0, _ => unfold Sm; decide
  | 1, _ => unfold Sm; decide
  | 2, _ => unfold Sm; decide
  | 3, _ => unfold Sm; decide
theorem b11 : B17 u11 no0 := fun j => by unfold u11 no0; split <;> omega
theorem b123 : B17 u123 no0 := fun j => by unfold u123 no0; split <;> omega
theorem o11 (j : Nat) (h : 2 ≤ j) : u11 j = 0 ∧ no0 j = 0 := ⟨by unfold u11; rw [if_neg (by omega)], rfl⟩
theorem WhU.eqs {n : Nat} {f g : Nat → Int} {xs ys : List CB} (h1 : WhU n f g n xs) (h2 : WhU n f g n ys) (hs : ∀ j, j < n → Sm (f j) ∧ Sm (g j)) (j : Nat) (hj : j < n) : ceq (xs.getD j (0, 0)) (ys.getD j (0, 0)) = true :=
  ceq_true (h1.get j hj) (h2.get j hj) (hs j hj).1 (hs j hj).2
theorem lin_smB {us vs xs ys : Nat → Int} (h1 : B17 us vs) (h2 : B17 xs ys) {m p : Nat} (hp : p ≤ 1000) (K : Nat) : Sm (lin m (fR us vs xs ys) p K) ∧ Sm (lin m (fI us vs xs ys) p K) := by
  have b := lin_bdB (m := m) (K := K) h1 h2 hp
  exact ⟨sm_of (by omega) (by omega), sm_of (by omega) (by omega)⟩
theorem Rn.minTo {P : Program} {n : Fr} {k : K} {w : World} {d : Option Tmp} {ty : TypeId} {pos : String} {aft : Array Edge} {g : Option (Nat × Bool)} {t t' : TypeId} {x y : Operand} {q : IntKind} {a b r : Int} (hx : ev k x = some (.int q a)) (hy : ev k y = some (.int q b)) (h : (if b < a then b else a) = r) :
    Rn P n k w { dst := d, op := .call { callee := .builtin .min, args := #[x, y], argTypes := #[t, t'] }, type := ty, pos := pos, after := aft, guard := g } (.int q r) := h ▸ Rn.minI hx hy
theorem Rn.sliceHiTo {P : Program} {n : Fr} {k : K} {w : World} {d : Option Tmp} {ty : TypeId} {pos : String} {aft : Array Edge} {g : Option (Nat × Bool)} {t e : TypeId} {sz l c l' : Nat} {A : Option Addr} {x y : Operand} {q : IntKind} {i : Int} (ht : P.underlying t = some (.slice e)) (hz : ∀ w, (sizeOf e).run P w = .ok sz w) (hx : ev k x = some (.slice A l c)) (hy : ev k y = some (.int q i)) (h0 : 0 ≤ i) (h1 : i ≤ c) (hl : i.toNat = l') :
    Rn P n k w { dst := d, op := .slice t x none (some y) none, type := ty, pos := pos, after := aft, guard := g } (.slice A l' c) := hl ▸ Rn.sliceHi ht hz hx hy h0 h1
set_option maxRecDepth 100000 in
theorem inf53w75 : Inf Tryz.prog 53 (.complex .f64 0 0) 1 16 := ⟨Tryz.t53, Tryz.type53, rfl, rfl, rfl⟩
set_option maxHeartbeats 2000000 in
set_option maxRecDepth 100000 in
theorem hand_Whole (M : Int) (SX : Nat → Prop) (X : Option Addr) (m xc : Nat) (ls : List Int) (w : World) (sx : SlR SX w X m 1 (ls.map IV)) (hX : ∀ q, SX q → q < w.heap.size) (hm : m ≤ 1000) (hM : 0 < M ∧ M ≤ 131072) :
  Calls Tryz.prog 36 #[.slice X m xc, .int .i64 M] w (Ret (fun v w' => ∃ r A c, v = .slice A (m / 2) c ∧ CR 53 w' r A (m / 2) c (wcM M ls (m / 2)) ∧ w.heap.size < r ∧ Ch No w w')) := by
 refine calls_of_VC (args := [.slice X m xc, .int .i64 M]) Tryz.func36 rfl Tryz.ntmps36 rfl (VC.seq (VC.region (VO.mv (Rn.assign rfl) rfl rfl rfl (VO.nil (VQ.then_code (VC.seq (VC.region ?_)))))))
 refine VO.wk (Wk.lit0 Tryz.underlying39 inf53w75) rfl rfl rfl ?_
 rintro _ w1 ⟨p1, rfl, N1⟩
 have c1 := N1.ch
 have e1 := N1.p; have z1 := N1.size
 have l7o := Ow.of_new (cs := []) (sz := 1) (l := 0) N1 rfl (by decide)
 refine VO.mv (Rn.assign rfl) rfl rfl rfl (VO.nil (VQ.then_code (VC.seq (VC.seq (VC.region (VO.mv (Rn.assign rfl) rfl rfl rfl (VO.nil ?_)))))))
 refine VQ.then_code (VC.block ?_)
 have sx_1 := sx.keep c1
 have CH_1 := (Ch.refl (No) w).and c1
 refine VC.loopS (σ := Nat × Int × Nat × Option Addr × Nat) (fun (j, i, r1, A1, c1) => [(0, .slice X m xc), (1, .int .i64 M), (5, .slice A1 j c1), (6, .int .i64 i)]) (fun (j, i, r1, A1, c1) w' => i = 2 * (j : Int) ∧ 2 * j ≤ m ∧ w.heap.size < r1 ∧ w1.heap.size ≤ w'.heap.size ∧ Ow w' r1 53 1 A1 j c1 ((wcM M ls j).map cxV) ∧ SlR SX w' X m 1 (ls.map IV) ∧ Ch (No) w w') (fun (j, i, r1, A1, c1) => m - 2 * j) (0, 0, (p1 + 1), (some ⟨p1, 0, none⟩), 0) ?_ ⟨rfl, rfl, rfl, rfl, trivial⟩ ?_
 · exact ⟨rfl, (by omega), (by omega), (Nat.le_refl _), l7o, sx_1, CH_1⟩
 rintro ⟨j, i, r1, A1, c1⟩ w2 ⟨hi, hj, hr1, hsz2, row_2, sx_2, CH_2⟩
 show VC _ _ _ _ [(0, .slice X m xc), (1, .int .i64 M), (5, .slice A1 j c1), (6, .int .i64 i)] _
 have yr9 := Ow.lt row_2
 have et1 : i.toNat = 2 * j := by omega
 have et2 : (i + 1).toNat = 2 * j + 1 := by omega
 refine VC.seq (VC.seq (VC.region (VO.mv (Rn.move rfl) rfl rfl rfl ?_)))
 refine VO.mv (Rn.add rfl rfl (by rw [IntKind.wrap_i64]; omega)) rfl rfl rfl ?_
 refine VO.mv (Rn.move rfl) rfl rfl rfl (VO.mv (Rn.len Tryz.underlying36 rfl) rfl rfl rfl (VO.mv (Rn.lss rfl rfl) rfl rfl rfl (VO.nil (VQ.then_code (VC.cond_if rfl (fun hc1 => ?_) (fun hc1 => ?_))))))
 ·
  refine VC.skip (VQ.then_code (VC.seq (VC.block (VC.draws 19 [(0, true), (1, true), (2, true), (3, true), (4, true), (5, true), (6, true), (7, true), (8, true), (9, true), (10, true), (11, true), (12, true), (13, true), (14, true), (15, true), (16, true), (17, false), (18, false)] (fun w1 w' => Ch (At r1) w1 w') mixed (by kernel_rfl) (fun _ _ => Ch.refl _ _) ?_))))
  intro w3 D3
  have c3 := Ch.of_drew D3; have z3 := c3.size
  have sx_3 := sx_2.keep c3
  have row_3 := row_2.keep c3
  refine VH.mv (fun w' hS => Rn.move rfl) rfl rfl rfl rfl (VH.mv (fun w' hS => Rn.move rfl) rfl rfl rfl rfl (VH.mv (fun w' hS => Rn.move rfl) rfl rfl rfl rfl ?_))
  refine VH.mv (fun w' hS => Rn.indexS Tryz.underlying36 Tryz.sizeOf3 rfl rfl ((sx_3.to hS (by first | exact fun _ _ _ _ => id | (intro q h1 h2 hx h3; have := hX q h2; omega))).ne (by omega)) (by omega) (by omega)) rfl rfl rfl rfl ?_
  refine VH.mv (fun w' hS => Rn.load Tryz.isAgg3 rfl (((sx_3).to hS (by first | exact fun _ _ _ _ => id | (intro q h1 h2 hx h3; have := hX q h2; omega))).getI (by omega) (by omega))) rfl rfl rfl rfl ?_
  refine VH.mv (fun w' hS => Rn.move rfl) rfl rfl rfl rfl (VH.mv (fun w' hS => Rn.rem rfl rfl (by omega)) rfl rfl rfl rfl (VH.mv (fun w' hS => Rn.conv_if Tryz.underlying3 Tryz.underlying25 rfl) rfl rfl rfl rfl (VH.mv (fun w' hS => Rn.move rfl) rfl rfl rfl rfl (VH.mv (fun w' hS => Rn.move rfl) rfl rfl rfl rfl ?_))))
  refine VH.mv (fun w' hS => Rn.add rfl rfl (by rw [IntKind.wrap_i64]; omega)) rfl rfl rfl rfl ?_
  refine VH.mv (fun w' hS => Rn.indexS Tryz.underlying36 Tryz.sizeOf3 rfl rfl ((sx_3.to hS (by first | exact fun _ _ _ _ => id | (intro q h1 h2 hx h3; have := hX q h2; omega))).ne (by omega)) (by omega) (by omega)) rfl rfl rfl rfl ?_
  refine VH.mv (fun w' hS => Rn.load Tryz.isAgg3 rfl (((sx_3).to hS (by first | exact fun _ _ _ _ => id | (intro q h1 h2 hx h3; have := hX q h2; omega))).getI (by omega) (by omega))) rfl rfl rfl rfl ?_
  refine VH.mv (fun w' hS => Rn.move rfl) rfl rfl rfl rfl (VH.mv (fun w' hS => Rn.rem rfl rfl (by omega)) rfl rfl rfl rfl (VH.mv (fun w' hS => Rn.conv_if Tryz.underlying3 Tryz.underlying25 rfl) rfl rfl rfl rfl (VH.mv (fun w' hS => Rn.complex rfl rfl) rfl rfl rfl rfl (VH.wk (Wk.lit Tryz.underlying39 inf53w75 (by decide) rfl rfl (by rfl) (by decide) (by decide) (by rfl)) rfl rfl rfl rfl ?_))))
  rintro _ w4 ⟨p4, rfl, N4⟩
  have c4 := N4.ch
  have e4 := N4.p; have z4 := N4.size
  have l32 := SlR.of_new (sz := 1) (l := 1) N4 rfl
  have l32o := Ow.of_new (sz := 1) (l := 1) N4 rfl (by decide)
  have RD_4 := (Ch.refl (At r1) w3).and c4
  refine ⟨RD_4, ?_⟩
  have row_4 := row_3.keep c4
  refine VH.wk (Wk.append (S := _) Tryz.underlying39 inf53w75 rfl (by decide) rfl rfl row_4 l32 (by rfl) (fun h => by simp at h) (by omega) (by simp only [maxLen]; omega)) rfl rfl rfl rfl ?_
  rintro _ w5 ⟨r5, A5, k5, rfl, o5, c5, q5⟩
  have z5 := c5.size
  have y5 := o5.lt
  have RD_5 : Ch (At r1) w3 w5 := RD_4.then c5 (by intro q h1 h2; rcases h2 with h2 | h2 <;> first | exact h2 | (exfalso; omega) | omega)
  refine ⟨RD_5, ?_⟩
  refine VH.done (VO.mv (Rn.assign rfl) rfl rfl rfl (VO.nil (VQ.noPanic (VQ.block_normal (VQ.then_code (VC.region (VO.mv (Rn.move rfl) rfl rfl rfl ?_)))))))
  refine VO.mv (Rn.add rfl rfl (by rw [IntKind.wrap_i64]; omega)) rfl rfl rfl ?_
  refine VO.mv (Rn.assign rfl) rfl rfl rfl (VO.nil ?_)
  refine VQ.round (j + 1, i + 2, r5, A5, k5) (by first | omega | (dsimp only; omega)) ?_ ⟨rfl, rfl, rfl, rfl, trivial⟩
  have sx_4 := sx_3.keep c4
  have sx_5 := sx_4.to c5 (by first | exact fun _ _ _ _ => id | (intro q h1 h2 hx h3; have := hX q h2; omega))
  have CH_4 := CH_2.and (c3.trans c4)
  have CH_5 : Ch (No) w w5 := CH_4.then c5 (by intro q h1 h2; rcases h2 with h2 | h2 <;> first | exact h2 | (exfalso; omega) | omega)
  exact ⟨(by omega), (by omega), (by omega), (by omega), (by rw [wcM_succ]; have h9 := o5; rw [et1, et2] at h9; exact h9), sx_5, CH_5⟩
 ·
  refine VC.exit (VQ.then_exit (VQ.then_exit (VQ.block_exit (VQ.then_code (VC.seq (VC.region (VO.mv (Rn.move rfl) rfl rfl rfl ?_)))))))
  refine VO.mv (Rn.assign rfl) rfl rfl rfl (VO.nil (VQ.then_code (VC.ret (VQ.ret1 rfl rfl (Ret.mk ?_)))))
  obtain rfl : j = m / 2 := by omega
  exact ⟨_, _, _, rfl, row_2, hr1, CH_2⟩
set_option maxHeartbeats 1000000 in
set_option maxRecDepth 100000 in
theorem law28_lives (w : World) (st : StT w) (tab : TabB w.heap.size w) (hG : 12 ≤ w.heap.size) :
  Calls Tryz.prog 35 #[] w (Ret (fun v w' => v = .bool true ∧ Ch No w w')) := by
 refine calls_of_VC (args := []) Tryz.func35 rfl Tryz.ntmps35 rfl (VC.seq (VC.region (VO.mv (Rn.assign rfl) rfl rfl rfl (VO.nil (VQ.then_code (VC.seq (VC.region ?_)))))))
 refine VO.wk (Wk.lit Tryz.underlying39 inf53w75 (by decide) rfl rfl (by rfl) (by decide) (by decide) (by rfl)) rfl rfl rfl ?_
 rintro _ w1 ⟨p1, rfl, N1⟩
 have c1 := N1.ch
 have e1 := N1.p; have z1 := N1.size
 have l4 := SlR.of_new (sz := 1) (l := 2) N1 rfl
 have l4o := Ow.of_new (sz := 1) (l := 2) N1 rfl (by decide)
 refine VO.wk (Wk.lit Tryz.underlying39 inf53w75 (by decide) rfl rfl (by rfl) (by decide) (by decide) (by rfl)) rfl rfl rfl ?_
 rintro _ w2 ⟨p2, rfl, N2⟩
 have c2 := N2.ch
 have e2 := N2.p; have z2 := N2.size
 have l5 := SlR.of_new (sz := 1) (l := 3) N2 rfl
 have l5o := Ow.of_new (sz := 1) (l := 3) N2 rfl (by decide)
 have l4_2 := l4.keep c2
 have st_2 := st.keep (c1.trans c2)
 have tab_2 := tab.keep (c1.trans c2)
 refine VO.wk (Wk.call Tryz.call37 rfl (st_Whole _ _ _ _ 1 2 3 _ _ u123 no0 u11 no0 L11 L123 _ l4_2 l5 (fun q hq => by omega) (fun q hq => by omega) ⟨by decide, by decide⟩ ⟨by decide, by decide⟩ h11 h123 b123 b11 o11 st_2 ((tab_2).up (by omega)) (by omega))) rfl rfl rfl ?_
 rintro _ w3 ⟨A3, c3', ro3, os3, rfl, sw3, hsw, c3⟩
 have ysw3 := Ow.lt sw3
 have z3 := c3.size
 refine VO.mv (Rn.move rfl) rfl rfl rfl (VO.mv (Rn.extract rfl rfl) rfl rfl rfl (VO.mv (Rn.extract rfl rfl) rfl rfl rfl (VO.mv (Rn.assign rfl) rfl rfl rfl (VO.mv (Rn.assign rfl) rfl rfl rfl (VO.nil (VQ.then_code (VC.seq ?_)))))))
 refine VC.region (VO.mv (Rn.move rfl) rfl rfl rfl (VO.mv (Rn.nil_eql_nil Tryz.underlying29 rfl) rfl rfl rfl (VO.mv (Rn.move rfl) rfl rfl rfl (VO.mv (Rn.move rfl) rfl rfl rfl (VO.wk (Wk.lit Tryz.underlying39 inf53w75 (by decide) rfl rfl (by rfl) (by decide) (by decide) (by rfl)) rfl rfl rfl ?_)))))
 rintro _ w4 ⟨p4, rfl, N4⟩
 have c4 := N4.ch
 have e4 := N4.p; have z4 := N4.size
 have l13 := SlR.of_new (sz := 1) (l := 4) N4 rfl
 have l13o := Ow.of_new (sz := 1) (l := 4) N4 rfl (by decide)
 have sw_4 := sw3.keep c4
 refine VO.wk (Wk.call Tryz.call19 rfl (hand_Equal _ _ _ _ 4 4 _ _ _ L1353 _ (sw_4).sl l13 rfl (by omega) (WhU.eqs hsw h1353 sm1353))) rfl rfl rfl ?_
 rintro _ w5 ⟨rfl, c5⟩
 have z5 := c5.size
 refine VO.mv (Rn.pick_true rfl rfl) rfl rfl rfl (VO.mv (Rn.assign rfl) rfl rfl rfl (VO.nil (VQ.then_code (VC.ret (VQ.ret1 rfl rfl (Ret.mk ?_))))))
 have CH_5 := (Ch.refl (No) w).and (c1.trans (c2.trans (c3.trans (c4.trans c5))))
 exact ⟨rfl, CH_5⟩
set_option maxHeartbeats 4000000 in
set_option maxRecDepth 100000 in
theorem law_StreamExact (SX : Nat → Prop) (X Y : Option Addr) (b : Int) (m m2 xc yc : Nat) (ls qs : List Int) (w : World) (sx : SlR SX w X m 1 (ls.map IV)) (sy : SlR SX w Y m2 1 (qs.map IV)) (hX : ∀ q, SX q → q < w.heap.size) (hm : m ≤ 9223372036854775807) (hm2 : m2 ≤ 9223372036854775807) (hcx : m ≤ xc) (hcy : m2 ≤ yc) (st : StT w) (tab : TabB w.heap.size w) (hG : 12 ≤ w.heap.size) :
  Calls Tryz.prog 7 #[.slice X m xc, .slice Y m2 yc, .int .i64 b] w (Ret (fun v w' => v = .bool true ∧ Ch No w w')) := by
 obtain ⟨m8, hm8⟩ : ∃ k : Nat, (if (8 : Int) < (m : Int) then (8 : Int) else (m : Int)) = (k : Int) := by
  split; exact ⟨8, rfl⟩; exact ⟨m, rfl⟩
 have hu0 : 0 ≤ IntKind.u64.wrap b % 4 ∧ IntKind.u64.wrap b % 4 < 4 := by omega
 obtain ⟨L, hL⟩ : ∃ L : Nat, 1 + IntKind.u64.wrap b % 4 = (L : Int) := ⟨(1 + IntKind.u64.wrap b % 4).toNat, by omega⟩
 obtain ⟨h, hh⟩ : ∃ h, h = min (m8 / 2) (5 - L) - 1 := ⟨_, rfl⟩
 refine calls_of_VC (args := [.slice X m xc, .slice Y m2 yc, .int .i64 b]) Tryz.func7 rfl Tryz.ntmps7 rfl (VC.seq (VC.region (VO.mv (Rn.assign rfl) rfl rfl rfl (VO.nil (VQ.then_code (VC.seq (VC.region ?_)))))))
 refine VO.wk (Wk.call Tryz.call35 rfl (law28_lives _ st ((tab).up (by omega)) (by omega))) rfl rfl rfl ?_
 rintro _ w1 ⟨rfl, c1⟩
 have z1 := c1.size
 refine VO.mv (Rn.assign rfl) rfl rfl rfl (VO.nil (VQ.then_code (VC.seq (VC.seq (VC.region (VO.mv (Rn.move rfl) rfl rfl rfl (VO.mv (Rn.not rfl) rfl rfl rfl ?_)))))))
 refine VO.mv (Rn.move rfl) rfl rfl rfl (VO.mv (Rn.move rfl) rfl rfl rfl (VO.mv (Rn.len Tryz.underlying36 rfl) rfl rfl rfl (VO.mv (Rn.lss rfl rfl) rfl rfl rfl (VO.mv (Rn.pick_false rfl rfl) rfl rfl rfl (VO.mv (Rn.move rfl) rfl rfl rfl ?_)))))
 refine VO.orJoin (b := _) 4 23 27 rfl (fun hc1 Jhc1 => by
   refine VO.skip rfl rfl rfl (VO.skip rfl rfl rfl (VO.skip rfl rfl rfl (VO.mv (Rn.pick_true rfl rfl) rfl rfl rfl ?_)))
   exact (VO.fg rfl (VO.fg rfl (VO.fg rfl Jhc1)))) (fun hc1 Jhc1 => by
   try simp only [Bool.and_eq_true, Bool.or_eq_true, Bool.not_eq_true', Bool.not_eq_false', Bool.and_eq_false_iff, Bool.or_eq_false_iff, decide_eq_true_eq, decide_eq_false_iff_not] at hc1
   refine VO.mv (Rn.move rfl) rfl rfl rfl (VO.mv (Rn.len Tryz.underlying36 rfl) rfl rfl rfl (VO.mv (Rn.lss rfl rfl) rfl rfl rfl (VO.mv (Rn.pick_false rfl rfl) rfl rfl rfl ?_)))
   exact (VO.fg rfl (VO.fg rfl (VO.fg rfl Jhc1)))) ?_
 refine VO.mv (Rn.move rfl) rfl rfl rfl ?_
 refine VO.orJoin (b := _) 4 28 32 rfl (fun hc2 Jhc2 => by
   refine VO.skip rfl rfl rfl (VO.skip rfl rfl rfl (VO.skip rfl rfl rfl (VO.mv (Rn.pick_true rfl rfl) rfl rfl rfl ?_)))
   exact (VO.fg rfl (VO.fg rfl (VO.fg rfl Jhc2)))) (fun hc2 Jhc2 => by
   try simp only [Bool.and_eq_true, Bool.or_eq_true, Bool.not_eq_true', Bool.not_eq_false', Bool.and_eq_false_iff, Bool.or_eq_false_iff, decide_eq_true_eq, decide_eq_false_iff_not] at hc2
   refine VO.mv (Rn.move rfl) rfl rfl rfl (VO.mv (Rn.len Tryz.underlying36 rfl) rfl rfl rfl (VO.mv (Rn.gtr rfl rfl) rfl rfl rfl (VO.mv (Rn.pick_false rfl rfl) rfl rfl rfl ?_)))
   exact (VO.fg rfl (VO.fg rfl (VO.fg rfl Jhc2)))) ?_
 refine VO.nil (VQ.then_code (VC.cond rfl (fun hc3 => ?_) (fun hc3 => ?_)))
 ·
  try simp only [Bool.and_eq_true, Bool.or_eq_true, Bool.not_eq_true', Bool.not_eq_false', Bool.and_eq_false_iff, Bool.or_eq_false_iff, decide_eq_true_eq, decide_eq_false_iff_not] at hc3
  refine VC.seq (VC.region (VO.mv (Rn.move rfl) rfl rfl rfl (VO.mv (Rn.assign rfl) rfl rfl rfl (VO.nil (VQ.then_code (VC.ret (VQ.then_ret ?_)))))))
  refine VQ.ret1 rfl rfl (Ret.mk ?_)
  have CH_1 := (Ch.refl (No) w).and c1
  exact ⟨rfl, CH_1⟩
 ·
  try simp only [Bool.and_eq_true, Bool.or_eq_true, Bool.not_eq_true', Bool.not_eq_false', Bool.and_eq_false_iff, Bool.or_eq_false_iff, decide_eq_true_eq, decide_eq_false_iff_not] at hc3
  refine VC.skip (VQ.then_code (VC.seq ?_))
  have hm8b : m8 ≤ m ∧ m8 ≤ 8 ∧ 2 ≤ m8 := by split at hm8 <;> omega
  have sx_1 := sx.keep c1
  have sq := (sx_1).hiI (i := m8) (by omega)
  refine VC.region (VO.mv (Rn.move rfl) rfl rfl rfl (VO.mv (Rn.move rfl) rfl rfl rfl (VO.mv (Rn.len Tryz.underlying36 rfl) rfl rfl rfl (VO.mv (Rn.minTo rfl rfl hm8) rfl rfl rfl (VO.mv (Rn.sliceHi Tryz.underlying36 Tryz.sizeOf3 rfl rfl (by omega) (by omega)) rfl rfl rfl ?_)))))
  refine VO.wk (Wk.call Tryz.call36 rfl (hand_Whole 65536 _ _ m8 _ _ _ sq (fun q hq => by have := hX q hq; omega) (by omega) (by decide))) rfl rfl rfl ?_
  rintro _ w2 ⟨r2, A2, k2, rfl, tp2, yr2, c2⟩
  have yw2 := Ow.lt tp2; have hc_tp := Ow.cap tp2 (by omega)
  have z2 := c2.size
  refine VO.mv (Rn.assign rfl) rfl rfl rfl (VO.nil (VQ.then_code (VC.seq (VC.region (VO.mv (Rn.move rfl) rfl rfl rfl ?_)))))
  have sy_2 := sy.keep (c1.trans c2)
  refine VO.wk (Wk.call Tryz.call36 rfl (hand_Whole 4096 _ _ m2 _ _ _ sy_2 (fun q hq => by have := hX q hq; omega) (by omega) (by decide))) rfl rfl rfl ?_
  rintro _ w3 ⟨r3, A3, k3, rfl, ip3, yr3, c3⟩
  have yw3 := Ow.lt ip3; have hc_ip := Ow.cap ip3 (by omega)
  have z3 := c3.size
  refine VO.mv (Rn.assign rfl) rfl rfl rfl (VO.nil (VQ.then_code (VC.seq (VC.region (VO.mv (Rn.move rfl) rfl rfl rfl (VO.mv (Rn.conv Tryz.underlying3 Tryz.underlying50 rfl) rfl rfl rfl ?_))))))
  refine VO.mv (Rn.rem0 rfl rfl (by rw [IntKind.wrap_u64]; omega) (by decide)) rfl rfl rfl ?_
  refine VO.mv (Rn.conv_in Tryz.underlying50 Tryz.underlying3 rfl (by rw [IntKind.wrap_i64]; omega)) rfl rfl rfl ?_
  refine VO.mv (Rn.add rfl rfl (by rw [IntKind.wrap_i64]; omega)) rfl rfl rfl ?_
  refine VO.mv (Rn.assign rfl) rfl rfl rfl (VO.nil (VQ.then_code ?_))
  rw [hL]
  have hh2 : h + 1 = min (m8 / 2) (5 - L) ∧ 1 ≤ L ∧ L ≤ 4 := by omega
  refine VC.cut (σ := Option Addr × Nat) (fun (TA, tc) => [(8, .slice TA (h + 1) tc), (9, .slice A3 (m2 / 2) k3), (10, .int .i64 L)]) (fun (TA, tc) w' => w3.heap.size ≤ w'.heap.size ∧ SlR (At r2) w' TA (h + 1) 1 ((wcM 65536 (ls.take m8) (h + 1)).map cxV) ∧ CR 53 w' r3 A3 (m2 / 2) k3 (wcM 4096 qs (m2 / 2)) ∧ StT w' ∧ TabB w.heap.size w' ∧ Ch No w w') ?_ ?_
  ·
   refine VC.seq (VC.region (VO.mv (Rn.move rfl) rfl rfl rfl (VO.mv (Rn.len Tryz.underlying39 rfl) rfl rfl rfl (VO.mv (Rn.move rfl) rfl rfl rfl ?_))))
   refine VO.mv (Rn.add rfl rfl (by rw [IntKind.wrap_i64]; omega)) rfl rfl rfl ?_
   refine VO.mv (Rn.gtr rfl rfl) rfl rfl rfl (VO.nil (VQ.then_code (VC.cond_if rfl (fun hc4 => ?_) (fun hc4 => ?_))))
   ·
    refine VC.region (VO.mv (Rn.move rfl) rfl rfl rfl (VO.mv (Rn.move rfl) rfl rfl rfl ?_))
    refine VO.mv (Rn.sub rfl rfl (by rw [IntKind.wrap_i64]; omega)) rfl rfl rfl ?_
    refine VO.mv (Rn.sliceHiTo (l' := h + 1) Tryz.underlying39 Tryz.sizeOf53 rfl rfl (by omega) (by omega) (by omega)) rfl rfl rfl (VO.mv (Rn.assign rfl) rfl rfl rfl (VO.nil (VQ.cut (A2, k2) ?_ ⟨rfl, rfl, rfl, trivial⟩)))
    have tp_3 := tp2.keep c3
    have st_3 := st.keep (c1.trans (c2.trans c3))
    have tab_3 := tab.keep (c1.trans (c2.trans c3))
    have CH_3 := (Ch.refl (No) w).and (c1.trans (c2.trans c3))
    exact ⟨by omega, (by have h9 := (tp_3).sl.hiC (i := h + 1) (by omega); rw [wcM_take _ _ (by omega)] at h9; exact h9), ip3, st_3, tab_3, CH_3⟩
   ·
    rw [show m8 / 2 = h + 1 by omega]
    refine VC.skip (VQ.cut (A2, k2) ?_ ⟨rfl, rfl, rfl, trivial⟩)
    have tp_3 := tp2.keep c3
    have st_3 := st.keep (c1.trans (c2.trans c3))
    have tab_3 := tab.keep (c1.trans (c2.trans c3))
    have CH_3 := (Ch.refl (No) w).and (c1.trans (c2.trans c3))
    exact ⟨by omega, (by have h9 := (tp_3).sl; rw [show m8 / 2 = h + 1 by omega] at h9; exact h9), ip3, st_3, tab_3, CH_3⟩
  rintro ⟨TA, tc⟩ w4 ⟨hszs, tf_4, ip_4, st_4, tab_4, CH_4⟩
  show VC _ _ _ _ [(8, .slice TA (h + 1) tc), (9, .slice A3 (m2 / 2) k3), (10, .int .i64 L)] _
  refine VC.seq (VC.region (VO.mv (Rn.move rfl) rfl rfl rfl (VO.mv (Rn.move rfl) rfl rfl rfl (VO.mv (Rn.move rfl) rfl rfl rfl (VO.wk (Wk.call Tryz.call37 rfl (st_Whole _ _ _ _ h L (m2 / 2) _ _ (wu 4096 qs (m2 / 2)) (wv 4096 qs (m2 / 2)) (wu 65536 (ls.take m8) (h + 1)) (wv 65536 (ls.take m8) (h + 1)) (wcM 65536 (ls.take m8) (h + 1)) (wcM 4096 qs (m2 / 2)) _ tf_4 (ip_4).sl (fun q hq => by omega) (fun q hq => by omega) ⟨by omega, by omega⟩ ⟨by omega, by omega⟩ (wcM_WhU (by decide) _ _) (wcM_WhU (by decide) _ _) (wu_B17 (by decide) _ _) (wu_B17 (by decide) _ _) (fun j hj => wu_out _ _ _ j hj) st_4 ((tab_4).up (by omega)) (by omega))) rfl rfl rfl ?_)))))
  rintro _ w5 ⟨A5, c5', ro5, os5, rfl, sw5, hsw, c5⟩
  have ysw5 := Ow.lt sw5
  have z5 := c5.size
  refine VO.mv (Rn.move rfl) rfl rfl rfl (VO.mv (Rn.extract rfl rfl) rfl rfl rfl (VO.mv (Rn.extract rfl rfl) rfl rfl rfl (VO.mv (Rn.assign rfl) rfl rfl rfl (VO.mv (Rn.assign rfl) rfl rfl rfl (VO.nil (VQ.then_code (VC.seq ?_)))))))
  refine VC.region (VO.mv (Rn.move rfl) rfl rfl rfl (VO.mv (Rn.move rfl) rfl rfl rfl ?_))
  have ip_5 := ip_4.keep c5
  have tf_5 := tf_4.keep c5
  refine VO.wk (Wk.call Tryz.call29 rfl (ring_Linear _ _ _ _ (m2 / 2) (h + 1) _ _ (wu 4096 qs (m2 / 2)) (wv 4096 qs (m2 / 2)) (wu 65536 (ls.take m8) (h + 1)) (wv 65536 (ls.take m8) (h + 1)) (wcM 4096 qs (m2 / 2)) (wcM 65536 (ls.take m8) (h + 1)) _ (ip_5).sl tf_5 (fun q hq => by omega) (fun q hq => by omega) ⟨by omega, by omega, by omega, by omega⟩ (wcM_WhU (by decide) _ _) (wcM_WhU (by decide) _ _) (wu_GB (b := 4096) (by decide) _ (by omega)) (wu_GB (b := 65536) (by decide) _ (by omega)))) rfl rfl rfl ?_
  rintro _ w6 ⟨q6, os_rL1, rfl, rL16, ho_rL1, e6, c6⟩
  have yc6 := Ow.lt rL16
  have z6 := c6.size
  refine VO.mv (Rn.move rfl) rfl rfl rfl (VO.mv (Rn.extract rfl rfl) rfl rfl rfl (VO.mv (Rn.extract rfl rfl) rfl rfl rfl (VO.mv (Rn.assign rfl) rfl rfl rfl (VO.mv (Rn.assign rfl) rfl rfl rfl (VO.nil (VQ.then_code (VC.seq ?_)))))))
  refine VC.region (VO.mv (Rn.move rfl) rfl rfl rfl (VO.mv (Rn.nil_eql_nil Tryz.underlying29 rfl) rfl rfl rfl (VO.mv (Rn.move rfl) rfl rfl rfl (VO.mv (Rn.move rfl) rfl rfl rfl (VO.mv (Rn.nil_eql_nil Tryz.underlying29 rfl) rfl rfl rfl (VO.mv (Rn.pick_true rfl rfl) rfl rfl rfl (VO.mv (Rn.move rfl) rfl rfl rfl ?_)))))))
  refine VO.mv (Rn.move rfl) rfl rfl rfl (VO.mv (Rn.move rfl) rfl rfl rfl ?_)
  have sw_6 := sw5.keep c6
  refine VO.wk (Wk.call Tryz.call19 rfl (hand_Equal _ _ _ _ (m2 / 2 + h) (m2 / 2 + (h + 1) - 1) _ _ _ _ _ (sw_6).sl (rL16).sl (by omega) (by omega) (fun j hj => ceq_true (hsw.get j hj) (ho_rL1.get j (by omega)) (lin_smB (wu_B17 (by decide) _ _) (wu_B17 (by decide) _ _) (by omega) j).1 (lin_smB (wu_B17 (by decide) _ _) (wu_B17 (by decide) _ _) (by omega) j).2))) rfl rfl rfl ?_
  rintro _ w7 ⟨rfl, c7⟩
  have z7 := c7.size
  refine VO.mv (Rn.pick_true rfl rfl) rfl rfl rfl (VO.mv (Rn.assign rfl) rfl rfl rfl (VO.nil (VQ.then_code (VC.ret (VQ.ret1 rfl rfl (Ret.mk ?_))))))
  have CH_7 := CH_4.and (c5.trans (c6.trans c7))
  exact ⟨rfl, CH_7⟩
end Go.Tm
