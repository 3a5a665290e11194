/- Lemmas of this claim, joined by program. Walks of functions: the law CosineTurned. Conditions: each lemma names its own. -/
import Derived.Test.YtpfglkohcfjelaaGreatDoorB16
import Derived.Test.YtpfglkohcfjelaaGreatDoorB19
set_option linter.all false
namespace Go.Tm
open Go.RowKit Go.Proofs
section
variable {R : Fl → Fl → Prop} {K : Fl → Prop}
def RL (R : Fl → Fl → Prop) (l m : List Cx) : Prop := ∀ k, RC R (l.getD k z0) (m.getD k z0)
theorem RL.map {f g : Cx → Cx} {l m : List Cx} (h : RL R l m) (hlm : l.length = m.length) (hz : RC R z0 z0) (hf : ∀ {a b}, RC R a b → RC R (f a) (g b)) : RL R (l.map f) (m.map g) := by
  intro k
  have hk := h k
  simp only [List.getD, List.getElem?_map] at hk ⊢
  by_cases c : k < l.length
  · rw [List.getElem?_eq_getElem c, List.getElem?_eq_getElem (by omega : k < m.length)] at hk ⊢
    exact hf hk
  · rw [List.getElem?_eq_none (by omega), List.getElem?_eq_none (by omega)]
    exact hz
theorem RL.range {n : Nat} {f g : Nat → Cx} (hz : RC R z0 z0) (h : ∀ k, k < n → RC R (f k) (g k)) : RL R ((List.range n).map f) ((List.range n).map g) := by
  intro k
  simp only [List.getD, List.getElem?_map]
  by_cases c : k < n
  · rw [List.getElem?_range c]; exact h k c
  · rw [List.getElem?_eq_none (by simp; omega)]; exact hz
theorem UsG.go {n : Nat} (us : UsG n) (h1 : 1 ≤ n) : GO (oOf n) := by
  obtain ⟨r, hr, hl⟩ := us.ex
  rw [← oOf_spec hr]
  exact GO.of_len (by omega)
theorem fwdG_len {n : Nat} (us : UsG n) {zs : List Cx} (hz : zs.length = n) : (fwdG (bOf n) zs).length = n := by rw [us.fwd zs hz]; simp
theorem fwd_rel (h : RelF R K) {n : Nat} (us : UsG n) (ko : KO K (oOf n)) {l m : List Cx} (hl : l.length = n) (hm : m.length = n) (hr : RL R l m) : RL R (fwdG (bOf n) l) (fwdG (bOf n) m) := by
  rw [us.fwd l hl, us.fwd m hm]
  exact RL.range h.z fun k _ => trM_rel h ko hr k
theorem inv_rel (h : RelF R K) {n : Nat} (h1 : 1 ≤ n) (h2 : n ≤ 4096) (us : UsG n) (ko : KO K (oOf n)) {l m : List Cx} (hl : l.length = n) (hm : m.length = n) (hr : RL R l m) : RL R (invG (bOf n) l) (invG (bOf n) m) := by
  unfold invG
  have e1 := hr.map (f := conjC) (g := conjC) (by rw [hl, hm]) h.z fun p => h.conj p
  have e2 := fwd_rel h us ko (by simp [hl]) (by simp [hm]) e1
  have l1 := fwdG_len us (zs := l.map conjC) (by simp [hl])
  have l2 := fwdG_len us (zs := m.map conjC) (by simp [hm])
  have e3 := e2.map (f := conjC) (g := conjC) (by rw [l1, l2]) h.z fun p => h.conj p
  rw [us.b.ln]
  exact e3.map (by simp [l1, l2]) h.z fun p => h.over (by omega) (by omega) p
theorem vL_rel (h : RelF R K) {n : Nat} {X Y : Nat → Fl} (hx : ∀ i, R (X i) (Y i)) : RL R (vL n X) (vL n Y) := RL.range h.z fun k _ => ⟨hx _, h.zero⟩
theorem zL_rel (h : RelF R K) (hk : ∀ k, k < 4 * 4096 → ∀ n, 1 ≤ n → n ≤ 4096 → KC K (rootF (4 * n) k)) {n : Nat} (h1 : 1 ≤ n) (h2 : n ≤ 4096) {X Y : Nat → Fl} (hx : ∀ i, R (X i) (Y i)) : RL R (zL n X) (zL n Y) := RL.range h.z fun k hkn => by
  unfold zF
  split
  · exact ⟨hx 0, h.zero⟩
  · exact h.twist ⟨hx _, h.neg (hx _)⟩ (hk _ (by omega) n h1 h2)
theorem cosF_rel (h : RelF R K) (hk : ∀ k, k < 4 * 4096 → ∀ n, 1 ≤ n → n ≤ 4096 → KC K (rootF (4 * n) k)) {n : Nat} (h1 : 1 ≤ n) (h2 : n ≤ 4096) (us : UsG n) (ko : KO K (oOf n)) {X Y : Nat → Fl} (hx : ∀ i, R (X i) (Y i)) {k : Nat} (hkn : k < n) : R (cosF n X k) (cosF n Y k) :=
  (h.twist (fwd_rel h us ko (vL_len n X) (vL_len n Y) (vL_rel h hx) k) (hk k (by omega) n h1 h2)).1
theorem cosI_rel (h : RelF R K) (hk : ∀ k, k < 4 * 4096 → ∀ n, 1 ≤ n → n ≤ 4096 → KC K (rootF (4 * n) k)) {n : Nat} (h1 : 1 ≤ n) (h2 : n ≤ 4096) (us : UsG n) (ko : KO K (oOf n)) {X Y : Nat → Fl} (hx : ∀ i, R (X i) (Y i)) (k : Nat) : R (cosI n X k) (cosI n Y k) :=
  (inv_rel h h1 h2 us ko (zL_len n X) (zL_len n Y) (zL_rel h hk h1 h2 hx) (plN n k)).1
theorem sumK_rel (h : RelF R K) {n k : Nat} (hk : ∀ j, K (cosK n k j)) {X Y : Nat → Fl} (hx : ∀ i, R (X i) (Y i)) : ∀ j, R (sumK n X k j) (sumK n Y k j)
  | 0 => h.mul (hx 0) (hk 0)
  | j + 1 => h.add (sumK_rel h hk hx j) (h.mul (hx (j + 1)) (hk (j + 1)))
end
theorem hk_all (k : Nat) (_ : k < 4 * 4096) (n : Nat) (_ : 1 ≤ n) (_ : n ≤ 4096) : KC (fun _ => True) (rootF (4 * n) k) := ⟨trivial, trivial⟩
theorem hk_fin (k : Nat) (_ : k < 4 * 4096) (n : Nat) (h1 : 1 ≤ n) (h2 : n ≤ 4096) : KC Fin' (rootF (4 * n) k) := (root_bd (by omega) (by omega)).mono (by decide)
theorem ko_fin {n : Nat} (h : chkK n = true) (h1 : 1 ≤ n) (us : UsG n) : KO Fin' (oOf n) := by
  obtain ⟨r, hr, hl⟩ := us.ex
  rw [← oOf_spec hr]
  exact ko_best h h1 hr hl
def negL (xs : List Nat) : List Nat := xs.map (Op.negFloat .f64)
theorem negL_len (xs : List Nat) : (negL xs).length = xs.length := by simp [negL]
theorem negL_opp (xs : List Nat) (i : Nat) : Opp (XF xs i) (XF (negL xs) i) := by
  show Opp (cn (xs.getD i 0)) (cn ((xs.map _).getD i 0))
  simp only [List.getD, List.getElem?_map]
  cases xs[i]? with
  | none => exact .inr ⟨0, 0, rfl, rfl, .inr ⟨rfl, rfl⟩⟩
  | some x => simp only [Option.map_some, Option.getD_some]; rw [cn_neg]; exact Opp.minus _
theorem negL_take {bs : List Int} {j : Nat} (h : j < bs.length) : ((negL (flO bs)).take (j + 1)).map flV = ((negL (flO bs)).take j).map flV ++ [.float .f64 (Op.negFloat .f64 ((flO bs).getD j 0))] := by
  have h2 : j < (flO bs).length := by simpa [flO] using h
  have h3 : j < (negL (flO bs)).length := by rw [negL_len]; exact h2
  rw [List.take_add_one, List.map_append, List.getElem?_eq_getElem h3]
  simp only [negL, List.getElem_map, List.getD, List.getElem?_eq_getElem h2, Option.getD_some, Option.toList_some, List.map_cons, List.map_nil]
theorem negL_all {bs : List Int} {j : Nat} (h : bs.length = j) : ((negL (flO bs)).take j).map flV = (negL (flO bs)).map flV := by
  rw [List.take_of_length_le (by rw [negL_len, flO_len]; omega)]
theorem order_zero {a : Nat} (h : (Ieee.double.order a 0 == some .eq) = true) : Nz (cn a) := by
  have e1 : Ieee.double.signWeight = 2 ^ 63 := rfl
  have e2 : Ieee.double.binade = 2 ^ 52 := rfl
  have e0 : Ieee.double.read 0 = .number false 0 (-1074) := rfl
  have key : a % 2 ^ 63 = 0 := by
    have hr : Ieee.double.read a = _ := rfl
    unfold Ieee.Format.order at h
    rw [e0] at h
    unfold Ieee.Format.read at h
    simp only [e1, e2] at h
    have cmp : ∀ (s : Bool) (m : Nat) (i : Int), ((Ieee.Datum.number s m i).order (.number false 0 (-1074)) == some .eq) = true → m = 0 := by
      intro s m i hh
      simp only [Ieee.Datum.order, signed_nought] at hh
      have h1 : compare (Ieee.signed s m (i - min i (-1074)).toNat) 0 = .eq := by simpa using hh
      have h2 : Ieee.signed s m (i - min i (-1074)).toNat = 0 := by
        exact Std.LawfulEqOrd.eq_of_compare h1
      have h3 := signed_abs s m (i - min i (-1074)).toNat
      rw [h2] at h3
      have := Nat.two_pow_pos (i - min i (-1074)).toNat
      rcases Nat.eq_zero_or_pos m with h | h
      · exact h
      · have := Nat.mul_pos h this
        simp at h3; omega
    split at h
    · exact cmp _ _ _ h
    · split at h
      · have := cmp _ _ _ h; omega
      · split at h
        · cases hs : (a / 2 ^ 63 % 2 == 1) <;> rw [hs] at h <;> simp [Ieee.Datum.order] at h
        · simp [Ieee.Datum.order] at h
  refine ⟨a, ?_, key⟩
  rw [cn_eq, if_neg (by rw [key]; decide)]
theorem nz_order {a : Nat} (h : Nz (cn a)) : (Ieee.double.order a 0 == some .eq) = true := by
  obtain ⟨b, e, hb⟩ := h
  have : a = b := by
    rw [cn_eq] at e
    split at e
    · cases e
    · injection e
  subst this
  obtain ⟨s, hr⟩ := read_zero hb
  have e0 : Ieee.double.read 0 = .number false 0 (-1074) := rfl
  unfold Ieee.Format.order
  rw [hr, e0]
  simp [Ieee.Datum.order, signed_nought]
theorem order_self {a : Nat} (h : cn a = some a) : (Ieee.double.order a a == some .eq) = true := by
  unfold Ieee.Format.order
  have hn : (FloatKind.f64.decode a).isNaN = false := by
    unfold cn at h
    split at h
    · cases h
    · rename_i h9; simpa using h9
  have hn : (Ieee.double.read a).isNaN = false := hn
  cases e : Ieee.double.read a with
  | nan s f => rw [e] at hn; cases hn
  | infinity s => simp [Ieee.Datum.order]
  | number s m i => simp [Ieee.Datum.order]
theorem xor_xor (b : Nat) : (b ^^^ 2 ^ 63) ^^^ 2 ^ 63 = b := by rw [Nat.xor_assoc, Nat.xor_self, Nat.xor_zero]
theorem cn_some {a b : Nat} (h : cn a = some b) : a = b := by
  unfold cn at h
  split at h
  · cases h
  · injection h
theorem opp_eq {a b c : Nat} (h : Opp (cn a) (cn b)) (hc : c = Op.negFloat .f64 b) : (Ieee.double.order a c == some .eq) = true ∨ ((Ieee.double.order a a == some .eq) = false ∧ (Ieee.double.order b b == some .eq) = false) := by
  rcases h with ⟨h1, h2⟩ | ⟨x, y, h1, h2, h3⟩
  · have nan : ∀ {a : Nat}, cn a = none → (Ieee.double.order a a == some .eq) = false := by
      intro a h
      unfold cn at h
      split at h
      · rename_i h9
        obtain ⟨s, f, e⟩ := isNaN_nan h9
        have e' : Ieee.double.read a = .nan s f := e
        simp [Ieee.Format.order, e', Ieee.Datum.order]
      · cases h
    exact .inr ⟨nan h1, nan h2⟩
  · left
    have e1 := cn_some h1
    have e2 := cn_some h2
    subst e1 e2
    have e3 : c = b ^^^ 2 ^ 63 := hc
    rcases h3 with rfl | ⟨h4, h5⟩
    · rw [e3, xor_xor]; exact order_self h1
    · have h6 : c % 2 ^ 63 = 0 := by rw [e3, xor_mod]; exact h5
      obtain ⟨s, r1⟩ := read_zero h4
      obtain ⟨t, r2⟩ := read_zero h6
      unfold Ieee.Format.order
      rw [r1, r2]
      simp [Ieee.Datum.order, signed_nought]
theorem nz_step {X : Nat → Fl} {nn : Bool} {j a : Nat} (h : nn = true → ∀ i, i < j → Nz (X i)) (hX : X j = cn a) : (nn && (Ieee.double.order a 0 == some .eq)) = true → ∀ i, i < j + 1 → Nz (X i) := by
  intro hh i hi
  rw [Bool.and_eq_true] at hh
  by_cases e : i = j
  · subst e; rw [hX]; exact order_zero hh.2
  · exact h hh.1 i (by omega)
theorem nz_past {xs : List Nat} {n : Nat} (hl : xs.length = n) (h : ∀ i, i < n → Nz (XF xs i)) (i : Nat) : Nz (XF xs i) := by
  by_cases c : i < n
  · exact h i c
  · show Nz (cn (xs.getD i 0))
    rw [List.getD, List.getElem?_eq_none (by omega)]
    exact ⟨0, rfl, rfl⟩
theorem guardU {ops : Array Oper} {n : Fr} {k : K} {o : Oper} {a : Act} {j t : Nat} {wt : Bool} (hg : o.guard = some (j, wt)) (hj : (ops[j]?).bind (·.dst) = some t) (hk : kget k t = some undef) (ha : Fits n k a) : Region.wanted o (yielded ops a.tmps) = false := by
  unfold Region.wanted
  rw [hg]
  have h1 : (ops[j]?).bind (fun x => x.dst) = some t := hj
  have : yielded ops a.tmps j = none := by
    unfold yielded
    rw [h1]
    simp [ha.known t _ hk, undef]
  show (yielded ops a.tmps j == some wt) = false
  rw [this]; rfl
section
variable {P : Program} {n : Fr} {ops : Array Oper} {Q : Exit → Act → World → Prop} {S : World → Prop} {Lq : Act → World → Prop} {k : K} {w : World} {o : Oper} {order : List (Nat × Bool)}
theorem VH.skipU {P : Program} {n : Fr} {ops : Array Oper} {Q : Exit → Act → World → Prop} {S : World → Prop} {Lq : Act → World → Prop} {order : List (Nat × Bool)} {k : K} {w : World} {o : Oper} {i d j t : Nat} {wt : Bool} (ho : ops[i]? = some o) (hd : o.dst = some d) (hg : o.guard = some (j, wt)) (hj : (ops[j]?).bind (·.dst) = some t) (hk : kget k t = some undef) (hn : Nat.blt d n.sz = true)
    (h : VH P n ops Q S Lq order ((d, undef) :: k) w) : VH P n ops Q S Lq ((i, true) :: order) k w := fun a ha =>
  ⟨o, undef, ho, .inr ⟨guardU hg hj hk ha, rfl⟩, by rw [hd]; exact h _ (ha.put hn undef)⟩
end
theorem opp_noL {p q r : Bool} (h : p = true ∨ (q = false ∧ r = false)) (h1 : (!p) = true) (h2 : q = true) : False := by
  rcases h with h | h
  · rw [h] at h1; cases h1
  · rw [h.1] at h2; cases h2
theorem opp_noR {p q r : Bool} (h : p = true ∨ (q = false ∧ r = false)) (h1 : (!p) = true) (h2 : r = true) : False := by
  rcases h with h | h
  · rw [h] at h1; cases h1
  · rw [h.2] at h2; cases h2
set_option maxRecDepth 100000 in
theorem inf32w92 : Inf Tryz.prog 32 (.float .f64 0) 1 8 := ⟨Tryz.t32, Tryz.type32, rfl, rfl, rfl⟩
set_option maxHeartbeats 1000000 in
set_option maxRecDepth 100000 in
theorem law23_opp (SA SB : Nat → Prop) (A B : Option Addr) (n ca cb : Nat) (xs ys : List Nat) (w : World) (sa : SlR SA w A n 1 (xs.map flV)) (sb : SlR SB w B n 1 (ys.map flV)) (ho : ∀ i, i < n → Opp (cn (xs.getD i 0)) (cn (ys.getD i 0))) (hn9 : n ≤ 17592186044416) :
  Calls Tryz.prog 21 #[.slice A n ca, .slice B n cb] w (Ret (fun v w' => v = .bool true ∧ Ch No w w')) := by
 refine calls_of_VC (args := [.slice A n ca, .slice B n cb]) Tryz.func21 rfl Tryz.ntmps21 rfl (Qe (Qb (Om (Qd rfl) rfl (Qf (Qa (Qe (Qe ?_)))))))
 refine Qb (Om (Qc rfl) rfl (Om (Cu υ24 rfl) rfl (Om (Qc rfl) rfl (Om (Cu υ24 rfl) rfl (Om (Rn.neqF rfl rfl rfl) rfl (Qf (Qa ?_)))))))
 refine Cb rfl (Qn (Qa (Qe (Qe (Qb (Om (Qc rfl) rfl (Om (Cu υ24 rfl) rfl ?_)))))))
 refine Om (Qc rfl) rfl (Qf (Qa (Qu (Cq (σ := Nat) (fun j => [(0, .slice A n ca), (1, .slice B n cb), (12, .int .i64 n), (13, .int .i64 j)]) (fun j w' => j ≤ n ∧ w.heap.size ≤ w'.heap.size ∧ SlR SA w' A n 1 (xs.map flV) ∧ SlR SB w' B n 1 (ys.map flV) ∧ Ch (No) w w') (fun j => n - j) 0 ?_ ⟨rfl, rfl, rfl, rfl, trivial⟩ ?_))))
 · exact ⟨(by omega), (Nat.le_refl _), sa, sb, (Ch.refl (No) w)⟩
 rintro j w1 ⟨hj, hsz1, sa_1, sb_1, CH_1⟩
 show VC _ _ _ _ [(0, .slice A n ca), (1, .slice B n cb), (12, .int .i64 n), (13, .int .i64 j)] _
 refine Qe (Qb (Om (Cs rfl rfl) rfl (Qf (Qa (Qe (Qj rfl (fun hc1 => ?_) (fun hc1 => ?_)))))))
 ·
  refine Qn (Qa (Qe (Qu (Qe (Qb (Om (Qc rfl) rfl (Om (Qd rfl) rfl ?_)))))))
  refine Qf (Qa (Qe ?_))
  have hop := opp_eq (ho j (by omega)) rfl
  refine Cg 32 [(0, true), (1, true), (2, true), (3, true), (4, true), (5, true), (6, true), (7, true), (8, true), (9, true), (10, true), (11, true), (12, true), (13, true), (14, true), (15, true), (16, true), (17, true), (18, true), (19, true), (20, true), (21, true), (22, true), (23, true), (24, true), (25, true), (26, true), (27, true), (28, true), (29, true), (30, true), (31, true)] (fun w1 w' => Ch (No) w1 w') mixed (by kernel_rfl) (fun _ _ => Ch.refl _ _) ?_
  intro w2 D2
  have c2 := Ch.of_drew D2; have z2 := c2.size
  have sa_2 := sa_1.keep c2
  have sb_2 := sb_1.keep c2
  refine Hm (fun w' hS => Qc rfl) rfl (Hm (fun w' hS => Qc rfl) rfl (Hm (fun w' hS => Qy υ24 ς32 rfl rfl ((sa_2.keep hS).ne (by omega)) (by omega) (by omega)) rfl (Hm (fun w' hS => Qh ι32 rfl ((sa_2.keep hS).getF (by omega) (by omega))) rfl (Hm (fun w' hS => Qc rfl) rfl (Hm (fun w' hS => Qc rfl) rfl (Hm (fun w' hS => Qy υ24 ς32 rfl rfl ((sb_2.keep hS).ne (by omega)) (by omega) (by omega)) rfl (Hm (fun w' hS => Qh ι32 rfl ((sb_2.keep hS).getF (by omega) (by omega))) rfl ?_)))))))
  refine Hm (fun w' hS => Rn.fneg rfl) rfl (Hm (fun w' hS => Rn.fneq rfl rfl) rfl (Hm (fun w' hS => Qc rfl) rfl (VH.split 26 rfl (fun hc2 => ?_) (fun hc2 => ?_))))
  ·
   refine Hm (fun w' hS => Qc rfl) rfl (Hm (fun w' hS => Qc rfl) rfl (Hm (fun w' hS => Qy υ24 ς32 rfl rfl ((sa_2.keep hS).ne (by omega)) (by omega) (by omega)) rfl (Hm (fun w' hS => Qh ι32 rfl ((sa_2.keep hS).getF (by omega) (by omega))) rfl (Hm (fun w' hS => Qc rfl) rfl (Hm (fun w' hS => Qc rfl) rfl (Hm (fun w' hS => Qy υ24 ς32 rfl rfl ((sa_2.keep hS).ne (by omega)) (by omega) (by omega)) rfl (Hm (fun w' hS => Qh ι32 rfl ((sa_2.keep hS).getF (by omega) (by omega))) rfl ?_)))))))
   refine Hm (fun w' hS => Rn.feql rfl rfl) rfl (Hm (fun w' hS => Qc rfl) rfl (VH.split 36 rfl (fun hc3 => ?_) (fun hc3 => ?_)))
   ·
    exact (opp_noL hop hc2 hc3).elim
   ·
    refine Hm (fun w' hS => Qc rfl) rfl (Hm (fun w' hS => Qc rfl) rfl (Hm (fun w' hS => Qy υ24 ς32 rfl rfl ((sb_2.keep hS).ne (by omega)) (by omega) (by omega)) rfl (Hm (fun w' hS => Qh ι32 rfl ((sb_2.keep hS).getF (by omega) (by omega))) rfl (Hm (fun w' hS => Qc rfl) rfl (Hm (fun w' hS => Qc rfl) rfl (Hm (fun w' hS => Qy υ24 ς32 rfl rfl ((sb_2.keep hS).ne (by omega)) (by omega) (by omega)) rfl (Hm (fun w' hS => Qh ι32 rfl ((sb_2.keep hS).getF (by omega) (by omega))) rfl ?_)))))))
    refine Hm (fun w' hS => Rn.feql rfl rfl) rfl (Hm (fun w' hS => Qk rfl rfl) rfl (Hm (fun w' hS => Qs rfl rfl) rfl (Cm (Qf (Qz (Qa (Cr rfl (fun hc4 => ?_) (fun hc4 => ?_))))))))
    ·
     try simp only [bX] at hc4
     exact (opp_noR hop hc2 hc4).elim
    ·
     try simp only [bX] at hc4
     refine Qn (Qo (Qa (Qb ?_)))
     refine Om (Ce rfl rfl (by rw [IntKind.wrap_i64]; omega)) rfl ?_
     refine Om (Qc rfl) rfl (Qf ?_)
     refine Cj (j + 1) (by first | omega | (dsimp only; omega)) ?_ ⟨rfl, rfl, rfl, rfl, trivial⟩
     have CH_2 := CH_1.and c2
     exact ⟨(by omega), (by omega), sa_2, sb_2, CH_2⟩
  ·
   refine Hy rfl (Hy rfl (Hy rfl (Hy rfl (Hy rfl (Hy rfl (Hy rfl (Hy rfl ?_)))))))
   refine Hy rfl (Hy rfl (VH.skipU rfl rfl rfl rfl rfl rfl (VH.skipU rfl rfl rfl rfl rfl rfl (VH.skipU rfl rfl rfl rfl rfl rfl (VH.skipU rfl rfl rfl rfl rfl rfl (VH.skipU rfl rfl rfl rfl rfl rfl (VH.skipU rfl rfl rfl rfl rfl rfl ?_)))))))
   refine VH.skipU rfl rfl rfl rfl rfl rfl (VH.skipU rfl rfl rfl rfl rfl rfl (VH.skipU rfl rfl rfl rfl rfl rfl (Hy rfl (Hm (fun w' hS => Qk rfl rfl) rfl (Cm (Qf (Qz ?_)))))))
   refine Qa (Cb rfl (Qn (Qo (Qa (Qb ?_)))))
   refine Om (Ce rfl rfl (by rw [IntKind.wrap_i64]; omega)) rfl ?_
   refine Om (Qc rfl) rfl (Qf ?_)
   refine Cj (j + 1) (by first | omega | (dsimp only; omega)) ?_ ⟨rfl, rfl, rfl, rfl, trivial⟩
   have CH_2 := CH_1.and c2
   exact ⟨(by omega), (by omega), sa_2, sb_2, CH_2⟩
 ·
  refine Ct (Qm (Qm (Ca (Qa (Qe (Qb (Om (Qd rfl) rfl ?_)))))))
  refine Qf (Qa (Qr (Qx rfl rfl (Ret.mk ?_))))
  exact ⟨rfl, CH_1⟩
set_option maxHeartbeats 2000000 in
set_option maxRecDepth 100000 in
theorem law_Turned (SX : Nat → Prop) (X : Option Addr) (n xc : Nat) (bs : List Int) (w : World) (sx : SlR SX w X n 1 (bs.map UV)) (hX : ∀ q, SX q → q < w.heap.size) (hn : n ≤ 17592186044404) (st : StT w) (tab : TabB w.heap.size w) (hG : 24 ≤ w.heap.size) :
  Calls Tryz.prog 4 #[.slice X n xc] w (Ret (fun v w' => v = .bool true ∧ Ch No w w')) := by
 have hbl : bs.length = n := by have := sx.len; simpa using this
 have hol : (flO bs).length = n := by rw [flO_len]; exact hbl
 refine calls_of_VC (args := [.slice X n xc]) Tryz.func4 rfl Tryz.ntmps4 rfl (Qe (Qb (Om (Qd rfl) rfl (Qf (Qa (Qe (Qe ?_)))))))
 refine Qb (Oq (Qi Tryz.call11 rfl (law23_livesG _ st ((tab).up (by omega)) (by omega))) rfl ?_)
 rintro _ w1 ⟨rfl, c1⟩
 have z1 := c1.size
 refine Om (Rm rfl) rfl (Qf (Qa (Cb rfl (Qn (Qa (Qe (Qb ?_)))))))
 refine Om (Qc rfl) rfl ?_
 have sx_1 := sx.keep c1
 refine Oq (Qi Tryz.call12 rfl (law23_floats _ _ _ _ bs _ sx_1 (fun q hq => by have := hX q hq; omega) (by omega))) rfl ?_
 rintro _ w2 ⟨r2, A2, k2, rfl, fl2, yr2, c2⟩
 have yl2 := Ow.lt fl2
 have z2 := c2.size
 refine Om (Qd rfl) rfl (Qf (Qa (Qe (Qe (Qb (Om (Qc rfl) rfl (Om (Cu υ24 rfl) rfl ?_)))))))
 refine Om (Cf rfl rfl) rfl (Om (Qc rfl) rfl ?_)
 refine Rd (b := _) 4 28 32 rfl (fun hc1 Jhc1 => by
   refine Oy rfl (Oy rfl (Oy rfl (Om (Qs rfl rfl) rfl ?_)))
   exact (Qp rfl (Qp rfl (Qp rfl Jhc1)))) (fun hc1 Jhc1 => by
   try simp only [bX] at hc1
   refine Om (Qc rfl) rfl (Om (Cu υ24 rfl) rfl (Om (Rb rfl rfl) rfl (Om (Qk rfl rfl) rfl ?_)))
   exact (Qp rfl (Qp rfl (Qp rfl Jhc1)))) ?_
 refine Qf (Qa (Cr rfl (fun hc2 => ?_) (fun hc2 => ?_)))
 ·
  try simp only [bX] at hc2
  refine Qe (Qb (Om (Qd rfl) rfl (Qf (Qa (Qr (Qt (Qx rfl rfl ?_)))))))
  refine Ret.mk ?_
  have CH_2 := (Ch.refl (No) w).and (c1.trans c2)
  exact ⟨rfl, CH_2⟩
 ·
  try simp only [bX] at hc2
  have hn9 : 1 ≤ n ∧ n ≤ 150 := by omega
  refine Qn (Qa (Qe (Qb (Oq (Wk.lit0 υ24 inf32w92) rfl ?_))))
  rintro _ w3 ⟨p3, rfl, N3⟩
  have c3 := N3.ch
  have e3 := N3.p; have z3 := N3.size
  have l33o := Ow.of_new (cs := []) (sz := 1) (l := 0) N3 rfl (by decide)
  refine Om (Qd rfl) rfl (Om (Qd rfl) rfl (Qf (Qa (Qe (Qe (Qb (Om (Qc rfl) rfl ?_)))))))
  refine Om (Cu υ24 rfl) rfl (Om (Qc rfl) rfl (Qf (Qa (Qu ?_))))
  have fl_3 := fl2.keep c3
  have st_3 := st.keep (c1.trans (c2.trans c3))
  have tab_3 := tab.keep (c1.trans (c2.trans c3))
  have CH_3 := (Ch.refl (No) w).and (c1.trans (c2.trans c3))
  refine Cq (σ := Nat × Bool × Nat × Option Addr × Nat) (fun (j, nn, rr, AA, cc) => [(3, .slice A2 n k2), (4, .slice AA j cc), (5, .bool nn), (34, .slice A2 n k2), (35, .int .i64 n), (36, .int .i64 j)]) (fun (j, nn, rr, AA, cc) w' => j ≤ n ∧ (w.heap.size < rr ∧ r2 < rr) ∧ (nn = true → ∀ i, i < j → Nz (XF (flO bs) i)) ∧ w3.heap.size ≤ w'.heap.size ∧ Ow w' rr 32 1 AA j cc (((negL (flO bs)).take j).map flV) ∧ FR 32 w' r2 A2 n k2 (flO bs) ∧ StT w' ∧ TabB w.heap.size w' ∧ Ch (No) w w') (fun (j, nn, rr, AA, cc) => n - j) (0, true, (p3 + 1), (some ⟨p3, 0, none⟩), 0) ?_ ⟨rfl, rfl, rfl, rfl, rfl, rfl, trivial⟩ ?_
  · exact ⟨(by omega), ⟨by omega, by omega⟩, (fun _ i h => absurd h (by omega)), (Nat.le_refl _), l33o, fl_3, st_3, tab_3, CH_3⟩
  rintro ⟨j, nn, rr, AA, cc⟩ w4 ⟨hj, hr2, hnn, hsz4, ms_4, fl_4, st_4, tab_4, CH_4⟩
  show VC _ _ _ _ [(3, .slice A2 n k2), (4, .slice AA j cc), (5, .bool nn), (34, .slice A2 n k2), (35, .int .i64 n), (36, .int .i64 j)] _
  refine Qe (Qb (Om (Cs rfl rfl) rfl (Qf (Qa (Qe (Qj rfl (fun hc3 => ?_) (fun hc3 => ?_)))))))
  ·
   refine Qn (Qa (Qe (Qu (Qe (Qb (Om (Qy υ24 ς32 rfl rfl (fl_4.sl.ne (by omega)) (by omega) (by omega)) rfl (Om (Qh ι32 rfl ((fl_4).sl.getF (by omega) (by omega))) rfl ?_)))))))
   refine Om (Qd rfl) rfl (Qf (Qa (Qe (Qb (Om (Qc rfl) rfl (Om (Qc rfl) rfl (Om (Rn.fneg rfl) rfl ?_)))))))
   refine Oq (Cv υ24 inf32w92 (by decide) rfl rfl (by rfl) (by decide) (by decide) (by rfl)) rfl ?_
   rintro _ w5 ⟨p5, rfl, N5⟩
   have c5 := N5.ch
   have e5 := N5.p; have z5 := N5.size
   have l43 := SlR.of_new (sz := 1) (l := 1) N5 rfl
   have l43o := Ow.of_new (sz := 1) (l := 1) N5 rfl (by decide)
   have ms_5 := ms_4.keep c5
   refine Oq (Co (S := _) υ24 inf32w92 rfl (by decide) rfl rfl ms_5 l43 (by rfl) (fun h => by simp at h) (by omega) (by simp only [maxLen]; omega)) rfl ?_
   rintro _ w6 ⟨r6, A6, k6, rfl, o6, c6, q6⟩
   have z6 := c6.size
   have y6 := o6.lt
   refine Om (Qd rfl) rfl (Qf (Qa (Qb (Om (Qc rfl) rfl (Om (Qc rfl) rfl ?_)))))
   refine Cz (b := _) 3 46 49 rfl (fun hc4 Jhc4 => by
     try simp only [bX] at hc4
     refine Om (Qc rfl) rfl (Om (Rn.feql rfl rfl) rfl (Om (Qs rfl rfl) rfl ?_))
     exact (Qp rfl (Qp rfl Jhc4))) (fun hc4 Jhc4 => by
     refine Oy rfl (Oy rfl (Om (Qk rfl rfl) rfl ?_))
     exact (Qp rfl (Qp rfl Jhc4))) ?_
   refine Om (Qd rfl) rfl (Qf (Qo (Qa (Qb ?_))))
   refine Om (Ce rfl rfl (by rw [IntKind.wrap_i64]; omega)) rfl ?_
   refine Om (Qc rfl) rfl (Qf ?_)
   refine Cj (j + 1, _, r6, A6, k6) (by first | omega | (dsimp only; omega)) ?_ ⟨rfl, rfl, rfl, rfl, rfl, rfl, trivial⟩
   have fl_5 := fl_4.keep c5
   have fl_6 := fl_5.to c6
   have st_5 := st_4.keep c5
   have st_6 := st_5.to c6
   have tab_5 := tab_4.keep c5
   have tab_6 := tab_5.to c6
   have CH_5 := CH_4.and c5
   have CH_6 : Ch (No) w w6 := CH_5.then c6
   exact ⟨(by omega), ⟨by omega, by omega⟩, (nz_step hnn (by rw [Int.toNat_natCast])), (by omega), (by rw [negL_take (by omega)]; exact o6), fl_6, st_6, tab_6, CH_6⟩
  ·
   refine Ct (Qm (Qm (Ca (Qa (Qe ?_)))))
   obtain rfl : n = j := by omega
   have o9 := ms_4; rw [negL_all hbl] at o9
   have yms9 := Ow.lt o9
   refine Qb (Om (Qc rfl) rfl (Oq (Qi Tryz.call20 rfl (cos_SumG _ _ n _ (flO bs) _ (fl_4).sl (fun q hq => by omega) (by omega))) rfl ?_))
   rintro _ w7 ⟨q7, zs7, rfl, su7, hs7, e7, c7⟩
   have yl7 := Ow.lt su7
   have z7 := c7.size
   refine Om (Qc rfl) rfl (Om (Qq rfl rfl) rfl (Om (Qq rfl rfl) rfl (Om (Qd rfl) rfl (Om (Qd rfl) rfl (Qf (Qa (Qe ?_)))))))
   refine Qb (Om (Qc rfl) rfl ?_)
   have fl_7 := fl_4.keep c7
   have st_7 := st_4.keep c7
   have tab_7 := tab_4.keep c7
   refine Oq (Qi Tryz.call17 rfl (cos_ForwardG _ _ n _ (flO bs) _ (fl_7).sl (fun q hq => by omega) ⟨by omega, by omega⟩ st_7 ((tab_7).up (by omega)) (by omega))) rfl ?_
   rintro _ w8 ⟨q8, zs8, rfl, fo8, hf8, us8, e8, c8⟩
   have yl8 := Ow.lt fo8
   have z8 := c8.size
   refine Om (Qc rfl) rfl (Om (Qq rfl rfl) rfl (Om (Qq rfl rfl) rfl (Om (Qd rfl) rfl (Om (Qd rfl) rfl (Qf (Qa (Qe ?_)))))))
   refine Qb (Om (Qc rfl) rfl ?_)
   have fl_8 := fl_7.keep c8
   have st_8 := st_7.keep c8
   have tab_8 := tab_7.keep c8
   refine Oq (Qi Tryz.call18 rfl (cos_InverseG _ _ n _ (flO bs) _ (fl_8).sl (fun q hq => by omega) ⟨by omega, by omega⟩ st_8 ((tab_8).up (by omega)) (by omega))) rfl ?_
   rintro _ w9 ⟨q9, zs9, rfl, io9, hy9, us9, e9, c9⟩
   have yl9 := Ow.lt io9
   have z9 := c9.size
   refine Om (Qc rfl) rfl (Om (Qq rfl rfl) rfl (Om (Qq rfl rfl) rfl (Om (Qd rfl) rfl (Om (Qd rfl) rfl (Qf (Qa (Qe ?_)))))))
   refine Qb (Om (Qc rfl) rfl ?_)
   have ms_9 := o9.keep (c7.trans (c8.trans c9))
   refine Oq (Qi Tryz.call20 rfl (cos_SumG _ _ n _ (negL (flO bs)) _ (ms_9).sl (fun q hq => by omega) (by omega))) rfl ?_
   rintro _ w10 ⟨q10, zs10, rfl, sv10, hs10, e10, c10⟩
   have yl10 := Ow.lt sv10
   have z10 := c10.size
   refine Om (Qc rfl) rfl (Om (Qq rfl rfl) rfl (Om (Qq rfl rfl) rfl (Om (Qd rfl) rfl (Om (Qd rfl) rfl (Qf (Qa (Qe ?_)))))))
   refine Qb (Om (Qc rfl) rfl ?_)
   have ms_10 := ms_9.keep c10
   have st_10 := st_8.keep (c9.trans c10)
   have tab_10 := tab_8.keep (c9.trans c10)
   refine Oq (Qi Tryz.call17 rfl (cos_ForwardG _ _ n _ (negL (flO bs)) _ (ms_10).sl (fun q hq => by omega) ⟨by omega, by omega⟩ st_10 ((tab_10).up (by omega)) (by omega))) rfl ?_
   rintro _ w11 ⟨q11, zs11, rfl, fp11, hf11, us11, e11, c11⟩
   have yl11 := Ow.lt fp11
   have z11 := c11.size
   refine Om (Qc rfl) rfl (Om (Qq rfl rfl) rfl (Om (Qq rfl rfl) rfl (Om (Qd rfl) rfl (Om (Qd rfl) rfl (Qf (Qa (Qe ?_)))))))
   refine Qb (Om (Qc rfl) rfl ?_)
   have ms_11 := ms_10.keep c11
   have st_11 := st_10.keep c11
   have tab_11 := tab_10.keep c11
   refine Oq (Qi Tryz.call18 rfl (cos_InverseG _ _ n _ (negL (flO bs)) _ (ms_11).sl (fun q hq => by omega) ⟨by omega, by omega⟩ st_11 ((tab_11).up (by omega)) (by omega))) rfl ?_
   rintro _ w12 ⟨q12, zs12, rfl, ip12, hy12, us12, e12, c12⟩
   have yl12 := Ow.lt ip12
   have z12 := c12.size
   refine Om (Qc rfl) rfl (Om (Qq rfl rfl) rfl (Om (Qq rfl rfl) rfl (Om (Qd rfl) rfl (Om (Qd rfl) rfl (Qf (Qa (Qe ?_)))))))
   refine Qe ?_
   have us9 := us8
   have go9 := us9.go hn9.1
   have koT : KO (fun _ => True) (oOf n) := KO.all (fun _ => trivial) go9
   have koF := ko_fin (chk150 hn9.1 hn9.2) hn9.1 us9
   have hop9 := negL_opp (flO bs)
   have sop : ∀ i, i < n → Opp (cn (zs7.getD i 0)) (cn (zs10.getD i 0)) := fun i hi => by rw [hs7 i hi, hs10 i hi]; exact sumK_rel Opp.rel (fun _ => trivial) hop9 _
   have fop : ∀ i, i < n → Opp (cn (zs8.getD i 0)) (cn (zs11.getD i 0)) := fun i hi => by rw [hf8.get i hi, hf11.get i hi]; exact cosF_rel Opp.rel hk_all hn9.1 (by omega) us9 koT hop9 hi
   have iop : ∀ i, i < n → Opp (cn (zs9.getD i 0)) (cn (zs12.getD i 0)) := fun i hi => by rw [hy9.get i hi, hy12.get i hi]; exact cosI_rel Opp.rel hk_all hn9.1 (by omega) us9 koT hop9 i
   refine Qb (Om (Qc rfl) rfl (Om (Cd υ28 rfl) rfl (Om (Qc rfl) rfl (Om (Qc rfl) rfl (Om (Cd υ28 rfl) rfl (Om (Qk rfl rfl) rfl (Om (Qc rfl) rfl ?_)))))))
   refine Om (Qc rfl) rfl (Om (Cd υ28 rfl) rfl (Om (Qk rfl rfl) rfl (Om (Qc rfl) rfl (Om (Qc rfl) rfl (Om (Cd υ28 rfl) rfl (Om (Qk rfl rfl) rfl (Om (Qc rfl) rfl ?_)))))))
   refine Om (Qc rfl) rfl (Om (Cd υ28 rfl) rfl (Om (Qk rfl rfl) rfl (Om (Qc rfl) rfl (Om (Qc rfl) rfl (Om (Cd υ28 rfl) rfl (Om (Qk rfl rfl) rfl (Om (Qc rfl) rfl ?_)))))))
   refine Om (Qc rfl) rfl (Om (Cu υ24 rfl) rfl (Om (Qc rfl) rfl (Om (Cu υ24 rfl) rfl (Om (Rn.neqF rfl rfl rfl) rfl (Om (Qk rfl rfl) rfl (Om (Qc rfl) rfl (Om (Qc rfl) rfl ?_)))))))
   refine Om (Cu υ24 rfl) rfl (Om (Qc rfl) rfl (Om (Cu υ24 rfl) rfl (Om (Rn.neqF rfl rfl rfl) rfl (Om (Qk rfl rfl) rfl (Om (Qc rfl) rfl (Om (Qc rfl) rfl (Om (Cu υ24 rfl) rfl ?_)))))))
   refine Om (Qc rfl) rfl (Om (Cu υ24 rfl) rfl (Om (Rn.neqF rfl rfl rfl) rfl (Om (Qk rfl rfl) rfl (Qf (Qa (Cb rfl (Qn ?_)))))))
   refine Qa (Qe (Qe (Qb (Om (Qc rfl) rfl (Qf (Qa (Cr rfl (fun hc5 => ?_) (fun hc5 => ?_))))))))
   ·
    try simp only [bX] at hc5
    refine Qe ?_
    have hz9 := nz_past hol (hnn hc5)
    have snz : ∀ i, i < n → Nz (cn (zs7.getD i 0)) := fun i hi => by rw [hs7 i hi]; exact sumK_rel (Y := XF (flO bs)) Nz.rel (fun _ => (pair_bd (by omega) (by omega)).1.mono (by decide)) hz9 _
    have fnz : ∀ i, i < n → Nz (cn (zs8.getD i 0)) := fun i hi => by rw [hf8.get i hi]; exact cosF_rel (Y := XF (flO bs)) Nz.rel hk_fin hn9.1 (by omega) us9 koF hz9 hi
    have inz : ∀ i, i < n → Nz (cn (zs9.getD i 0)) := fun i hi => by rw [hy9.get i hi]; exact cosI_rel (Y := XF (flO bs)) Nz.rel hk_fin hn9.1 (by omega) us9 koF hz9 i
    refine Qb (Om (Qc rfl) rfl (Om (Cu υ24 rfl) rfl (Om (Qc rfl) rfl (Qf (Qa (Qu ?_))))))
    have su_12 := su7.keep (c8.trans (c9.trans (c10.trans (c11.trans c12))))
    have fo_12 := fo8.keep (c9.trans (c10.trans (c11.trans c12)))
    have io_12 := io9.keep (c10.trans (c11.trans c12))
    have sv_12 := sv10.keep (c11.trans c12)
    have fp_12 := fp11.keep c12
    have CH_12 := CH_4.and (c7.trans (c8.trans (c9.trans (c10.trans (c11.trans c12)))))
    refine Cq (σ := Nat) (fun j => [(3, .slice A2 n k2), (8, .slice (some ⟨q7, 0, none⟩) n n), (10, .slice (some ⟨q8, 0, none⟩) n n), (12, .slice (some ⟨q9, 0, none⟩) n n), (14, .slice (some ⟨q10, 0, none⟩) n n), (16, .slice (some ⟨q11, 0, none⟩) n n), (18, .slice (some ⟨q12, 0, none⟩) n n), (126, .int .i64 n), (127, .int .i64 j)]) (fun j w' => j ≤ n ∧ w12.heap.size ≤ w'.heap.size ∧ FR 32 w' (q7 + 1) (some ⟨q7, 0, none⟩) n n zs7 ∧ FR 32 w' (q8 + 1) (some ⟨q8, 0, none⟩) n n zs8 ∧ FR 32 w' (q9 + 1) (some ⟨q9, 0, none⟩) n n zs9 ∧ FR 32 w' (q10 + 1) (some ⟨q10, 0, none⟩) n n zs10 ∧ FR 32 w' (q11 + 1) (some ⟨q11, 0, none⟩) n n zs11 ∧ FR 32 w' (q12 + 1) (some ⟨q12, 0, none⟩) n n zs12 ∧ Ch (No) w w') (fun j => n - j) 0 ?_ ⟨rfl, rfl, rfl, rfl, rfl, rfl, rfl, rfl, rfl, trivial⟩ ?_
    · exact ⟨(by omega), (Nat.le_refl _), su_12, fo_12, io_12, sv_12, fp_12, ip12, CH_12⟩
    rintro j w13 ⟨hj, hsz13, su_13, fo_13, io_13, sv_13, fp_13, ip_13, CH_13⟩
    show VC _ _ _ _ [(3, .slice A2 n k2), (8, .slice (some ⟨q7, 0, none⟩) n n), (10, .slice (some ⟨q8, 0, none⟩) n n), (12, .slice (some ⟨q9, 0, none⟩) n n), (14, .slice (some ⟨q10, 0, none⟩) n n), (16, .slice (some ⟨q11, 0, none⟩) n n), (18, .slice (some ⟨q12, 0, none⟩) n n), (126, .int .i64 n), (127, .int .i64 j)] _
    refine Qe (Qb (Om (Cs rfl rfl) rfl (Qf (Qa (Qe (Qj rfl (fun hc6 => ?_) (fun hc6 => ?_)))))))
    ·
     refine Qn (Qa (Qe (Qu (Qe (Qb (Om (Qc rfl) rfl (Om (Qd rfl) rfl ?_)))))))
     refine Qf (Qa (Qe (Qb (Om (Qc rfl) rfl (Om (Qc rfl) rfl (Om (Qy υ24 ς32 rfl rfl (su_13.sl.ne (by omega)) (by omega) (by omega)) rfl (Om (Qh ι32 rfl (su_13.sl.getF (by omega) (by omega))) rfl ?_)))))))
     refine Om (Rn.fneqF rfl rfl (nz_order (snz j (by omega)))) rfl (Om (Qc rfl) rfl (Om (Qc rfl) rfl (Om (Qc rfl) rfl (Om (Qy υ24 ς32 rfl rfl (fo_13.sl.ne (by omega)) (by omega) (by omega)) rfl (Om (Qh ι32 rfl (fo_13.sl.getF (by omega) (by omega))) rfl (Om (Rn.fneqF rfl rfl (nz_order (fnz j (by omega)))) rfl (Om (Qk rfl rfl) rfl ?_)))))))
     refine Om (Qc rfl) rfl (Om (Qc rfl) rfl (Om (Qc rfl) rfl (Om (Qy υ24 ς32 rfl rfl (io_13.sl.ne (by omega)) (by omega) (by omega)) rfl (Om (Qh ι32 rfl (io_13.sl.getF (by omega) (by omega))) rfl (Om (Rn.fneqF rfl rfl (nz_order (inz j (by omega)))) rfl (Om (Qk rfl rfl) rfl (Qf ?_)))))))
     refine Qa (Cb rfl (Qn (Qo (Qa (Qb ?_)))))
     refine Om (Ce rfl rfl (by rw [IntKind.wrap_i64]; omega)) rfl ?_
     refine Om (Qc rfl) rfl (Qf ?_)
     refine Cj (j + 1) (by first | omega | (dsimp only; omega)) ?_ ⟨rfl, rfl, rfl, rfl, rfl, rfl, rfl, rfl, rfl, trivial⟩
     exact ⟨(by omega), (by omega), su_13, fo_13, io_13, sv_13, fp_13, ip_13, CH_13⟩
    ·
     refine Ct (Qm (Qm (Ca (Qa (Qe (Qb (Om (Qc rfl) rfl ?_)))))))
     refine Om (Qc rfl) rfl (Oq (Qi κ21 rfl (law23_opp _ _ _ _ n _ _ _ _ _ (su_13).sl (sv_13).sl (sop) (by omega))) rfl ?_)
     rintro _ w14 ⟨rfl, c14⟩
     have z14 := c14.size
     refine Om (Qc rfl) rfl (Om (Qc rfl) rfl (Om (Qc rfl) rfl ?_))
     have fo_14 := fo_13.keep c14
     have fp_14 := fp_13.keep c14
     refine Oq (Qi κ21 rfl (law23_opp _ _ _ _ n _ _ _ _ _ (fo_14).sl (fp_14).sl (fop) (by omega))) rfl ?_
     rintro _ w15 ⟨rfl, c15⟩
     have z15 := c15.size
     refine Om (Qs rfl rfl) rfl (Om (Qc rfl) rfl (Om (Qc rfl) rfl (Om (Qc rfl) rfl ?_)))
     have io_15 := io_13.keep (c14.trans c15)
     have ip_15 := ip_13.keep (c14.trans c15)
     refine Oq (Qi κ21 rfl (law23_opp _ _ _ _ n _ _ _ _ _ (io_15).sl (ip_15).sl (iop) (by omega))) rfl ?_
     rintro _ w16 ⟨rfl, c16⟩
     have z16 := c16.size
     refine Om (Qs rfl rfl) rfl (Om (Qd rfl) rfl (Qf (Qa (Qr (Qx rfl rfl (Ret.mk ?_))))))
     have CH_16 := CH_13.and (c14.trans (c15.trans c16))
     exact ⟨rfl, CH_16⟩
   ·
    try simp only [bX] at hc5
    refine Qn (Qa (Qe (Qb (Om (Qc rfl) rfl (Om (Qc rfl) rfl ?_)))))
    have su_12 := su7.keep (c8.trans (c9.trans (c10.trans (c11.trans c12))))
    have sv_12 := sv10.keep (c11.trans c12)
    refine Oq (Qi κ21 rfl (law23_opp _ _ _ _ n _ _ _ _ _ (su_12).sl (sv_12).sl (sop) (by omega))) rfl ?_
    rintro _ w17 ⟨rfl, c17⟩
    have z17 := c17.size
    refine Om (Qc rfl) rfl (Om (Qc rfl) rfl (Om (Qc rfl) rfl ?_))
    have fo_17 := fo8.keep (c9.trans (c10.trans (c11.trans (c12.trans c17))))
    have fp_17 := fp11.keep (c12.trans c17)
    refine Oq (Qi κ21 rfl (law23_opp _ _ _ _ n _ _ _ _ _ (fo_17).sl (fp_17).sl (fop) (by omega))) rfl ?_
    rintro _ w18 ⟨rfl, c18⟩
    have z18 := c18.size
    refine Om (Qs rfl rfl) rfl (Om (Qc rfl) rfl (Om (Qc rfl) rfl (Om (Qc rfl) rfl ?_)))
    have io_18 := io9.keep (c10.trans (c11.trans (c12.trans (c17.trans c18))))
    have ip_18 := ip12.keep (c17.trans c18)
    refine Oq (Qi κ21 rfl (law23_opp _ _ _ _ n _ _ _ _ _ (io_18).sl (ip_18).sl (iop) (by omega))) rfl ?_
    rintro _ w19 ⟨rfl, c19⟩
    have z19 := c19.size
    refine Om (Qs rfl rfl) rfl (Om (Qd rfl) rfl (Qf (Qa (Qr (Qx rfl rfl (Ret.mk ?_))))))
    have CH_19 := CH_4.and (c7.trans (c8.trans (c9.trans (c10.trans (c11.trans (c12.trans (c17.trans (c18.trans c19))))))))
    exact ⟨rfl, CH_19⟩
end Go.Tm
