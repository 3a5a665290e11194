/- Lemmas of this claim, joined by program. Walks of functions: halves of 1, 2 and 4 whole numbers: Forward, Inverse. Walks of functions: halves of 1, 2 and 4 whole numbers: Inverse, Full, Two. Conditions: each lemma names its own. -/
import Derived.Test.YtdgiiehbbmfgoaaGreatDoorB15
import Derived.Test.YtdgiiehbbmfgoaaGreatDoorB10
set_option linter.all false
namespace Go.Tm
open Go.RowKit Go.Proofs
theorem plan_NewL (n : Nat) (hn : n = 1 ∨ n = 2 ∨ n = 4) (w : World) (st : StT w) (tab : TabB w.heap.size w) (hG : 12 ≤ w.heap.size) :
    Calls Tryz.prog 69 #[.int .i64 n] w (Ret fun v w' => ∃ p P, v = .tuple #[.pointer (some ⟨p, 0, none⟩), .nilIface] ∧ PlnR w.heap.size w'.heap.size w' p P ∧ Leaf n P.b ∧ Ch No w w') := by
  refine (plan_New n (by omega) (by omega) (hasP24 n (by omega) (by omega)) w st tab hG).mono ?_
  rintro e w' ⟨v, rfl, p, rr, rfl, hr, h1, h2⟩
  exact ⟨_, rfl, p, _, rfl, h1, best_leaf hn hr, h2⟩
theorem uv0 {n k j : Nat} {us bs : Nat → Int} {u v : Int} (h : 4 * (j * k) / n % 4 = 0) (hu : (u, v) = uvL n k us bs j) : (u + us j, v + bs j) = uvL n k us bs (j + 1) := by
  show _ = uvS _ _ _ _ _ _; unfold uvS; rw [if_pos h, ← hu]
theorem uv1 {n k j : Nat} {us bs : Nat → Int} {u v : Int} (h : 4 * (j * k) / n % 4 = 1) (hu : (u, v) = uvL n k us bs j) : (u + bs j, v - us j) = uvL n k us bs (j + 1) := by
  show _ = uvS _ _ _ _ _ _; unfold uvS; rw [if_neg (by omega), if_pos h, ← hu]
theorem uv2 {n k j : Nat} {us bs : Nat → Int} {u v : Int} (h : 4 * (j * k) / n % 4 = 2) (hu : (u, v) = uvL n k us bs j) : (u - us j, v - bs j) = uvL n k us bs (j + 1) := by
  show _ = uvS _ _ _ _ _ _; unfold uvS; rw [if_neg (by omega), if_neg (by omega), if_pos h, ← hu]
theorem uv3 {n k j : Nat} {us bs : Nat → Int} {u v : Int} (h : 4 * (j * k) / n % 4 = 3) (hu : (u, v) = uvL n k us bs j) : (u - bs j, v + us j) = uvL n k us bs (j + 1) := by
  show _ = uvS _ _ _ _ _ _; unfold uvS; rw [if_neg (by omega), if_neg (by omega), if_neg (by omega), ← hu]
theorem uv_fst {n k j : Nat} {us bs : Nat → Int} {u v : Int} (hu : (u, v) = uvL n k us bs j) : u = (uvL n k us bs j).1 ∧ v = (uvL n k us bs j).2 := by rw [← hu]; exact ⟨rfl, rfl⟩
structure N3 (n : Nat) : Prop where
  h : n = 1 ∨ n = 2 ∨ n = 4
structure HalfOk (n : Nat) (us : Nat → Int) (zs : List CB) : Prop where
  len : zs.length = n / 2 + 1
  get : ∀ k, k ≤ n / 2 → WhC (cx (zs.getD k (0, 0))) (uvL n k us no0 n).1 (uvL n k us no0 n).2
structure FlsOk (n : Nat) (us : Nat → Int) (xs : List Nat) : Prop where
  len : xs.length = n
  get : ∀ k, k < n → Wh (cn (xs.getD k 0)) (us k)
structure CxsOk (n : Nat) (us : Nat → Int) (zs : List CB) : Prop where
  len : zs.length = n
  get : ∀ k, k < n → WhC (cx (zs.getD k (0, 0))) (uvL n k us no0 n).1 (uvL n k us no0 n).2
structure CxU (n : Nat) (us : Nat → Int) (m k : Nat) (zs : List CB) : Prop where
  len : zs.length = m
  get : ∀ i, i < k → WhC (cx (zs.getD i (0, 0))) (uvL n i us no0 n).1 (uvL n i us no0 n).2
theorem CxU.zero (n : Nat) (us : Nat → Int) (m : Nat) : CxU n us m 0 (List.replicate m (0, 0)) := ⟨by simp, fun i h => absurd h (by omega)⟩
theorem CxU.step {n m k : Nat} {us : Nat → Int} {zs : List CB} {z : CB} (h : CxU n us m k zs) (hk : k < m) (hz : WhC (cx z) (uvL n k us no0 n).1 (uvL n k us no0 n).2) : CxU n us m (k + 1) (zs.set k z) := by
  refine ⟨by rw [List.length_set]; exact h.len, fun i hi => ?_⟩
  rw [set_getD (by rw [h.len]; exact hk)]
  by_cases e : i = k
  · subst e; rw [if_pos rfl]; exact hz
  · rw [if_neg e]; exact h.get i (by omega)
theorem append_getD {α : Type} {zs : List α} {z d : α} {m i : Nat} (h : zs.length = m) : (zs ++ [z]).getD i d = if i = m then z else zs.getD i d := by
  subst h
  simp only [List.getD]
  by_cases e : i = zs.length
  · subst e; simp
  · rw [if_neg e, List.getElem?_append]
    by_cases l : i < zs.length
    · rw [if_pos l]
    · rw [if_neg l, List.getElem?_eq_none (by simp; omega), List.getElem?_eq_none (by omega)]
theorem CxU.push {n k : Nat} {us : Nat → Int} {zs : List CB} {z : CB} (h : CxU n us k k zs) (hz : WhC (cx z) (uvL n k us no0 n).1 (uvL n k us no0 n).2) : CxU n us (k + 1) (k + 1) (zs ++ [z]) := by
  refine ⟨by simp [h.len], fun i hi => ?_⟩
  rw [append_getD h.len]
  by_cases e : i = k
  · subst e; rw [if_pos rfl]; exact hz
  · rw [if_neg e]; exact h.get i (by omega)
structure PairU (h : Nat) (us : Nat → Int) (k : Nat) (zs : List CB) : Prop where
  len : zs.length = h
  get : ∀ i, i < k → WhC (cx (zs.getD i (0, 0))) (uvL h i (fun j => us (2 * j)) (fun j => us (2 * j + 1)) h).1 (uvL h i (fun j => us (2 * j)) (fun j => us (2 * j + 1)) h).2
theorem PairU.zero (h : Nat) (us : Nat → Int) : PairU h us 0 (List.replicate h (0, 0)) := ⟨by simp, fun i h => absurd h (by omega)⟩
theorem PairU.step {h k : Nat} {us : Nat → Int} {zs : List CB} {z : CB} (p : PairU h us k zs) (hk : k < h) (hz : WhC (cx z) (uvL h k (fun j => us (2 * j)) (fun j => us (2 * j + 1)) h).1 (uvL h k (fun j => us (2 * j)) (fun j => us (2 * j + 1)) h).2) : PairU h us (k + 1) (zs.set k z) := by
  refine ⟨by rw [List.length_set]; exact p.len, fun i hi => ?_⟩
  rw [set_getD (by rw [p.len]; exact hk)]
  by_cases e : i = k
  · subst e; rw [if_pos rfl]; exact hz
  · rw [if_neg e]; exact p.get i (by omega)
abbrev prC (xs : List Nat) : Nat → CB := fun j => (xs.getD (2 * (j : Int)).toNat 0, xs.getD (2 * (j : Int) + 1).toNat 0)
theorem half_mid {h : Nat} {b : Bld} (hL : Leaf h b) {us : Nat → Int} (hu : U40 us) {xs : List Nat} (hx : FlsOk (2 * h) us xs) {zs : List CB} (hz : zs.map cx = fwdC b ((rowF h (prC xs) h).map cx)) :
    ∀ k, k < h → WhC (cx (zs.getD k (0, 0))) (uvL h k (fun j => us (2 * j)) (fun j => us (2 * j + 1)) h).1 (uvL h k (fun j => us (2 * j)) (fun j => us (2 * j + 1)) h).2 := by
  intro k hk
  have hw : WhL ((rowF h (prC xs) h).map cx) h (fun j => us (2 * j)) (fun j => us (2 * j + 1)) := by
    refine ⟨by simp [rowF], fun i hi => ?_⟩
    rw [map_getD, rowF_get hi]
    have h1 := hx.get (2 * i) (by omega)
    have h2 := hx.get (2 * i + 1) (by omega)
    rw [← show (2 * (i : Int)).toNat = 2 * i by omega] at h1
    rw [← show (2 * (i : Int) + 1).toNat = 2 * i + 1 by omega] at h2
    refine ⟨?_, ?_⟩
    · rw [show (2 * (i : Int)).toNat = 2 * i by omega] at h1
      show Wh (cn (xs.getD (2 * (i : Int)).toNat 0)) _
      rw [show (2 * (i : Int)).toNat = 2 * i by omega]; exact h1
    · rw [show (2 * (i : Int) + 1).toNat = 2 * i + 1 by omega] at h2
      show Wh (cn (xs.getD (2 * (i : Int) + 1).toNat 0)) _
      rw [show (2 * (i : Int) + 1).toNat = 2 * i + 1 by omega]; exact h2
  have := (fwd_leaf hL hw (fun j => by have := hu (2 * j); have := hu (2 * j + 1); unfold B44; omega)).2 k hk
  rw [← hz, map_getD] at this
  exact this
theorem half_back {h : Nat} {b : Bld} (hL : Leaf h b) {us : Nat → Int} (hu : U40 us) {zs ws : List CB} (hp : PairU h us h zs) (hw : ws.map cx = invC b (zs.map cx)) : ∀ k, k < h → WhC (cx (ws.getD k (0, 0))) (us (2 * k)) (us (2 * k + 1)) := by
  intro k hk
  have h1 : WhL (zs.map cx) h (fun k => (uvL h k (fun j => us (2 * j)) (fun j => us (2 * j + 1)) h).1) (fun k => (uvL h k (fun j => us (2 * j)) (fun j => us (2 * j + 1)) h).2) :=
    ⟨by simp [hp.len], fun i hi => by rw [map_getD]; exact hp.get i hi⟩
  have := (inv_leafG hL h1 (fun j => by have := hu (2 * j); have := hu (2 * j + 1); omega)).2 k hk
  rw [← hw, map_getD] at this
  exact this
theorem fwdH_of {h n k : Nat} {Z : Nat → Cx} {za zb c9 c10 c11 c12 c13 c14 c15 : CB} (ha : cx za = Z (k % h)) (hb : cx zb = Z ((h - k) % h)) (F9 : cx c9 = conjC (cx zb)) (F10 : cx c10 = (fop .sub (cn za.1) (cn c9.1), fop .sub (cn za.2) (cn c9.2))) (F11 : cx c11 = minusI (cx c10)) (F12 : cx c12 = timesR (cx c11)) (F13 : cx c13 = twistF (cx c12) n k) (F14 : cx c14 = evenC (cx za) (cx c9)) (F15 : cx c15 = (fop .add (cn c14.1) (cn c13.1), fop .add (cn c14.2) (cn c13.2))) (hn : n = 2 * h) : cx c15 = fwdH h Z k := by
  subst hn
  have e1 : (fop .add (cn c14.1) (cn c13.1), fop .add (cn c14.2) (cn c13.2)) = plusC (cx c14) (cx c13) := rfl
  have e2 : (fop .sub (cn za.1) (cn c9.1), fop .sub (cn za.2) (cn c9.2)) = lessC (cx za) (cx c9) := rfl
  unfold fwdH moddC
  rw [F15, e1, F14, F13, F12, F11, F10, e2, F9, ha, hb]
theorem invZ_of {h n k q : Nat} {Z : Nat → Cx} {za zb c9 c10 c11 c12 c13 c14 : CB} (ha : cx za = Z k) (hb : cx zb = Z (h - k)) (F9 : cx c9 = conjC (cx zb)) (F10 : cx c10 = oddC (cx za) (cx c9)) (F11 : cx c11 = twistF (cx c10) n q) (F12 : cx c12 = evenC (cx za) (cx c9)) (F13 : cx c13 = timesI (cx c11)) (F14 : cx c14 = (fop .add (cn c12.1) (cn c13.1), fop .add (cn c12.2) (cn c13.2))) (hn : n = 2 * h) (hq : q = (2 * h - k) % (2 * h)) : cx c14 = invZ h Z k := by
  subst hn hq
  have e1 : (fop .add (cn c12.1) (cn c13.1), fop .add (cn c12.2) (cn c13.2)) = plusC (cx c12) (cx c13) := rfl
  unfold invZ
  rw [F14, e1, F12, F13, F11, F10, F9, ha, hb]
theorem half_one {us : Nat → Int} {x : Nat} (h : Wh (cn x) (us 0)) : HalfOk 1 us [(x, 0)] := by
  have e : uvL 1 0 us no0 1 = (us 0, 0) := by simp [uvL, uvS]
  refine ⟨rfl, fun k hk => ?_⟩
  obtain rfl : k = 0 := by omega
  rw [e]
  exact ⟨h, ⟨false, by kernel_rfl, fun h => absurd rfl h⟩⟩
set_option maxRecDepth 100000 in
theorem inf53w56 : Inf Tryz.prog 53 (.complex .f64 0 0) 1 16 := ⟨Tryz.t53, Tryz.type53, rfl, rfl, rfl⟩
set_option maxRecDepth 100000 in
theorem cplx_TimesH (a b : Nat) (w : World) :
    Calls Tryz.prog 48 #[.complex .f64 a b, .float .f64 4602678819172646912] w (Ret (fun v w' => ∃ p q, v = .complex .f64 p q ∧ cx (p, q) = timesR (cx (a, b)) ∧ Ch No w w')) := by
  refine calls_of_VC (args := [.complex .f64 a b, .float .f64 4602678819172646912]) Tryz.func48 rfl Tryz.ntmps48 rfl (VC.seq (VC.region (VO.mv (Rn.assign rfl) rfl rfl rfl (VO.nil (VQ.then_code (VC.seq (VC.region ?_)))))))
  refine VO.mv (Rn.move rfl) rfl rfl rfl (VO.mv (Rn.real rfl) rfl rfl rfl (VO.mv (Rn.move rfl) rfl rfl rfl (VO.wk (Wk.fbin (.inr (.inr (.inl rfl))) rfl rfl) rfl rfl rfl ?_)))
  rintro _ w1 ⟨r1, rfl, f1, c1⟩
  have z1 := c1.size
  refine VO.mv (Rn.move rfl) rfl rfl rfl (VO.mv (Rn.imag rfl) rfl rfl rfl (VO.mv (Rn.move rfl) rfl rfl rfl (VO.wk (Wk.fbin (.inr (.inr (.inl rfl))) rfl rfl) rfl rfl rfl ?_)))
  rintro _ w2 ⟨r2, rfl, f2, c2⟩
  have z2 := c2.size
  refine VO.mv (Rn.complex rfl rfl) rfl rfl rfl (VO.mv (Rn.assign rfl) rfl rfl rfl (VO.nil (VQ.then_code (VC.ret (VQ.ret1 rfl rfl (Ret.mk ?_))))))
  have CH_2 := (Ch.refl (No) w).and (c1.trans c2)
  exact ⟨_, _, rfl, (by show (cn _, cn _) = _; rw [f1, f2]; rfl), CH_2⟩
set_option maxRecDepth 100000 in
theorem half_even (a b c d : Nat) (w : World) :
    Calls Tryz.prog 50 #[.complex .f64 a b, .complex .f64 c d] w (Ret (fun v w' => ∃ p q, v = .complex .f64 p q ∧ cx (p, q) = evenC (cx (a, b)) (cx (c, d)) ∧ Ch No w w')) := by
  refine calls_of_VC (args := [.complex .f64 a b, .complex .f64 c d]) Tryz.func50 rfl Tryz.ntmps50 rfl (VC.seq (VC.region (VO.mv (Rn.assign rfl) rfl rfl rfl (VO.nil (VQ.then_code (VC.seq (VC.region ?_)))))))
  refine VO.mv (Rn.move rfl) rfl rfl rfl (VO.mv (Rn.move rfl) rfl rfl rfl (VO.wk (Wk.cbin (.inl rfl) rfl rfl) rfl rfl rfl ?_))
  rintro _ w1 ⟨p1, q1, rfl, F1, c1⟩
  have z1 := c1.size
  refine VO.wk (Wk.call Tryz.call48 rfl (cplx_TimesH _ _ _)) rfl rfl rfl ?_
  rintro _ w2 ⟨p2, q2, rfl, F2, c2⟩
  have z2 := c2.size
  refine VO.mv (Rn.assign rfl) rfl rfl rfl (VO.nil (VQ.then_code (VC.ret (VQ.ret1 rfl rfl (Ret.mk ?_)))))
  have CH_2 := (Ch.refl (No) w).and (c1.trans c2)
  exact ⟨_, _, rfl, (by rw [F2, F1]; rfl), CH_2⟩
set_option maxRecDepth 100000 in
theorem half_odd (a b c d : Nat) (w : World) :
    Calls Tryz.prog 51 #[.complex .f64 a b, .complex .f64 c d] w (Ret (fun v w' => ∃ p q, v = .complex .f64 p q ∧ cx (p, q) = oddC (cx (a, b)) (cx (c, d)) ∧ Ch No w w')) := by
  refine calls_of_VC (args := [.complex .f64 a b, .complex .f64 c d]) Tryz.func51 rfl Tryz.ntmps51 rfl (VC.seq (VC.region (VO.mv (Rn.assign rfl) rfl rfl rfl (VO.nil (VQ.then_code (VC.seq (VC.region ?_)))))))
  refine VO.mv (Rn.move rfl) rfl rfl rfl (VO.mv (Rn.move rfl) rfl rfl rfl (VO.wk (Wk.cbin (.inr rfl) rfl rfl) rfl rfl rfl ?_))
  rintro _ w1 ⟨p1, q1, rfl, F1, c1⟩
  have z1 := c1.size
  refine VO.wk (Wk.call Tryz.call48 rfl (cplx_TimesH _ _ _)) rfl rfl rfl ?_
  rintro _ w2 ⟨p2, q2, rfl, F2, c2⟩
  have z2 := c2.size
  refine VO.mv (Rn.assign rfl) rfl rfl rfl (VO.nil (VQ.then_code (VC.ret (VQ.ret1 rfl rfl (Ret.mk ?_)))))
  have CH_2 := (Ch.refl (No) w).and (c1.trans c2)
  exact ⟨_, _, rfl, (by rw [F2, F1]; rfl), CH_2⟩
set_option maxHeartbeats 1000000 in
set_option maxRecDepth 100000 in
theorem half_transform0 (SX : Nat → Prop) (X : Option Addr) (n xc : Nat) (ys : List CB) (w : World) (sx : SlR SX w X n 1 (ys.map cxV)) (hX : ∀ q, SX q → q < w.heap.size) (hn3 : N3 n) (hn : 1 ≤ n ∧ n ≤ 4) (st : StT w) (tab : TabB w.heap.size w) (hG : 12 ≤ w.heap.size) :
    Calls Tryz.prog 46 #[.slice X n xc, .bool false] w (Ret (fun v w' => ∃ r A k zs b, v = .tuple #[.slice A n k, .nilIface] ∧ CR 53 w' r A n k zs ∧ zs.map cx = fwdC b (ys.map cx) ∧ Leaf n b ∧ w.heap.size < r ∧ Ch No w w')) := by
  refine calls_of_VC (args := [.slice X n xc, .bool false]) Tryz.func46 rfl Tryz.ntmps46 rfl (VC.seq (VC.region (VO.mv (Rn.assign rfl) rfl rfl rfl (VO.mv (Rn.assign rfl) rfl rfl rfl (VO.nil (VQ.then_code (VC.seq ?_)))))))
  refine VC.region (VO.mv (Rn.move rfl) rfl rfl rfl (VO.mv (Rn.len Tryz.underlying39 rfl) rfl rfl rfl (VO.wk (Wk.call Tryz.call69 rfl (plan_NewL n hn3.h _ st ((tab).up (by omega)) (by omega))) rfl rfl rfl ?_)))
  rintro _ w1 ⟨pp, PP, rfl, pl1, hL, c1⟩
  have z1 := c1.size
  refine VO.mv (Rn.move rfl) rfl rfl rfl (VO.mv (Rn.extract rfl rfl) rfl rfl rfl (VO.mv (Rn.extract rfl rfl) rfl rfl rfl (VO.mv (Rn.assign rfl) rfl rfl rfl (VO.mv (Rn.assign rfl) rfl rfl rfl (VO.nil (VQ.then_code (VC.seq ?_)))))))
  refine VC.seq (VC.region (VO.mv (Rn.move rfl) rfl rfl rfl (VO.mv (Rn.nil_neq_nil Tryz.underlying29 rfl) rfl rfl rfl (VO.nil (VQ.then_code (VC.cond_false rfl (VC.skip ?_)))))))
  refine VQ.then_code (VC.seq (VC.seq (VC.region (VO.mv (Rn.move rfl) rfl rfl rfl (VO.nil (VQ.then_code (VC.cond_false rfl ?_)))))))
  refine VC.skip (VQ.then_code (VC.seq (VC.region (VO.mv (Rn.move rfl) rfl rfl rfl (VO.mv (Rn.move rfl) rfl rfl rfl ?_)))))
  have sx_1 := sx.keep c1
  have st_1 := st.keep c1
  refine VO.wk (Wk.call Tryz.call41 rfl (p_Forward _ _ _ _ _ _ n _ ys _ sx_1 (fun q hq => by have := hX q hq; omega) pl1 (by omega) _ hL.ok.ok hL.ok.okb hL.ok.ne (by rw [hL.ln]) st_1 (by omega) hL.ok.ac)) rfl rfl rfl ?_
  rintro _ w2 ⟨rO, AO, kO, ws, rfl, out2, hz, yo2, c2⟩
  have z2 := c2.size
  refine VO.mv (Rn.extract rfl rfl) rfl rfl rfl (VO.mv (Rn.extract rfl rfl) rfl rfl rfl (VO.mv (Rn.assign rfl) rfl rfl rfl (VO.mv (Rn.assign rfl) rfl rfl rfl (VO.nil (VQ.then_code (VC.ret (VQ.ret2 rfl rfl rfl ?_)))))))
  refine Ret.mk ?_
  have e4 : PP.b.ln.toNat = n := by rw [hL.ln]; rfl
  have o9 := out2; rw [e4] at o9
  have CH_2 := (Ch.refl (No) w).and (c1.trans c2)
  exact ⟨_, _, _, _, _, congrArg (fun l => Value.tuple #[.slice AO l kO, .nilIface]) e4, o9, hz, hL, by omega, CH_2⟩
set_option maxHeartbeats 1000000 in
set_option maxRecDepth 100000 in
theorem half_transform1 (SX : Nat → Prop) (X : Option Addr) (n xc : Nat) (ys : List CB) (w : World) (sx : SlR SX w X n 1 (ys.map cxV)) (hX : ∀ q, SX q → q < w.heap.size) (hn3 : N3 n) (hn : 1 ≤ n ∧ n ≤ 4) (st : StT w) (tab : TabB w.heap.size w) (hG : 12 ≤ w.heap.size) :
    Calls Tryz.prog 46 #[.slice X n xc, .bool true] w (Ret (fun v w' => ∃ r A k zs b, v = .tuple #[.slice A n k, .nilIface] ∧ CR 53 w' r A n k zs ∧ zs.map cx = invC b (ys.map cx) ∧ Leaf n b ∧ w.heap.size < r ∧ Ch No w w')) := by
  refine calls_of_VC (args := [.slice X n xc, .bool true]) Tryz.func46 rfl Tryz.ntmps46 rfl (VC.seq (VC.region (VO.mv (Rn.assign rfl) rfl rfl rfl (VO.mv (Rn.assign rfl) rfl rfl rfl (VO.nil (VQ.then_code (VC.seq ?_)))))))
  refine VC.region (VO.mv (Rn.move rfl) rfl rfl rfl (VO.mv (Rn.len Tryz.underlying39 rfl) rfl rfl rfl (VO.wk (Wk.call Tryz.call69 rfl (plan_NewL n hn3.h _ st ((tab).up (by omega)) (by omega))) rfl rfl rfl ?_)))
  rintro _ w1 ⟨pp, PP, rfl, pl1, hL, c1⟩
  have z1 := c1.size
  refine VO.mv (Rn.move rfl) rfl rfl rfl (VO.mv (Rn.extract rfl rfl) rfl rfl rfl (VO.mv (Rn.extract rfl rfl) rfl rfl rfl (VO.mv (Rn.assign rfl) rfl rfl rfl (VO.mv (Rn.assign rfl) rfl rfl rfl (VO.nil (VQ.then_code (VC.seq ?_)))))))
  refine VC.seq (VC.region (VO.mv (Rn.move rfl) rfl rfl rfl (VO.mv (Rn.nil_neq_nil Tryz.underlying29 rfl) rfl rfl rfl (VO.nil (VQ.then_code (VC.cond_false rfl (VC.skip ?_)))))))
  refine VQ.then_code (VC.seq (VC.seq (VC.region (VO.mv (Rn.move rfl) rfl rfl rfl (VO.nil (VQ.then_code (VC.cond_true rfl ?_)))))))
  refine VC.seq (VC.region (VO.mv (Rn.move rfl) rfl rfl rfl (VO.mv (Rn.move rfl) rfl rfl rfl ?_)))
  have sx_1 := sx.keep c1
  have st_1 := st.keep c1
  refine VO.wk (Wk.call Tryz.call43 rfl (p_Inverse _ _ _ _ _ _ n _ ys _ sx_1 (fun q hq => by have := hX q hq; omega) pl1 (by omega) _ hL.ok.ok hL.ok.okb hL.ok.ne (by rw [hL.ln]) st_1 (by omega) hL.ok.ac)) rfl rfl rfl ?_
  rintro _ w2 ⟨rO, AO, kO, ws, rfl, out2, hz, yo2, c2⟩
  have z2 := c2.size
  refine VO.mv (Rn.extract rfl rfl) rfl rfl rfl (VO.mv (Rn.extract rfl rfl) rfl rfl rfl (VO.mv (Rn.assign rfl) rfl rfl rfl (VO.mv (Rn.assign rfl) rfl rfl rfl (VO.nil (VQ.then_code (VC.ret (VQ.then_ret ?_)))))))
  refine VQ.ret2 rfl rfl rfl (Ret.mk ?_)
  have e4 : PP.b.ln.toNat = n := by rw [hL.ln]; rfl
  have o9 := out2; rw [e4] at o9
  have CH_2 := (Ch.refl (No) w).and (c1.trans c2)
  exact ⟨_, _, _, _, _, congrArg (fun l => Value.tuple #[.slice AO l kO, .nilIface]) e4, o9, hz, hL, by omega, CH_2⟩
set_option maxRecDepth 100000 in
theorem half_Forward1 (SX : Nat → Prop) (X : Option Addr) (xc : Nat) (us : Nat → Int) (xs : List Nat) (w : World) (sx : SlR SX w X 1 1 (xs.map flV)) (hX : ∀ q, SX q → q < w.heap.size) (hu : U40 us) (hx : FlsOk 1 us xs) (st : StT w) (tab : TabB w.heap.size w) (hG : 12 ≤ w.heap.size) :
    Calls Tryz.prog 18 #[.slice X 1 xc] w (Ret (fun v w' => ∃ q zs, v = .tuple #[.slice (some ⟨q, 0, none⟩) 1 1, .nilIface] ∧ CR 53 w' (q + 1) (some ⟨q, 0, none⟩) 1 1 zs ∧ HalfOk 1 us zs ∧ w.heap.size ≤ q ∧ Ch No w w')) := by
  refine calls_of_VC (args := [.slice X 1 xc]) Tryz.func18 rfl Tryz.ntmps18 rfl (VC.seq (VC.region (VO.mv (Rn.assign rfl) rfl rfl rfl (VO.mv (Rn.assign rfl) rfl rfl rfl (VO.nil (VQ.then_code (VC.seq ?_)))))))
  refine VC.region (VO.mv (Rn.move rfl) rfl rfl rfl (VO.mv (Rn.len Tryz.underlying27 rfl) rfl rfl rfl (VO.mv (Rn.assign rfl) rfl rfl rfl (VO.nil (VQ.then_code (VC.seq (VC.seq ?_)))))))
  refine VC.region (VO.mv (Rn.move rfl) rfl rfl rfl (VO.mv (Rn.eql rfl rfl) rfl rfl rfl (VO.nil (VQ.then_code (VC.cond_if rfl (fun hc1 => ?_) (fun hc1 => ?_))))))
  · skip
    refine VC.seq (VC.region (VO.mv (Rn.move rfl) rfl rfl rfl (VO.mv (Rn.indexS Tryz.underlying27 Tryz.sizeOf25 rfl rfl (sx.ne (by omega)) (by omega) (by omega)) rfl rfl rfl (VO.mv (Rn.load Tryz.isAgg25 rfl (sx.getF (by omega) (by omega))) rfl rfl rfl (VO.mv (Rn.complex rfl rfl) rfl rfl rfl (VO.wk (Wk.lit Tryz.underlying39 inf53w56 (by decide) rfl rfl (by rfl) (by decide) (by decide) (by rfl)) rfl rfl rfl ?_))))))
    rintro _ w1 ⟨p1, rfl, N1⟩
    have c1 := N1.ch
    have e1 := N1.p; have z1 := N1.size
    have l25 := SlR.of_new (sz := 1) (l := 1) N1 rfl
    have l25o := Ow.of_new (sz := 1) (l := 1) N1 rfl (by decide)
    refine VO.mv (Rn.assign rfl) rfl rfl rfl (VO.mv (Rn.assign rfl) rfl rfl rfl (VO.nil (VQ.then_code (VC.ret (VQ.then_ret (VQ.ret2 rfl rfl rfl (Ret.mk ?_)))))))
    have CH_1 := (Ch.refl (No) w).and c1
    exact ⟨_, [(xs.getD 0 0, 0)], rfl, l25o, half_one (hx.get 0 (by decide)), by omega, CH_1⟩
  · skip
    omega
set_option maxHeartbeats 2000000 in
set_option maxRecDepth 100000 in
theorem half_Forward2 (SX : Nat → Prop) (X : Option Addr) (xc : Nat) (us : Nat → Int) (xs : List Nat) (w : World) (sx : SlR SX w X 2 1 (xs.map flV)) (hX : ∀ q, SX q → q < w.heap.size) (hu : U40 us) (hx : FlsOk 2 us xs) (st : StT w) (tab : TabB w.heap.size w) (hG : 12 ≤ w.heap.size) :
    Calls Tryz.prog 18 #[.slice X 2 xc] w (Ret (fun v w' => ∃ q zs, v = .tuple #[.slice (some ⟨q, 0, none⟩) 2 2, .nilIface] ∧ CR 53 w' (q + 1) (some ⟨q, 0, none⟩) 2 2 zs ∧ HalfOk 2 us zs ∧ w.heap.size ≤ q ∧ Ch No w w')) := by
  refine calls_of_VC (args := [.slice X 2 xc]) Tryz.func18 rfl Tryz.ntmps18 rfl (VC.seq (VC.region (VO.mv (Rn.assign rfl) rfl rfl rfl (VO.mv (Rn.assign rfl) rfl rfl rfl (VO.nil (VQ.then_code (VC.seq ?_)))))))
  refine VC.region (VO.mv (Rn.move rfl) rfl rfl rfl (VO.mv (Rn.len Tryz.underlying27 rfl) rfl rfl rfl (VO.mv (Rn.assign rfl) rfl rfl rfl (VO.nil (VQ.then_code (VC.seq (VC.seq ?_)))))))
  refine VC.region (VO.mv (Rn.move rfl) rfl rfl rfl (VO.mv (Rn.eql rfl rfl) rfl rfl rfl (VO.nil (VQ.then_code (VC.cond_if rfl (fun hc1 => ?_) (fun hc1 => ?_))))))
  · skip
    omega
  · skip
    refine VC.skip (VQ.then_code (VC.seq (VC.seq (VC.region (VO.mv (Rn.move rfl) rfl rfl rfl (VO.mv (Rn.eql rfl rfl) rfl rfl rfl (VO.mv (Rn.move rfl) rfl rfl rfl ?_)))))))
    refine VO.orJoin (b := _) 4 28 32 rfl (fun hc2 Jhc2 => by
        refine VO.skip rfl rfl rfl (VO.skip rfl rfl rfl (VO.skip rfl rfl rfl (VO.mv (Rn.pick_true rfl rfl) rfl rfl rfl ?_)))
        exact (VO.fg rfl (VO.fg rfl (VO.fg rfl Jhc2)))) (fun hc2 Jhc2 => by
        try simp only [Bool.and_eq_true, Bool.or_eq_true, Bool.not_eq_true', Bool.not_eq_false', Bool.and_eq_false_iff, Bool.or_eq_false_iff, decide_eq_true_eq, decide_eq_false_iff_not] at hc2
        refine VO.mv (Rn.move rfl) rfl rfl rfl (VO.mv (Rn.rem0 rfl rfl (by omega) (by omega)) rfl rfl rfl (VO.mv (Rn.neq rfl rfl) rfl rfl rfl (VO.mv (Rn.pick_false rfl rfl) rfl rfl rfl ?_)))
        exact (VO.fg rfl (VO.fg rfl (VO.fg rfl Jhc2)))) ?_
    refine VO.mv (Rn.move rfl) rfl rfl rfl ?_
    refine VO.orJoin (b := _) 3 33 36 rfl (fun hc3 Jhc3 => by
        refine VO.skip rfl rfl rfl (VO.skip rfl rfl rfl (VO.mv (Rn.pick_true rfl rfl) rfl rfl rfl ?_))
        exact (VO.fg rfl (VO.fg rfl Jhc3))) (fun hc3 Jhc3 => by
        try simp only [Bool.and_eq_true, Bool.or_eq_true, Bool.not_eq_true', Bool.not_eq_false', Bool.and_eq_false_iff, Bool.or_eq_false_iff, decide_eq_true_eq, decide_eq_false_iff_not] at hc3
        refine VO.mv (Rn.move rfl) rfl rfl rfl (VO.mv (Rn.gtr rfl rfl) rfl rfl rfl (VO.mv (Rn.pick_false rfl rfl) rfl rfl rfl ?_))
        exact (VO.fg rfl (VO.fg rfl Jhc3))) ?_
    refine VO.nil (VQ.then_code (VC.cond rfl (fun hc4 => ?_) (fun hc4 => ?_)))
    · skip
      try simp only [Bool.and_eq_true, Bool.or_eq_true, Bool.not_eq_true', Bool.not_eq_false', Bool.and_eq_false_iff, Bool.or_eq_false_iff, decide_eq_true_eq, decide_eq_false_iff_not] at hc4
      omega
    · skip
      try simp only [Bool.and_eq_true, Bool.or_eq_true, Bool.not_eq_true', Bool.not_eq_false', Bool.and_eq_false_iff, Bool.or_eq_false_iff, decide_eq_true_eq, decide_eq_false_iff_not] at hc4
      refine VC.skip (VQ.then_code (VC.seq (VC.region (VO.mv (Rn.move rfl) rfl rfl rfl (VO.mv (Rn.quo0 rfl rfl (by omega) (by omega) (by omega)) rfl rfl rfl (VO.mv (Rn.assign rfl) rfl rfl rfl (VO.nil ?_)))))))
      refine VQ.then_code (VC.seq (VC.region (VO.mv (Rn.move rfl) rfl rfl rfl (VO.wk (Wk.mkC Tryz.underlying39 inf53w56 rfl rfl (by omega) (by omega) (by omega)) rfl rfl rfl ?_))))
      rintro _ w1 ⟨p1, rfl, o1, c1, e1, z1⟩
      refine VO.mv (Rn.assign rfl) rfl rfl rfl (VO.nil (VQ.then_code (VC.seq (VC.seq (VC.region (VO.mv (Rn.move rfl) rfl rfl rfl (VO.mv (Rn.len Tryz.underlying39 rfl) rfl rfl rfl ?_)))))))
      refine VO.mv (Rn.move rfl) rfl rfl rfl (VO.nil (VQ.then_code (VC.block ?_)))
      have sx_1 := sx.keep c1
      have st_1 := st.keep c1
      have tab_1 := tab.keep c1
      have CH_1 := (Ch.refl (No) w).and c1
      refine VC.loopS (σ := Nat) (fun j => [(0, .slice X 2 xc), (4, .int .i64 2), (5, .int .i64 1), (6, .slice (some ⟨p1, 0, none⟩) 1 1), (43, .int .i64 1), (44, .int .i64 j)]) (fun j w' => j ≤ 1 ∧ w1.heap.size ≤ w'.heap.size ∧ CR 53 w' ((p1 + 1)) (some ⟨p1, 0, none⟩) 1 1 (rowF 1 (prC xs) j) ∧ SlR SX w' X 2 1 (xs.map flV) ∧ StT w' ∧ TabB w.heap.size w' ∧ Ch (No) w w') (fun j => 1 - j) 0 ?_ ⟨rfl, rfl, rfl, rfl, rfl, rfl, trivial⟩ ?_
      · exact ⟨(by omega), (Nat.le_refl _), o1, sx_1, st_1, tab_1, CH_1⟩
      rintro j w2 ⟨hj, hsz2, row_2, sx_2, st_2, tab_2, CH_2⟩
      show VC _ _ _ _ [(0, .slice X 2 xc), (4, .int .i64 2), (5, .int .i64 1), (6, .slice (some ⟨p1, 0, none⟩) 1 1), (43, .int .i64 1), (44, .int .i64 j)] _
      refine VC.seq (VC.region (VO.mv (Rn.lss rfl rfl) rfl rfl rfl (VO.nil (VQ.then_code (VC.seq (VC.cond_if rfl (fun hc5 => ?_) (fun hc5 => ?_)))))))
      · skip
        refine VC.skip (VQ.then_code (VC.seq (VC.block (VC.seq (VC.region (VO.mv (Rn.move rfl) rfl rfl rfl (VO.mv (Rn.assign rfl) rfl rfl rfl ?_)))))))
        refine VO.nil (VQ.then_code (VC.draws 15 [(0, true), (1, true), (2, true), (3, true), (4, true), (5, true), (6, true), (7, true), (8, true), (9, true), (10, true), (11, true), (12, true), (13, true), (14, true)] (fun w1 w' => Ch (At (p1 + 1)) w1 w') mixed (by kernel_rfl) (fun _ _ => Ch.refl _ _) ?_))
        intro w3 D3
        have c3 := Ch.of_drew D3; have z3 := c3.size
        have sx_3 := sx_2.keep c3
        have row_3 := row_2.keep c3
        refine VH.mv (fun w' hS => Rn.move rfl) rfl rfl rfl rfl (VH.mv (fun w' hS => Rn.move rfl) rfl rfl rfl rfl (VH.mv (fun w' hS => Rn.move rfl) rfl rfl rfl rfl (VH.mv (fun w' hS => Rn.move rfl) rfl rfl rfl rfl ?_)))
        refine VH.mv (fun w' hS => Rn.mul rfl rfl (by rw [IntKind.wrap_i64]; omega)) rfl rfl rfl rfl ?_
        refine VH.mv (fun w' hS => Rn.indexS Tryz.underlying27 Tryz.sizeOf25 rfl rfl ((sx_3.to hS (by first | exact fun _ _ _ _ => id | (intro q h1 h2 hx h3; have := hX q h2; omega))).ne (by omega)) (by omega) (by omega)) rfl rfl rfl rfl ?_
        refine VH.mv (fun w' hS => Rn.load Tryz.isAgg25 rfl ((sx_3.to hS (by first | exact fun _ _ _ _ => id | (intro q h1 h2 hx h3; have := hX q h2; omega))).getF (by omega) (by omega))) rfl rfl rfl rfl ?_
        refine VH.mv (fun w' hS => Rn.move rfl) rfl rfl rfl rfl (VH.mv (fun w' hS => Rn.move rfl) rfl rfl rfl rfl ?_)
        refine VH.mv (fun w' hS => Rn.mul rfl rfl (by rw [IntKind.wrap_i64]; omega)) rfl rfl rfl rfl ?_
        refine VH.mv (fun w' hS => Rn.add rfl rfl (by rw [IntKind.wrap_i64]; omega)) rfl rfl rfl rfl ?_
        refine VH.mv (fun w' hS => Rn.indexS Tryz.underlying27 Tryz.sizeOf25 rfl rfl ((sx_3.to hS (by first | exact fun _ _ _ _ => id | (intro q h1 h2 hx h3; have := hX q h2; omega))).ne (by omega)) (by omega) (by omega)) rfl rfl rfl rfl ?_
        refine VH.mv (fun w' hS => Rn.load Tryz.isAgg25 rfl ((sx_3.to hS (by first | exact fun _ _ _ _ => id | (intro q h1 h2 hx h3; have := hX q h2; omega))).getF (by omega) (by omega))) rfl rfl rfl rfl ?_
        refine VH.mv (fun w' hS => Rn.complex rfl rfl) rfl rfl rfl rfl (VH.mv (fun w' hS => Rn.indexS Tryz.underlying39 Tryz.sizeOf53 rfl rfl (row_3.sl.ne (by omega)) (by omega) (by omega)) rfl rfl rfl rfl (VH.done (VO.wk0 (Wk.putC Tryz.sizeOf53 rfl rfl (by omega) row_3) rfl rfl ?_)))
        rintro _ w4 ⟨o4, c4, z4⟩
        have y4 := o4.lt
        refine VO.nil (VQ.noPanic (VQ.block_normal (VQ.then_code (VC.region ?_))))
        refine VO.mv (Rn.add rfl rfl (by rw [IntKind.wrap_i64]; omega)) rfl rfl rfl ?_
        refine VO.mv (Rn.move rfl) rfl rfl rfl (VO.nil ?_)
        refine VQ.round (j + 1) (by first | omega | (dsimp only; omega)) ?_ ⟨rfl, rfl, rfl, rfl, rfl, rfl, trivial⟩
        have sx_4 := sx_3.to c4 (by first | exact fun _ _ _ _ => id | (intro q h1 h2 hx h3; have := hX q h2; omega))
        have st_3 := st_2.keep c3
        have st_4 := st_3.to c4 (by first | exact fun _ _ _ _ => id | (intro q h1 h2 hx h3; omega))
        have tab_3 := tab_2.keep c3
        have tab_4 := tab_3.to c4 (by first | exact fun _ _ _ _ => id | (intro q h1 h2 hx h3; omega))
        have CH_3 := CH_2.and c3
        have CH_4 : Ch (No) w w4 := CH_3.then c4 (by intro q h1 h2; rcases h2 with h2 | h2 <;> first | exact h2 | (exfalso; omega) | omega)
        exact ⟨(by omega), (by omega), (by have h9 := o4; rw [Int.toNat_natCast] at h9; rw [← rowF_set (by omega)]; exact h9), sx_4, st_4, tab_4, CH_4⟩
      · skip
        refine VC.exit (VQ.then_exit (VQ.then_exit (VQ.block_exit (VQ.then_code (VC.seq ?_)))))
        obtain rfl : j = 1 := by omega
        refine VC.region (VO.mv (Rn.move rfl) rfl rfl rfl (VO.wk (Wk.call Tryz.call46 rfl (half_transform0 _ _ 1 _ (rowF 1 (prC xs) 1) _ (row_2).sl (fun q hq => by omega) ⟨by decide⟩ (by omega) st_2 ((tab_2).up (by omega)) (by omega))) rfl rfl rfl ?_))
        rintro _ w5 ⟨rT, AT, kT, ts, bT, rfl, tz5, htz, hL, yt5, c5⟩
        have htl := CR.len tz5; have ytl5 := Ow.lt tz5
        have z5 := c5.size
        have hmid := half_mid hL hu hx htz
        refine VO.mv (Rn.move rfl) rfl rfl rfl (VO.mv (Rn.extract rfl rfl) rfl rfl rfl (VO.mv (Rn.extract rfl rfl) rfl rfl rfl (VO.mv (Rn.assign rfl) rfl rfl rfl (VO.mv (Rn.assign rfl) rfl rfl rfl (VO.nil (VQ.then_code (VC.seq ?_)))))))
        refine VC.seq (VC.region (VO.mv (Rn.move rfl) rfl rfl rfl (VO.mv (Rn.nil_neq_nil Tryz.underlying29 rfl) rfl rfl rfl (VO.nil (VQ.then_code (VC.cond_false rfl (VC.skip ?_)))))))
        refine VQ.then_code (VC.seq (VC.region (VO.mv (Rn.move rfl) rfl rfl rfl ?_)))
        refine VO.mv (Rn.add rfl rfl (by rw [IntKind.wrap_i64]; omega)) rfl rfl rfl ?_
        refine VO.wk (Wk.mkC Tryz.underlying39 inf53w56 rfl rfl (by omega) (by omega) (by omega)) rfl rfl rfl ?_
        rintro _ w6 ⟨p6, rfl, o6, c6, e6, z6⟩
        refine VO.mv (Rn.assign rfl) rfl rfl rfl (VO.nil (VQ.then_code (VC.seq (VC.seq (VC.region (VO.mv (Rn.move rfl) rfl rfl rfl (VO.mv (Rn.len Tryz.underlying39 rfl) rfl rfl rfl ?_)))))))
        refine VO.mv (Rn.move rfl) rfl rfl rfl (VO.nil (VQ.then_code (VC.block ?_)))
        have tz_6 := tz5.keep c6
        have CH_6 := CH_2.and (c5.trans c6)
        refine VC.loopS (σ := Nat × List CB) (fun (k, os) => [(4, .int .i64 2), (5, .int .i64 1), (8, .slice AT 1 kT), (10, .slice (some ⟨p6, 0, none⟩) 2 2), (75, .int .i64 2), (76, .int .i64 k)]) (fun (k, os) w' => k ≤ 2 ∧ CxU 2 us 2 k os ∧ w6.heap.size ≤ w'.heap.size ∧ CR 53 w' rT AT 1 kT ts ∧ CR 53 w' ((p6 + 1)) (some ⟨p6, 0, none⟩) 2 2 os ∧ Ch (No) w w') (fun (k, os) => 2 - k) (0, List.replicate 2 (0, 0)) ?_ ⟨rfl, rfl, rfl, rfl, rfl, rfl, trivial⟩ ?_
        · exact ⟨(by omega), (CxU.zero _ _ _), (Nat.le_refl _), tz_6, o6, CH_6⟩
        rintro ⟨k, os⟩ w7 ⟨hk, ho, hsz7, tz_7, ou_7, CH_7⟩
        show VC _ _ _ _ [(4, .int .i64 2), (5, .int .i64 1), (8, .slice AT 1 kT), (10, .slice (some ⟨p6, 0, none⟩) 2 2), (75, .int .i64 2), (76, .int .i64 k)] _
        have e1 : ((k : Int) % 1).toNat = k % 1 := by omega
        have e2 : k ≤ 1 → ((1 - (k : Int)) % 1).toNat = (1 - k) % 1 := fun _ => by omega
        refine VC.seq (VC.region (VO.mv (Rn.lss rfl rfl) rfl rfl rfl (VO.nil (VQ.then_code (VC.seq (VC.cond_if rfl (fun hc6 => ?_) (fun hc6 => ?_)))))))
        · skip
          refine VC.skip (VQ.then_code (VC.seq (VC.block (VC.seq (VC.region (VO.mv (Rn.move rfl) rfl rfl rfl (VO.mv (Rn.assign rfl) rfl rfl rfl ?_)))))))
          refine VO.nil (VQ.then_code (VC.seq (VC.draws 16 [(0, true), (1, true), (2, true), (3, true), (4, true), (5, true), (6, true), (7, true), (8, true), (9, true), (10, true), (11, true), (12, true), (13, true), (14, false), (15, true)] (fun w1 w' => Ch (No) w1 w') mixed (by kernel_rfl) (fun _ _ => Ch.refl _ _) ?_)))
          intro w8 D8
          have c8 := Ch.of_drew D8; have z8 := c8.size
          have tz_8 := tz_7.keep c8
          have ou_8 := ou_7.keep c8
          refine VH.mv (fun w' hS => Rn.move rfl) rfl rfl rfl rfl (VH.mv (fun w' hS => Rn.move rfl) rfl rfl rfl rfl (VH.mv (fun w' hS => Rn.move rfl) rfl rfl rfl rfl (VH.mv (fun w' hS => Rn.rem0 rfl rfl (by omega) (by omega)) rfl rfl rfl rfl (VH.mv (fun w' hS => Rn.indexS Tryz.underlying39 Tryz.sizeOf53 rfl rfl (tz_8.sl.ne (by omega)) (by omega) (by omega)) rfl rfl rfl rfl (VH.mv (fun w' hS => Rn.load Tryz.isAgg53 rfl ((tz_8.keep hS).sl.getC (by omega) (by omega))) rfl rfl rfl rfl (VH.mv (fun w' hS => Rn.move rfl) rfl rfl rfl rfl (VH.mv (fun w' hS => Rn.move rfl) rfl rfl rfl rfl ?_)))))))
          refine VH.mv (fun w' hS => Rn.move rfl) rfl rfl rfl rfl ?_
          refine VH.mv (fun w' hS => Rn.sub rfl rfl (by rw [IntKind.wrap_i64]; omega)) rfl rfl rfl rfl ?_
          refine VH.mv (fun w' hS => Rn.move rfl) rfl rfl rfl rfl (VH.mv (fun w' hS => Rn.rem0 rfl rfl (by omega) (by omega)) rfl rfl rfl rfl (VH.mv (fun w' hS => Rn.indexS Tryz.underlying39 Tryz.sizeOf53 rfl rfl (tz_8.sl.ne (by omega)) (by omega) (by omega)) rfl rfl rfl rfl (VH.mv (fun w' hS => Rn.load Tryz.isAgg53 rfl ((tz_8.keep hS).sl.getC (by omega) (by omega))) rfl rfl rfl rfl (VH.wk (Wk.call Tryz.call47 rfl (cplx_Conj _ _ _)) rfl rfl rfl rfl ?_))))
          rintro _ w9 ⟨p9, q9, rfl, F9, c9⟩
          have z9 := c9.size
          have RD_9 := (Ch.refl (No) w8).and c9
          refine ⟨RD_9, ?_⟩
          refine VH.mv (fun w' hS => Rn.assign rfl) rfl rfl rfl rfl (VH.done (VO.mv (Rn.assign rfl) rfl rfl rfl (VO.nil (VQ.noPanic (VQ.then_code (VC.seq (VC.region ?_)))))))
          refine VO.mv (Rn.move rfl) rfl rfl rfl (VO.mv (Rn.move rfl) rfl rfl rfl (VO.wk (Wk.cbin (.inr rfl) rfl rfl) rfl rfl rfl ?_))
          rintro _ w10 ⟨p10, q10, rfl, F10, c10⟩
          have z10 := c10.size
          refine VO.wk (Wk.call Tryz.call49 rfl (cplx_MinusI _ _ _)) rfl rfl rfl ?_
          rintro _ w11 ⟨p11, q11, rfl, F11, c11⟩
          have z11 := c11.size
          refine VO.wk (Wk.call Tryz.call48 rfl (cplx_TimesH _ _ _)) rfl rfl rfl ?_
          rintro _ w12 ⟨p12, q12, rfl, F12, c12⟩
          have z12 := c12.size
          refine VO.mv (Rn.assign rfl) rfl rfl rfl (VO.nil (VQ.then_code (VC.seq (VC.region (VO.mv (Rn.move rfl) rfl rfl rfl (VO.mv (Rn.move rfl) rfl rfl rfl (VO.mv (Rn.move rfl) rfl rfl rfl ?_)))))))
          refine VO.wk (Wk.call Tryz.call42 rfl (roots_Twist _ _ 2 (k : Int) k (by omega) (by omega) ⟨by omega, by omega⟩ (by omega) _)) rfl rfl rfl ?_
          rintro _ w13 ⟨x13, y13, rfl, F13, c13⟩
          have z13 := c13.size
          refine VO.mv (Rn.move rfl) rfl rfl rfl (VO.mv (Rn.extract rfl rfl) rfl rfl rfl (VO.mv (Rn.extract rfl rfl) rfl rfl rfl (VO.mv (Rn.assign rfl) rfl rfl rfl (VO.mv (Rn.assign rfl) rfl rfl rfl (VO.nil (VQ.then_code (VC.seq ?_)))))))
          refine VC.seq (VC.region (VO.mv (Rn.move rfl) rfl rfl rfl (VO.mv (Rn.nil_neq_nil Tryz.underlying29 rfl) rfl rfl rfl (VO.nil (VQ.then_code (VC.cond_false rfl (VC.skip ?_)))))))
          refine VQ.then_code (VC.region (VO.mv (Rn.move rfl) rfl rfl rfl (VO.mv (Rn.move rfl) rfl rfl rfl (VO.mv (Rn.move rfl) rfl rfl rfl (VO.mv (Rn.move rfl) rfl rfl rfl (VO.wk (Wk.call Tryz.call50 rfl (half_even _ _ _ _ _)) rfl rfl rfl ?_))))))
          rintro _ w14 ⟨p14, q14, rfl, F14, c14⟩
          have z14 := c14.size
          refine VO.mv (Rn.move rfl) rfl rfl rfl (VO.wk (Wk.cbin (.inl rfl) rfl rfl) rfl rfl rfl ?_)
          rintro _ w15 ⟨p15, q15, rfl, F15, c15⟩
          have z15 := c15.size
          have ou_15 := ou_8.keep (c9.trans (c10.trans (c11.trans (c12.trans (c13.trans (c14.trans c15))))))
          refine VO.mv (Rn.indexS Tryz.underlying39 Tryz.sizeOf53 rfl rfl (ou_15.sl.ne (by omega)) (by omega) (by omega)) rfl rfl rfl (VO.wk0 (Wk.putC Tryz.sizeOf53 rfl rfl (by omega) ou_15) rfl rfl ?_)
          rintro _ w16 ⟨o16, c16, z16⟩
          have y16 := o16.lt
          refine VO.nil (VQ.block_normal (VQ.then_code (VC.region ?_)))
          refine VO.mv (Rn.add rfl rfl (by rw [IntKind.wrap_i64]; omega)) rfl rfl rfl ?_
          refine VO.mv (Rn.move rfl) rfl rfl rfl (VO.nil ?_)
          refine VQ.round (k + 1, os.set k (p15, q15)) (by first | omega | (dsimp only; omega)) ?_ ⟨rfl, rfl, rfl, rfl, rfl, rfl, trivial⟩
          have tz_15 := tz_8.keep (c9.trans (c10.trans (c11.trans (c12.trans (c13.trans (c14.trans c15))))))
          have tz_16 := tz_15.to c16 (by first | exact fun _ _ _ _ => id | (intro q h1 h2 hx h3; omega))
          have CH_15 := CH_7.and (c8.trans (c9.trans (c10.trans (c11.trans (c12.trans (c13.trans (c14.trans c15)))))))
          have CH_16 : Ch (No) w w16 := CH_15.then c16 (by intro q h1 h2; rcases h2 with h2 | h2 <;> first | exact h2 | (exfalso; omega) | omega)
          exact ⟨(by omega), (ho.step (by omega) (by rw [show cx (p15, q15) = fwdH 1 (fun j => cx (ts.getD j (0, 0))) k from (fwdH_of (za := ts.getD ((k : Int) % 1).toNat (0, 0)) (zb := ts.getD ((1 - (k : Int)) % 1).toNat (0, 0)) (by rw [e1]) (by rw [e2 (by omega)]) F9 F10 F11 F12 F13 F14 F15 rfl)]; exact fwd_half (h := 1) (by decide) hu hmid (by omega))), (by omega), tz_16, o16, CH_16⟩
        · skip
          refine VC.exit (VQ.then_exit (VQ.then_exit (VQ.block_exit (VQ.then_code (VC.seq (VC.region (VO.mv (Rn.move rfl) rfl rfl rfl ?_)))))))
          refine VO.mv (Rn.assign rfl) rfl rfl rfl (VO.mv (Rn.assign rfl) rfl rfl rfl (VO.nil (VQ.then_code (VC.ret (VQ.ret2 rfl rfl rfl (Ret.mk ?_))))))
          obtain rfl : k = 2 := by omega
          exact ⟨_, os, rfl, ou_7, ⟨ho.len, fun i hi => ho.get i (by omega)⟩, by omega, CH_7⟩
set_option maxHeartbeats 2000000 in
set_option maxRecDepth 100000 in
theorem half_Forward4 (SX : Nat → Prop) (X : Option Addr) (xc : Nat) (us : Nat → Int) (xs : List Nat) (w : World) (sx : SlR SX w X 4 1 (xs.map flV)) (hX : ∀ q, SX q → q < w.heap.size) (hu : U40 us) (hx : FlsOk 4 us xs) (st : StT w) (tab : TabB w.heap.size w) (hG : 12 ≤ w.heap.size) :
    Calls Tryz.prog 18 #[.slice X 4 xc] w (Ret (fun v w' => ∃ q zs, v = .tuple #[.slice (some ⟨q, 0, none⟩) 3 3, .nilIface] ∧ CR 53 w' (q + 1) (some ⟨q, 0, none⟩) 3 3 zs ∧ HalfOk 4 us zs ∧ w.heap.size ≤ q ∧ Ch No w w')) := by
  refine calls_of_VC (args := [.slice X 4 xc]) Tryz.func18 rfl Tryz.ntmps18 rfl (VC.seq (VC.region (VO.mv (Rn.assign rfl) rfl rfl rfl (VO.mv (Rn.assign rfl) rfl rfl rfl (VO.nil (VQ.then_code (VC.seq ?_)))))))
  refine VC.region (VO.mv (Rn.move rfl) rfl rfl rfl (VO.mv (Rn.len Tryz.underlying27 rfl) rfl rfl rfl (VO.mv (Rn.assign rfl) rfl rfl rfl (VO.nil (VQ.then_code (VC.seq (VC.seq ?_)))))))
  refine VC.region (VO.mv (Rn.move rfl) rfl rfl rfl (VO.mv (Rn.eql rfl rfl) rfl rfl rfl (VO.nil (VQ.then_code (VC.cond_if rfl (fun hc1 => ?_) (fun hc1 => ?_))))))
  · skip
    omega
  · skip
    refine VC.skip (VQ.then_code (VC.seq (VC.seq (VC.region (VO.mv (Rn.move rfl) rfl rfl rfl (VO.mv (Rn.eql rfl rfl) rfl rfl rfl (VO.mv (Rn.move rfl) rfl rfl rfl ?_)))))))
    refine VO.orJoin (b := _) 4 28 32 rfl (fun hc2 Jhc2 => by
        refine VO.skip rfl rfl rfl (VO.skip rfl rfl rfl (VO.skip rfl rfl rfl (VO.mv (Rn.pick_true rfl rfl) rfl rfl rfl ?_)))
        exact (VO.fg rfl (VO.fg rfl (VO.fg rfl Jhc2)))) (fun hc2 Jhc2 => by
        try simp only [Bool.and_eq_true, Bool.or_eq_true, Bool.not_eq_true', Bool.not_eq_false', Bool.and_eq_false_iff, Bool.or_eq_false_iff, decide_eq_true_eq, decide_eq_false_iff_not] at hc2
        refine VO.mv (Rn.move rfl) rfl rfl rfl (VO.mv (Rn.rem0 rfl rfl (by omega) (by omega)) rfl rfl rfl (VO.mv (Rn.neq rfl rfl) rfl rfl rfl (VO.mv (Rn.pick_false rfl rfl) rfl rfl rfl ?_)))
        exact (VO.fg rfl (VO.fg rfl (VO.fg rfl Jhc2)))) ?_
    refine VO.mv (Rn.move rfl) rfl rfl rfl ?_
    refine VO.orJoin (b := _) 3 33 36 rfl (fun hc3 Jhc3 => by
        refine VO.skip rfl rfl rfl (VO.skip rfl rfl rfl (VO.mv (Rn.pick_true rfl rfl) rfl rfl rfl ?_))
        exact (VO.fg rfl (VO.fg rfl Jhc3))) (fun hc3 Jhc3 => by
        try simp only [Bool.and_eq_true, Bool.or_eq_true, Bool.not_eq_true', Bool.not_eq_false', Bool.and_eq_false_iff, Bool.or_eq_false_iff, decide_eq_true_eq, decide_eq_false_iff_not] at hc3
        refine VO.mv (Rn.move rfl) rfl rfl rfl (VO.mv (Rn.gtr rfl rfl) rfl rfl rfl (VO.mv (Rn.pick_false rfl rfl) rfl rfl rfl ?_))
        exact (VO.fg rfl (VO.fg rfl Jhc3))) ?_
    refine VO.nil (VQ.then_code (VC.cond rfl (fun hc4 => ?_) (fun hc4 => ?_)))
    · skip
      try simp only [Bool.and_eq_true, Bool.or_eq_true, Bool.not_eq_true', Bool.not_eq_false', Bool.and_eq_false_iff, Bool.or_eq_false_iff, decide_eq_true_eq, decide_eq_false_iff_not] at hc4
      omega
    · skip
      try simp only [Bool.and_eq_true, Bool.or_eq_true, Bool.not_eq_true', Bool.not_eq_false', Bool.and_eq_false_iff, Bool.or_eq_false_iff, decide_eq_true_eq, decide_eq_false_iff_not] at hc4
      refine VC.skip (VQ.then_code (VC.seq (VC.region (VO.mv (Rn.move rfl) rfl rfl rfl (VO.mv (Rn.quo0 rfl rfl (by omega) (by omega) (by omega)) rfl rfl rfl (VO.mv (Rn.assign rfl) rfl rfl rfl (VO.nil ?_)))))))
      refine VQ.then_code (VC.seq (VC.region (VO.mv (Rn.move rfl) rfl rfl rfl (VO.wk (Wk.mkC Tryz.underlying39 inf53w56 rfl rfl (by omega) (by omega) (by omega)) rfl rfl rfl ?_))))
      rintro _ w1 ⟨p1, rfl, o1, c1, e1, z1⟩
      refine VO.mv (Rn.assign rfl) rfl rfl rfl (VO.nil (VQ.then_code (VC.seq (VC.seq (VC.region (VO.mv (Rn.move rfl) rfl rfl rfl (VO.mv (Rn.len Tryz.underlying39 rfl) rfl rfl rfl ?_)))))))
      refine VO.mv (Rn.move rfl) rfl rfl rfl (VO.nil (VQ.then_code (VC.block ?_)))
      have sx_1 := sx.keep c1
      have st_1 := st.keep c1
      have tab_1 := tab.keep c1
      have CH_1 := (Ch.refl (No) w).and c1
      refine VC.loopS (σ := Nat) (fun j => [(0, .slice X 4 xc), (4, .int .i64 4), (5, .int .i64 2), (6, .slice (some ⟨p1, 0, none⟩) 2 2), (43, .int .i64 2), (44, .int .i64 j)]) (fun j w' => j ≤ 2 ∧ w1.heap.size ≤ w'.heap.size ∧ CR 53 w' ((p1 + 1)) (some ⟨p1, 0, none⟩) 2 2 (rowF 2 (prC xs) j) ∧ SlR SX w' X 4 1 (xs.map flV) ∧ StT w' ∧ TabB w.heap.size w' ∧ Ch (No) w w') (fun j => 2 - j) 0 ?_ ⟨rfl, rfl, rfl, rfl, rfl, rfl, trivial⟩ ?_
      · exact ⟨(by omega), (Nat.le_refl _), o1, sx_1, st_1, tab_1, CH_1⟩
      rintro j w2 ⟨hj, hsz2, row_2, sx_2, st_2, tab_2, CH_2⟩
      show VC _ _ _ _ [(0, .slice X 4 xc), (4, .int .i64 4), (5, .int .i64 2), (6, .slice (some ⟨p1, 0, none⟩) 2 2), (43, .int .i64 2), (44, .int .i64 j)] _
      refine VC.seq (VC.region (VO.mv (Rn.lss rfl rfl) rfl rfl rfl (VO.nil (VQ.then_code (VC.seq (VC.cond_if rfl (fun hc5 => ?_) (fun hc5 => ?_)))))))
      · skip
        refine VC.skip (VQ.then_code (VC.seq (VC.block (VC.seq (VC.region (VO.mv (Rn.move rfl) rfl rfl rfl (VO.mv (Rn.assign rfl) rfl rfl rfl ?_)))))))
        refine VO.nil (VQ.then_code (VC.draws 15 [(0, true), (1, true), (2, true), (3, true), (4, true), (5, true), (6, true), (7, true), (8, true), (9, true), (10, true), (11, true), (12, true), (13, true), (14, true)] (fun w1 w' => Ch (At (p1 + 1)) w1 w') mixed (by kernel_rfl) (fun _ _ => Ch.refl _ _) ?_))
        intro w3 D3
        have c3 := Ch.of_drew D3; have z3 := c3.size
        have sx_3 := sx_2.keep c3
        have row_3 := row_2.keep c3
        refine VH.mv (fun w' hS => Rn.move rfl) rfl rfl rfl rfl (VH.mv (fun w' hS => Rn.move rfl) rfl rfl rfl rfl (VH.mv (fun w' hS => Rn.move rfl) rfl rfl rfl rfl (VH.mv (fun w' hS => Rn.move rfl) rfl rfl rfl rfl ?_)))
        refine VH.mv (fun w' hS => Rn.mul rfl rfl (by rw [IntKind.wrap_i64]; omega)) rfl rfl rfl rfl ?_
        refine VH.mv (fun w' hS => Rn.indexS Tryz.underlying27 Tryz.sizeOf25 rfl rfl ((sx_3.to hS (by first | exact fun _ _ _ _ => id | (intro q h1 h2 hx h3; have := hX q h2; omega))).ne (by omega)) (by omega) (by omega)) rfl rfl rfl rfl ?_
        refine VH.mv (fun w' hS => Rn.load Tryz.isAgg25 rfl ((sx_3.to hS (by first | exact fun _ _ _ _ => id | (intro q h1 h2 hx h3; have := hX q h2; omega))).getF (by omega) (by omega))) rfl rfl rfl rfl ?_
        refine VH.mv (fun w' hS => Rn.move rfl) rfl rfl rfl rfl (VH.mv (fun w' hS => Rn.move rfl) rfl rfl rfl rfl ?_)
        refine VH.mv (fun w' hS => Rn.mul rfl rfl (by rw [IntKind.wrap_i64]; omega)) rfl rfl rfl rfl ?_
        refine VH.mv (fun w' hS => Rn.add rfl rfl (by rw [IntKind.wrap_i64]; omega)) rfl rfl rfl rfl ?_
        refine VH.mv (fun w' hS => Rn.indexS Tryz.underlying27 Tryz.sizeOf25 rfl rfl ((sx_3.to hS (by first | exact fun _ _ _ _ => id | (intro q h1 h2 hx h3; have := hX q h2; omega))).ne (by omega)) (by omega) (by omega)) rfl rfl rfl rfl ?_
        refine VH.mv (fun w' hS => Rn.load Tryz.isAgg25 rfl ((sx_3.to hS (by first | exact fun _ _ _ _ => id | (intro q h1 h2 hx h3; have := hX q h2; omega))).getF (by omega) (by omega))) rfl rfl rfl rfl ?_
        refine VH.mv (fun w' hS => Rn.complex rfl rfl) rfl rfl rfl rfl (VH.mv (fun w' hS => Rn.indexS Tryz.underlying39 Tryz.sizeOf53 rfl rfl (row_3.sl.ne (by omega)) (by omega) (by omega)) rfl rfl rfl rfl (VH.done (VO.wk0 (Wk.putC Tryz.sizeOf53 rfl rfl (by omega) row_3) rfl rfl ?_)))
        rintro _ w4 ⟨o4, c4, z4⟩
        have y4 := o4.lt
        refine VO.nil (VQ.noPanic (VQ.block_normal (VQ.then_code (VC.region ?_))))
        refine VO.mv (Rn.add rfl rfl (by rw [IntKind.wrap_i64]; omega)) rfl rfl rfl ?_
        refine VO.mv (Rn.move rfl) rfl rfl rfl (VO.nil ?_)
        refine VQ.round (j + 1) (by first | omega | (dsimp only; omega)) ?_ ⟨rfl, rfl, rfl, rfl, rfl, rfl, trivial⟩
        have sx_4 := sx_3.to c4 (by first | exact fun _ _ _ _ => id | (intro q h1 h2 hx h3; have := hX q h2; omega))
        have st_3 := st_2.keep c3
        have st_4 := st_3.to c4 (by first | exact fun _ _ _ _ => id | (intro q h1 h2 hx h3; omega))
        have tab_3 := tab_2.keep c3
        have tab_4 := tab_3.to c4 (by first | exact fun _ _ _ _ => id | (intro q h1 h2 hx h3; omega))
        have CH_3 := CH_2.and c3
        have CH_4 : Ch (No) w w4 := CH_3.then c4 (by intro q h1 h2; rcases h2 with h2 | h2 <;> first | exact h2 | (exfalso; omega) | omega)
        exact ⟨(by omega), (by omega), (by have h9 := o4; rw [Int.toNat_natCast] at h9; rw [← rowF_set (by omega)]; exact h9), sx_4, st_4, tab_4, CH_4⟩
      · skip
        refine VC.exit (VQ.then_exit (VQ.then_exit (VQ.block_exit (VQ.then_code (VC.seq ?_)))))
        obtain rfl : j = 2 := by omega
        refine VC.region (VO.mv (Rn.move rfl) rfl rfl rfl (VO.wk (Wk.call Tryz.call46 rfl (half_transform0 _ _ 2 _ (rowF 2 (prC xs) 2) _ (row_2).sl (fun q hq => by omega) ⟨by decide⟩ (by omega) st_2 ((tab_2).up (by omega)) (by omega))) rfl rfl rfl ?_))
        rintro _ w5 ⟨rT, AT, kT, ts, bT, rfl, tz5, htz, hL, yt5, c5⟩
        have htl := CR.len tz5; have ytl5 := Ow.lt tz5
        have z5 := c5.size
        have hmid := half_mid hL hu hx htz
        refine VO.mv (Rn.move rfl) rfl rfl rfl (VO.mv (Rn.extract rfl rfl) rfl rfl rfl (VO.mv (Rn.extract rfl rfl) rfl rfl rfl (VO.mv (Rn.assign rfl) rfl rfl rfl (VO.mv (Rn.assign rfl) rfl rfl rfl (VO.nil (VQ.then_code (VC.seq ?_)))))))
        refine VC.seq (VC.region (VO.mv (Rn.move rfl) rfl rfl rfl (VO.mv (Rn.nil_neq_nil Tryz.underlying29 rfl) rfl rfl rfl (VO.nil (VQ.then_code (VC.cond_false rfl (VC.skip ?_)))))))
        refine VQ.then_code (VC.seq (VC.region (VO.mv (Rn.move rfl) rfl rfl rfl ?_)))
        refine VO.mv (Rn.add rfl rfl (by rw [IntKind.wrap_i64]; omega)) rfl rfl rfl ?_
        refine VO.wk (Wk.mkC Tryz.underlying39 inf53w56 rfl rfl (by omega) (by omega) (by omega)) rfl rfl rfl ?_
        rintro _ w6 ⟨p6, rfl, o6, c6, e6, z6⟩
        refine VO.mv (Rn.assign rfl) rfl rfl rfl (VO.nil (VQ.then_code (VC.seq (VC.seq (VC.region (VO.mv (Rn.move rfl) rfl rfl rfl (VO.mv (Rn.len Tryz.underlying39 rfl) rfl rfl rfl ?_)))))))
        refine VO.mv (Rn.move rfl) rfl rfl rfl (VO.nil (VQ.then_code (VC.block ?_)))
        have tz_6 := tz5.keep c6
        have CH_6 := CH_2.and (c5.trans c6)
        refine VC.loopS (σ := Nat × List CB) (fun (k, os) => [(4, .int .i64 4), (5, .int .i64 2), (8, .slice AT 2 kT), (10, .slice (some ⟨p6, 0, none⟩) 3 3), (75, .int .i64 3), (76, .int .i64 k)]) (fun (k, os) w' => k ≤ 3 ∧ CxU 4 us 3 k os ∧ w6.heap.size ≤ w'.heap.size ∧ CR 53 w' rT AT 2 kT ts ∧ CR 53 w' ((p6 + 1)) (some ⟨p6, 0, none⟩) 3 3 os ∧ Ch (No) w w') (fun (k, os) => 3 - k) (0, List.replicate 3 (0, 0)) ?_ ⟨rfl, rfl, rfl, rfl, rfl, rfl, trivial⟩ ?_
        · exact ⟨(by omega), (CxU.zero _ _ _), (Nat.le_refl _), tz_6, o6, CH_6⟩
        rintro ⟨k, os⟩ w7 ⟨hk, ho, hsz7, tz_7, ou_7, CH_7⟩
        show VC _ _ _ _ [(4, .int .i64 4), (5, .int .i64 2), (8, .slice AT 2 kT), (10, .slice (some ⟨p6, 0, none⟩) 3 3), (75, .int .i64 3), (76, .int .i64 k)] _
        have e1 : ((k : Int) % 2).toNat = k % 2 := by omega
        have e2 : k ≤ 2 → ((2 - (k : Int)) % 2).toNat = (2 - k) % 2 := fun _ => by omega
        refine VC.seq (VC.region (VO.mv (Rn.lss rfl rfl) rfl rfl rfl (VO.nil (VQ.then_code (VC.seq (VC.cond_if rfl (fun hc6 => ?_) (fun hc6 => ?_)))))))
        · skip
          refine VC.skip (VQ.then_code (VC.seq (VC.block (VC.seq (VC.region (VO.mv (Rn.move rfl) rfl rfl rfl (VO.mv (Rn.assign rfl) rfl rfl rfl ?_)))))))
          refine VO.nil (VQ.then_code (VC.seq (VC.draws 16 [(0, true), (1, true), (2, true), (3, true), (4, true), (5, true), (6, true), (7, true), (8, true), (9, true), (10, true), (11, true), (12, true), (13, true), (14, false), (15, true)] (fun w1 w' => Ch (No) w1 w') mixed (by kernel_rfl) (fun _ _ => Ch.refl _ _) ?_)))
          intro w8 D8
          have c8 := Ch.of_drew D8; have z8 := c8.size
          have tz_8 := tz_7.keep c8
          have ou_8 := ou_7.keep c8
          refine VH.mv (fun w' hS => Rn.move rfl) rfl rfl rfl rfl (VH.mv (fun w' hS => Rn.move rfl) rfl rfl rfl rfl (VH.mv (fun w' hS => Rn.move rfl) rfl rfl rfl rfl (VH.mv (fun w' hS => Rn.rem0 rfl rfl (by omega) (by omega)) rfl rfl rfl rfl (VH.mv (fun w' hS => Rn.indexS Tryz.underlying39 Tryz.sizeOf53 rfl rfl (tz_8.sl.ne (by omega)) (by omega) (by omega)) rfl rfl rfl rfl (VH.mv (fun w' hS => Rn.load Tryz.isAgg53 rfl ((tz_8.keep hS).sl.getC (by omega) (by omega))) rfl rfl rfl rfl (VH.mv (fun w' hS => Rn.move rfl) rfl rfl rfl rfl (VH.mv (fun w' hS => Rn.move rfl) rfl rfl rfl rfl ?_)))))))
          refine VH.mv (fun w' hS => Rn.move rfl) rfl rfl rfl rfl ?_
          refine VH.mv (fun w' hS => Rn.sub rfl rfl (by rw [IntKind.wrap_i64]; omega)) rfl rfl rfl rfl ?_
          refine VH.mv (fun w' hS => Rn.move rfl) rfl rfl rfl rfl (VH.mv (fun w' hS => Rn.rem0 rfl rfl (by omega) (by omega)) rfl rfl rfl rfl (VH.mv (fun w' hS => Rn.indexS Tryz.underlying39 Tryz.sizeOf53 rfl rfl (tz_8.sl.ne (by omega)) (by omega) (by omega)) rfl rfl rfl rfl (VH.mv (fun w' hS => Rn.load Tryz.isAgg53 rfl ((tz_8.keep hS).sl.getC (by omega) (by omega))) rfl rfl rfl rfl (VH.wk (Wk.call Tryz.call47 rfl (cplx_Conj _ _ _)) rfl rfl rfl rfl ?_))))
          rintro _ w9 ⟨p9, q9, rfl, F9, c9⟩
          have z9 := c9.size
          have RD_9 := (Ch.refl (No) w8).and c9
          refine ⟨RD_9, ?_⟩
          refine VH.mv (fun w' hS => Rn.assign rfl) rfl rfl rfl rfl (VH.done (VO.mv (Rn.assign rfl) rfl rfl rfl (VO.nil (VQ.noPanic (VQ.then_code (VC.seq (VC.region ?_)))))))
          refine VO.mv (Rn.move rfl) rfl rfl rfl (VO.mv (Rn.move rfl) rfl rfl rfl (VO.wk (Wk.cbin (.inr rfl) rfl rfl) rfl rfl rfl ?_))
          rintro _ w10 ⟨p10, q10, rfl, F10, c10⟩
          have z10 := c10.size
          refine VO.wk (Wk.call Tryz.call49 rfl (cplx_MinusI _ _ _)) rfl rfl rfl ?_
          rintro _ w11 ⟨p11, q11, rfl, F11, c11⟩
          have z11 := c11.size
          refine VO.wk (Wk.call Tryz.call48 rfl (cplx_TimesH _ _ _)) rfl rfl rfl ?_
          rintro _ w12 ⟨p12, q12, rfl, F12, c12⟩
          have z12 := c12.size
          refine VO.mv (Rn.assign rfl) rfl rfl rfl (VO.nil (VQ.then_code (VC.seq (VC.region (VO.mv (Rn.move rfl) rfl rfl rfl (VO.mv (Rn.move rfl) rfl rfl rfl (VO.mv (Rn.move rfl) rfl rfl rfl ?_)))))))
          refine VO.wk (Wk.call Tryz.call42 rfl (roots_Twist _ _ 4 (k : Int) k (by omega) (by omega) ⟨by omega, by omega⟩ (by omega) _)) rfl rfl rfl ?_
          rintro _ w13 ⟨x13, y13, rfl, F13, c13⟩
          have z13 := c13.size
          refine VO.mv (Rn.move rfl) rfl rfl rfl (VO.mv (Rn.extract rfl rfl) rfl rfl rfl (VO.mv (Rn.extract rfl rfl) rfl rfl rfl (VO.mv (Rn.assign rfl) rfl rfl rfl (VO.mv (Rn.assign rfl) rfl rfl rfl (VO.nil (VQ.then_code (VC.seq ?_)))))))
          refine VC.seq (VC.region (VO.mv (Rn.move rfl) rfl rfl rfl (VO.mv (Rn.nil_neq_nil Tryz.underlying29 rfl) rfl rfl rfl (VO.nil (VQ.then_code (VC.cond_false rfl (VC.skip ?_)))))))
          refine VQ.then_code (VC.region (VO.mv (Rn.move rfl) rfl rfl rfl (VO.mv (Rn.move rfl) rfl rfl rfl (VO.mv (Rn.move rfl) rfl rfl rfl (VO.mv (Rn.move rfl) rfl rfl rfl (VO.wk (Wk.call Tryz.call50 rfl (half_even _ _ _ _ _)) rfl rfl rfl ?_))))))
          rintro _ w14 ⟨p14, q14, rfl, F14, c14⟩
          have z14 := c14.size
          refine VO.mv (Rn.move rfl) rfl rfl rfl (VO.wk (Wk.cbin (.inl rfl) rfl rfl) rfl rfl rfl ?_)
          rintro _ w15 ⟨p15, q15, rfl, F15, c15⟩
          have z15 := c15.size
          have ou_15 := ou_8.keep (c9.trans (c10.trans (c11.trans (c12.trans (c13.trans (c14.trans c15))))))
          refine VO.mv (Rn.indexS Tryz.underlying39 Tryz.sizeOf53 rfl rfl (ou_15.sl.ne (by omega)) (by omega) (by omega)) rfl rfl rfl (VO.wk0 (Wk.putC Tryz.sizeOf53 rfl rfl (by omega) ou_15) rfl rfl ?_)
          rintro _ w16 ⟨o16, c16, z16⟩
          have y16 := o16.lt
          refine VO.nil (VQ.block_normal (VQ.then_code (VC.region ?_)))
          refine VO.mv (Rn.add rfl rfl (by rw [IntKind.wrap_i64]; omega)) rfl rfl rfl ?_
          refine VO.mv (Rn.move rfl) rfl rfl rfl (VO.nil ?_)
          refine VQ.round (k + 1, os.set k (p15, q15)) (by first | omega | (dsimp only; omega)) ?_ ⟨rfl, rfl, rfl, rfl, rfl, rfl, trivial⟩
          have tz_15 := tz_8.keep (c9.trans (c10.trans (c11.trans (c12.trans (c13.trans (c14.trans c15))))))
          have tz_16 := tz_15.to c16 (by first | exact fun _ _ _ _ => id | (intro q h1 h2 hx h3; omega))
          have CH_15 := CH_7.and (c8.trans (c9.trans (c10.trans (c11.trans (c12.trans (c13.trans (c14.trans c15)))))))
          have CH_16 : Ch (No) w w16 := CH_15.then c16 (by intro q h1 h2; rcases h2 with h2 | h2 <;> first | exact h2 | (exfalso; omega) | omega)
          exact ⟨(by omega), (ho.step (by omega) (by rw [show cx (p15, q15) = fwdH 2 (fun j => cx (ts.getD j (0, 0))) k from (fwdH_of (za := ts.getD ((k : Int) % 2).toNat (0, 0)) (zb := ts.getD ((2 - (k : Int)) % 2).toNat (0, 0)) (by rw [e1]) (by rw [e2 (by omega)]) F9 F10 F11 F12 F13 F14 F15 rfl)]; exact fwd_half (h := 2) (by decide) hu hmid (by omega))), (by omega), tz_16, o16, CH_16⟩
        · skip
          refine VC.exit (VQ.then_exit (VQ.then_exit (VQ.block_exit (VQ.then_code (VC.seq (VC.region (VO.mv (Rn.move rfl) rfl rfl rfl ?_)))))))
          refine VO.mv (Rn.assign rfl) rfl rfl rfl (VO.mv (Rn.assign rfl) rfl rfl rfl (VO.nil (VQ.then_code (VC.ret (VQ.ret2 rfl rfl rfl (Ret.mk ?_))))))
          obtain rfl : k = 3 := by omega
          exact ⟨_, os, rfl, ou_7, ⟨ho.len, fun i hi => ho.get i (by omega)⟩, by omega, CH_7⟩
end Go.Tm
namespace Go.Tm
open Go.RowKit Go.Proofs
section
variable {P : Program} {n : Fr} {k : K} {w : World} {d : Option Tmp} {ty : TypeId} {pos : String} {aft : Array Edge} {g : Option (Nat × Bool)}
theorem Wk.mkF0 {t e : TypeId} {by' : Nat} {x y : Operand} {ql qc : IntKind} {c : Int} (ht : P.underlying t = some (.slice e)) (hi : Inf P e (.float .f64 0) 1 by') (hx : ev k x = some (.int ql 0)) (hy : ev k y = some (.int qc c)) (h0 : 0 ≤ c) (hb : (by' : Int) * c ≤ 281474976710656) (hm : c ≤ 281474976710656) :
    Wk P n k w { dst := d, op := .makeSlice t x y, type := ty, pos := pos, after := aft, guard := g }
      (fun v w' => ∃ p, v = .slice (some ⟨p, 0, none⟩) 0 c.toNat ∧ FR e w' (p + 1) (some ⟨p, 0, none⟩) 0 c.toNat [] ∧ Ch No w w' ∧ p = w.heap.size ∧ w'.heap.size = w.heap.size + 1) :=
  (Wk.make ht hi hx hy (Int.le_refl _) h0 hb (by omega)).mono fun v w' ⟨p, hv, N⟩ => by
    rw [Nat.mul_one] at N
    have e1 : (Value.float .f64 0).cells = #[.float .f64 0] := rfl
    rw [e1, made_one] at N
    exact ⟨p, hv, ⟨rfl, .inr ⟨p, _, rfl, rfl, N.blk, Nat.zero_le _, by simp only [maxLen]; omega, by simp, by simp⟩⟩, N.ch, N.p, N.size⟩
end
structure FlU (us : Nat → Int) (m : Nat) (os : List Nat) : Prop where
  len : os.length = m
  get : ∀ i, i < m → Wh (cn (os.getD i 0)) (us i)
theorem FlU.two {us : Nat → Int} {j : Nat} {os : List Nat} {a b : Nat} (h : FlU us (2 * j) os) (hz : WhC (cx (a, b)) (us (2 * j)) (us (2 * j + 1))) : FlU us (2 * (j + 1)) (os ++ [a, b]) := by
  refine ⟨by simp [h.len]; omega, fun i hi => ?_⟩
  have e : os ++ [a, b] = (os ++ [a]) ++ [b] := by simp
  rw [e, append_getD (m := 2 * j + 1) (by simp [h.len]), append_getD h.len]
  by_cases p : i = 2 * j + 1
  · subst p; rw [if_pos rfl]; exact hz.2
  · rw [if_neg p]
    by_cases q : i = 2 * j
    · subst q; rw [if_pos rfl]; exact hz.1
    · rw [if_neg q]; exact h.get i (by omega)
structure FullU (h : Nat) (us : Nat → Int) (j : Nat) (os : List CB) : Prop where
  len : os.length = h + 1 + j
  get : ∀ i, i < h + 1 + j → WhC (cx (os.getD i (0, 0))) (uvL (2 * h) i us no0 (2 * h)).1 (uvL (2 * h) i us no0 (2 * h)).2
theorem FullU.start {n h : Nat} {us : Nat → Int} {zs : List CB} (hn : n = 2 * h) (hz : HalfOk n us zs) : FullU h us 0 zs := by
  subst hn
  have hd : 2 * h / 2 = h := by omega
  exact ⟨by rw [hz.len, hd], fun i hi => hz.get i (by rw [hd]; omega)⟩
theorem FullU.push {h j : Nat} {us : Nat → Int} {os : List CB} {z : CB} (f : FullU h us j os) (hz : WhC (cx z) (uvL (2 * h) (h + 1 + j) us no0 (2 * h)).1 (uvL (2 * h) (h + 1 + j) us no0 (2 * h)).2) : FullU h us (j + 1) (os ++ [z]) := by
  refine ⟨by simp [f.len]; omega, fun i hi => ?_⟩
  rw [append_getD f.len]
  by_cases e : i = h + 1 + j
  · subst e; rw [if_pos rfl]; exact hz
  · rw [if_neg e]; exact f.get i (by omega)
abbrev xyC (xs ys : List Nat) : Nat → CB := fun j => (xs.getD j 0, ys.getD j 0)
theorem two_mid {n : Nat} {b : Bld} (hL : Leaf n b) {us vs : Nat → Int} (hu : U40 us) (hv : U40 vs) {xs ys : List Nat} (hx : FlsOk n us xs) (hy : FlsOk n vs ys) {zs : List CB} (hz : zs.map cx = fwdC b ((rowF n (xyC xs ys) n).map cx)) :
    ∀ k, k < n → WhC (cx (zs.getD k (0, 0))) (uvL n k us vs n).1 (uvL n k us vs n).2 := by
  intro k hk
  have hw : WhL ((rowF n (xyC xs ys) n).map cx) n us vs := by
    refine ⟨by simp [rowF], fun i hi => ?_⟩
    rw [map_getD, rowF_get hi]
    exact ⟨hx.get i hi, hy.get i hi⟩
  have := (fwd_leaf hL hw (fun j => by have := hu j; have := hv j; unfold B44; omega)).2 k hk
  rw [← hz, map_getD] at this
  exact this
set_option maxRecDepth 100000 in
theorem inf25w57 : Inf Tryz.prog 25 (.float .f64 0) 1 8 := ⟨Tryz.t25, Tryz.type25, rfl, rfl, rfl⟩
set_option maxRecDepth 100000 in
theorem inf53w57 : Inf Tryz.prog 53 (.complex .f64 0 0) 1 16 := ⟨Tryz.t53, Tryz.type53, rfl, rfl, rfl⟩
set_option maxRecDepth 100000 in
theorem half_Inverse1 (SX : Nat → Prop) (X : Option Addr) (xc : Nat) (us : Nat → Int) (zs : List CB) (w : World) (sx : SlR SX w X 1 1 (zs.map cxV)) (hX : ∀ q, SX q → q < w.heap.size) (hu : U40 us) (hf : HalfOk 1 us zs) (st : StT w) (tab : TabB w.heap.size w) (hG : 12 ≤ w.heap.size) :
    Calls Tryz.prog 21 #[.slice X 1 xc] w (Ret (fun v w' => ∃ r A k os, v = .tuple #[.slice A 1 k, .nilIface] ∧ FR 25 w' r A 1 k os ∧ FlsOk 1 us os ∧ w.heap.size < r ∧ Ch No w w')) := by
  refine calls_of_VC (args := [.slice X 1 xc]) Tryz.func21 rfl Tryz.ntmps21 rfl (VC.seq (VC.region (VO.mv (Rn.assign rfl) rfl rfl rfl (VO.mv (Rn.assign rfl) rfl rfl rfl (VO.nil (VQ.then_code (VC.seq ?_)))))))
  refine VC.region (VO.mv (Rn.move rfl) rfl rfl rfl (VO.mv (Rn.len Tryz.underlying39 rfl) rfl rfl rfl ?_))
  refine VO.mv (Rn.sub rfl rfl (by rw [IntKind.wrap_i64]; omega)) rfl rfl rfl ?_
  refine VO.mv (Rn.assign rfl) rfl rfl rfl (VO.nil (VQ.then_code (VC.seq (VC.seq (VC.region (VO.mv (Rn.move rfl) rfl rfl rfl (VO.mv (Rn.lss rfl rfl) rfl rfl rfl ?_)))))))
  refine VO.mv (Rn.move rfl) rfl rfl rfl ?_
  refine VO.orJoin (b := _) 3 20 23 rfl (fun hc1 Jhc1 => by
      refine VO.skip rfl rfl rfl (VO.skip rfl rfl rfl (VO.mv (Rn.pick_true rfl rfl) rfl rfl rfl ?_))
      exact (VO.fg rfl (VO.fg rfl Jhc1))) (fun hc1 Jhc1 => by
      try simp only [Bool.and_eq_true, Bool.or_eq_true, Bool.not_eq_true', Bool.not_eq_false', Bool.and_eq_false_iff, Bool.or_eq_false_iff, decide_eq_true_eq, decide_eq_false_iff_not] at hc1
      refine VO.mv (Rn.move rfl) rfl rfl rfl (VO.mv (Rn.gtr rfl rfl) rfl rfl rfl (VO.mv (Rn.pick_false rfl rfl) rfl rfl rfl ?_))
      exact (VO.fg rfl (VO.fg rfl Jhc1))) ?_
  refine VO.nil (VQ.then_code (VC.cond rfl (fun hc2 => ?_) (fun hc2 => ?_)))
  · skip
    try simp only [Bool.and_eq_true, Bool.or_eq_true, Bool.not_eq_true', Bool.not_eq_false', Bool.and_eq_false_iff, Bool.or_eq_false_iff, decide_eq_true_eq, decide_eq_false_iff_not] at hc2
    omega
  · skip
    try simp only [Bool.and_eq_true, Bool.or_eq_true, Bool.not_eq_true', Bool.not_eq_false', Bool.and_eq_false_iff, Bool.or_eq_false_iff, decide_eq_true_eq, decide_eq_false_iff_not] at hc2
    refine VC.skip (VQ.then_code (VC.seq (VC.seq (VC.region (VO.mv (Rn.move rfl) rfl rfl rfl (VO.mv (Rn.eql rfl rfl) rfl rfl rfl (VO.nil ?_)))))))
    refine VQ.then_code (VC.cond_if rfl (fun hc3 => ?_) (fun hc3 => ?_))
    · skip
      refine VC.seq (VC.region (VO.mv (Rn.move rfl) rfl rfl rfl (VO.mv (Rn.indexS Tryz.underlying39 Tryz.sizeOf53 rfl rfl (sx.ne (by omega)) (by omega) (by omega)) rfl rfl rfl (VO.mv (Rn.load Tryz.isAgg53 rfl (sx.getC (by omega) (by omega))) rfl rfl rfl (VO.mv (Rn.real rfl) rfl rfl rfl (VO.wk (Wk.lit Tryz.underlying27 inf25w57 (by decide) rfl rfl (by rfl) (by decide) (by decide) (by rfl)) rfl rfl rfl ?_))))))
      rintro _ w1 ⟨p1, rfl, N1⟩
      have c1 := N1.ch
      have e1 := N1.p; have z1 := N1.size
      have l31 := SlR.of_new (sz := 1) (l := 1) N1 rfl
      have l31o := Ow.of_new (sz := 1) (l := 1) N1 rfl (by decide)
      refine VO.mv (Rn.assign rfl) rfl rfl rfl (VO.mv (Rn.assign rfl) rfl rfl rfl (VO.nil (VQ.then_code (VC.ret (VQ.then_ret (VQ.ret2 rfl rfl rfl (Ret.mk ?_)))))))
      have h9 := hf.get 0 (by decide); rw [show uvL 1 0 us no0 1 = (us 0, 0) by simp [uvL, uvS]] at h9
      have CH_1 := (Ch.refl (No) w).and c1
      exact ⟨_, _, _, [(zs.getD 0 (0, 0)).1], rfl, l31o, ⟨rfl, fun k hk => (by obtain rfl : k = 0 := (by omega); exact h9.1)⟩, by omega, CH_1⟩
    · skip
      omega
set_option maxHeartbeats 2000000 in
set_option maxRecDepth 100000 in
theorem half_Inverse2 (SX : Nat → Prop) (X : Option Addr) (xc : Nat) (us : Nat → Int) (zs : List CB) (w : World) (sx : SlR SX w X 2 1 (zs.map cxV)) (hX : ∀ q, SX q → q < w.heap.size) (hu : U40 us) (hf : HalfOk 2 us zs) (st : StT w) (tab : TabB w.heap.size w) (hG : 12 ≤ w.heap.size) :
    Calls Tryz.prog 21 #[.slice X 2 xc] w (Ret (fun v w' => ∃ r A k os, v = .tuple #[.slice A 2 k, .nilIface] ∧ FR 25 w' r A 2 k os ∧ FlsOk 2 us os ∧ w.heap.size < r ∧ Ch No w w')) := by
  refine calls_of_VC (args := [.slice X 2 xc]) Tryz.func21 rfl Tryz.ntmps21 rfl (VC.seq (VC.region (VO.mv (Rn.assign rfl) rfl rfl rfl (VO.mv (Rn.assign rfl) rfl rfl rfl (VO.nil (VQ.then_code (VC.seq ?_)))))))
  refine VC.region (VO.mv (Rn.move rfl) rfl rfl rfl (VO.mv (Rn.len Tryz.underlying39 rfl) rfl rfl rfl ?_))
  refine VO.mv (Rn.sub rfl rfl (by rw [IntKind.wrap_i64]; omega)) rfl rfl rfl ?_
  refine VO.mv (Rn.assign rfl) rfl rfl rfl (VO.nil (VQ.then_code (VC.seq (VC.seq (VC.region (VO.mv (Rn.move rfl) rfl rfl rfl (VO.mv (Rn.lss rfl rfl) rfl rfl rfl ?_)))))))
  refine VO.mv (Rn.move rfl) rfl rfl rfl ?_
  refine VO.orJoin (b := _) 3 20 23 rfl (fun hc1 Jhc1 => by
      refine VO.skip rfl rfl rfl (VO.skip rfl rfl rfl (VO.mv (Rn.pick_true rfl rfl) rfl rfl rfl ?_))
      exact (VO.fg rfl (VO.fg rfl Jhc1))) (fun hc1 Jhc1 => by
      try simp only [Bool.and_eq_true, Bool.or_eq_true, Bool.not_eq_true', Bool.not_eq_false', Bool.and_eq_false_iff, Bool.or_eq_false_iff, decide_eq_true_eq, decide_eq_false_iff_not] at hc1
      refine VO.mv (Rn.move rfl) rfl rfl rfl (VO.mv (Rn.gtr rfl rfl) rfl rfl rfl (VO.mv (Rn.pick_false rfl rfl) rfl rfl rfl ?_))
      exact (VO.fg rfl (VO.fg rfl Jhc1))) ?_
  refine VO.nil (VQ.then_code (VC.cond rfl (fun hc2 => ?_) (fun hc2 => ?_)))
  · skip
    try simp only [Bool.and_eq_true, Bool.or_eq_true, Bool.not_eq_true', Bool.not_eq_false', Bool.and_eq_false_iff, Bool.or_eq_false_iff, decide_eq_true_eq, decide_eq_false_iff_not] at hc2
    omega
  · skip
    try simp only [Bool.and_eq_true, Bool.or_eq_true, Bool.not_eq_true', Bool.not_eq_false', Bool.and_eq_false_iff, Bool.or_eq_false_iff, decide_eq_true_eq, decide_eq_false_iff_not] at hc2
    refine VC.skip (VQ.then_code (VC.seq (VC.seq (VC.region (VO.mv (Rn.move rfl) rfl rfl rfl (VO.mv (Rn.eql rfl rfl) rfl rfl rfl (VO.nil ?_)))))))
    refine VQ.then_code (VC.cond_if rfl (fun hc3 => ?_) (fun hc3 => ?_))
    · skip
      omega
    · skip
      refine VC.skip (VQ.then_code (VC.seq (VC.region (VO.mv (Rn.move rfl) rfl rfl rfl (VO.wk (Wk.mkC Tryz.underlying39 inf53w57 rfl rfl (by omega) (by omega) (by omega)) rfl rfl rfl ?_)))))
      rintro _ w1 ⟨p1, rfl, o1, c1, e1, z1⟩
      refine VO.mv (Rn.assign rfl) rfl rfl rfl (VO.nil (VQ.then_code (VC.seq (VC.seq (VC.region (VO.mv (Rn.move rfl) rfl rfl rfl (VO.mv (Rn.len Tryz.underlying39 rfl) rfl rfl rfl ?_)))))))
      refine VO.mv (Rn.move rfl) rfl rfl rfl (VO.nil (VQ.then_code (VC.block ?_)))
      have sx_1 := sx.keep c1
      have st_1 := st.keep c1
      have tab_1 := tab.keep c1
      have CH_1 := (Ch.refl (No) w).and c1
      refine VC.loopS (σ := Nat × List CB) (fun (k, zz) => [(0, .slice X 2 xc), (4, .int .i64 1), (5, .slice (some ⟨p1, 0, none⟩) 1 1), (35, .int .i64 1), (36, .int .i64 k)]) (fun (k, zz) w' => k ≤ 1 ∧ PairU 1 us k zz ∧ w1.heap.size ≤ w'.heap.size ∧ CR 53 w' ((p1 + 1)) (some ⟨p1, 0, none⟩) 1 1 zz ∧ SlR SX w' X 2 1 (zs.map cxV) ∧ StT w' ∧ TabB w.heap.size w' ∧ Ch (No) w w') (fun (k, zz) => 1 - k) (0, List.replicate 1 (0, 0)) ?_ ⟨rfl, rfl, rfl, rfl, rfl, trivial⟩ ?_
      · exact ⟨(by omega), (PairU.zero _ _), (Nat.le_refl _), o1, sx_1, st_1, tab_1, CH_1⟩
      rintro ⟨k, zz⟩ w2 ⟨hk, hp, hsz2, row_2, sx_2, st_2, tab_2, CH_2⟩
      show VC _ _ _ _ [(0, .slice X 2 xc), (4, .int .i64 1), (5, .slice (some ⟨p1, 0, none⟩) 1 1), (35, .int .i64 1), (36, .int .i64 k)] _
      have e1 : ((k : Int)).toNat = k := by omega
      have e2 : k ≤ 1 → (1 - (k : Int)).toNat = 1 - k := fun _ => by omega
      refine VC.seq (VC.region (VO.mv (Rn.lss rfl rfl) rfl rfl rfl (VO.nil (VQ.then_code (VC.seq (VC.cond_if rfl (fun hc4 => ?_) (fun hc4 => ?_)))))))
      · skip
        refine VC.skip (VQ.then_code (VC.seq (VC.block (VC.seq (VC.region (VO.mv (Rn.move rfl) rfl rfl rfl (VO.mv (Rn.assign rfl) rfl rfl rfl ?_)))))))
        refine VO.nil (VQ.then_code (VC.seq (VC.draws 12 [(0, true), (1, true), (2, true), (3, true), (4, true), (5, true), (6, true), (7, true), (8, true), (9, true), (10, false), (11, true)] (fun w1 w' => Ch (No) w1 w') mixed (by kernel_rfl) (fun _ _ => Ch.refl _ _) ?_)))
        intro w3 D3
        have c3 := Ch.of_drew D3; have z3 := c3.size
        have sx_3 := sx_2.keep c3
        have row_3 := row_2.keep c3
        refine VH.mv (fun w' hS => Rn.move rfl) rfl rfl rfl rfl (VH.mv (fun w' hS => Rn.move rfl) rfl rfl rfl rfl (VH.mv (fun w' hS => Rn.indexS Tryz.underlying39 Tryz.sizeOf53 rfl rfl ((sx_3.keep hS).ne (by omega)) (by omega) (by omega)) rfl rfl rfl rfl (VH.mv (fun w' hS => Rn.load Tryz.isAgg53 rfl ((sx_3.keep hS).getC (by omega) (by omega))) rfl rfl rfl rfl (VH.mv (fun w' hS => Rn.move rfl) rfl rfl rfl rfl (VH.mv (fun w' hS => Rn.move rfl) rfl rfl rfl rfl (VH.mv (fun w' hS => Rn.move rfl) rfl rfl rfl rfl ?_))))))
        refine VH.mv (fun w' hS => Rn.sub rfl rfl (by rw [IntKind.wrap_i64]; omega)) rfl rfl rfl rfl ?_
        refine VH.mv (fun w' hS => Rn.indexS Tryz.underlying39 Tryz.sizeOf53 rfl rfl ((sx_3.keep hS).ne (by omega)) (by omega) (by omega)) rfl rfl rfl rfl (VH.mv (fun w' hS => Rn.load Tryz.isAgg53 rfl ((sx_3.keep hS).getC (by omega) (by omega))) rfl rfl rfl rfl (VH.wk (Wk.call Tryz.call47 rfl (cplx_Conj _ _ _)) rfl rfl rfl rfl ?_))
        rintro _ w4 ⟨p4, q4, rfl, F4, c4⟩
        have z4 := c4.size
        have RD_4 := (Ch.refl (No) w3).and c4
        refine ⟨RD_4, ?_⟩
        refine VH.mv (fun w' hS => Rn.assign rfl) rfl rfl rfl rfl (VH.done (VO.mv (Rn.assign rfl) rfl rfl rfl (VO.nil (VQ.noPanic (VQ.then_code (VC.seq (VC.region ?_)))))))
        refine VO.mv (Rn.move rfl) rfl rfl rfl (VO.mv (Rn.move rfl) rfl rfl rfl (VO.wk (Wk.call Tryz.call51 rfl (half_odd _ _ _ _ _)) rfl rfl rfl ?_))
        rintro _ w5 ⟨p5, q5, rfl, F5, c5⟩
        have z5 := c5.size
        refine VO.mv (Rn.move rfl) rfl rfl rfl ?_
        refine VO.mv (Rn.mul rfl rfl (by rw [IntKind.wrap_i64]; omega)) rfl rfl rfl ?_
        refine VO.mv (Rn.move rfl) rfl rfl rfl ?_
        refine VO.mv (Rn.neg rfl (by rw [IntKind.wrap_i64]; omega)) rfl rfl rfl ?_
        refine VO.wk (Wk.call Tryz.call42 rfl (roots_Twist _ _ 2 (-(k : Int)) ((2 - k) % 2) (by omega) (by omega) ⟨by omega, by omega⟩ (by omega) _)) rfl rfl rfl ?_
        rintro _ w6 ⟨x6, y6, rfl, F6, c6⟩
        have z6 := c6.size
        refine VO.mv (Rn.move rfl) rfl rfl rfl (VO.mv (Rn.extract rfl rfl) rfl rfl rfl (VO.mv (Rn.extract rfl rfl) rfl rfl rfl (VO.mv (Rn.assign rfl) rfl rfl rfl (VO.mv (Rn.assign rfl) rfl rfl rfl (VO.nil (VQ.then_code (VC.seq ?_)))))))
        refine VC.seq (VC.region (VO.mv (Rn.move rfl) rfl rfl rfl (VO.mv (Rn.nil_neq_nil Tryz.underlying29 rfl) rfl rfl rfl (VO.nil (VQ.then_code (VC.cond_false rfl (VC.skip ?_)))))))
        refine VQ.then_code (VC.region (VO.mv (Rn.move rfl) rfl rfl rfl (VO.mv (Rn.move rfl) rfl rfl rfl (VO.mv (Rn.move rfl) rfl rfl rfl (VO.mv (Rn.move rfl) rfl rfl rfl (VO.wk (Wk.call Tryz.call50 rfl (half_even _ _ _ _ _)) rfl rfl rfl ?_))))))
        rintro _ w7 ⟨p7, q7, rfl, F7, c7⟩
        have z7 := c7.size
        refine VO.mv (Rn.move rfl) rfl rfl rfl (VO.wk (Wk.call Tryz.call52 rfl (cplx_TimesI _ _ _)) rfl rfl rfl ?_)
        rintro _ w8 ⟨p8, q8, rfl, F8, c8⟩
        have z8 := c8.size
        refine VO.wk (Wk.cbin (.inl rfl) rfl rfl) rfl rfl rfl ?_
        rintro _ w9 ⟨p9, q9, rfl, F9, c9⟩
        have z9 := c9.size
        have row_9 := row_3.keep (c4.trans (c5.trans (c6.trans (c7.trans (c8.trans c9)))))
        refine VO.mv (Rn.indexS Tryz.underlying39 Tryz.sizeOf53 rfl rfl (row_9.sl.ne (by omega)) (by omega) (by omega)) rfl rfl rfl (VO.wk0 (Wk.putC Tryz.sizeOf53 rfl rfl (by omega) row_9) rfl rfl ?_)
        rintro _ w10 ⟨o10, c10, z10⟩
        have y10 := o10.lt
        refine VO.nil (VQ.block_normal (VQ.then_code (VC.region ?_)))
        refine VO.mv (Rn.add rfl rfl (by rw [IntKind.wrap_i64]; omega)) rfl rfl rfl ?_
        refine VO.mv (Rn.move rfl) rfl rfl rfl (VO.nil ?_)
        refine VQ.round (k + 1, zz.set k (p9, q9)) (by first | omega | (dsimp only; omega)) ?_ ⟨rfl, rfl, rfl, rfl, rfl, trivial⟩
        have sx_9 := sx_3.keep (c4.trans (c5.trans (c6.trans (c7.trans (c8.trans c9)))))
        have sx_10 := sx_9.to c10 (by first | exact fun _ _ _ _ => id | (intro q h1 h2 hx h3; have := hX q h2; omega))
        have st_9 := st_2.keep (c3.trans (c4.trans (c5.trans (c6.trans (c7.trans (c8.trans c9))))))
        have st_10 := st_9.to c10 (by first | exact fun _ _ _ _ => id | (intro q h1 h2 hx h3; omega))
        have tab_9 := tab_2.keep (c3.trans (c4.trans (c5.trans (c6.trans (c7.trans (c8.trans c9))))))
        have tab_10 := tab_9.to c10 (by first | exact fun _ _ _ _ => id | (intro q h1 h2 hx h3; omega))
        have CH_9 := CH_2.and (c3.trans (c4.trans (c5.trans (c6.trans (c7.trans (c8.trans c9))))))
        have CH_10 : Ch (No) w w10 := CH_9.then c10 (by intro q h1 h2; rcases h2 with h2 | h2 <;> first | exact h2 | (exfalso; omega) | omega)
        exact ⟨(by omega), (hp.step (by omega) (by rw [show cx (p9, q9) = invZ 1 (fun j => cx (zs.getD j (0, 0))) k from (invZ_of (za := zs.getD (k : Int).toNat (0, 0)) (zb := zs.getD (1 - (k : Int)).toNat (0, 0)) (by rw [e1]) (by rw [e2 (by omega)]) F4 F5 F6 F7 F8 F9 rfl rfl)]; exact inv_half (h := 1) (by decide) hu hf.get (by omega))), (by omega), o10, sx_10, st_10, tab_10, CH_10⟩
      · skip
        refine VC.exit (VQ.then_exit (VQ.then_exit (VQ.block_exit (VQ.then_code (VC.seq ?_)))))
        obtain rfl : k = 1 := by omega
        refine VC.region (VO.mv (Rn.move rfl) rfl rfl rfl (VO.wk (Wk.call Tryz.call46 rfl (half_transform1 _ _ 1 _ zz _ (row_2).sl (fun q hq => by omega) ⟨by decide⟩ (by omega) st_2 ((tab_2).up (by omega)) (by omega))) rfl rfl rfl ?_))
        rintro _ w11 ⟨rT, AT, kT, ts, bT, rfl, tz11, htz, hL, yt11, c11⟩
        have htl := CR.len tz11; have ytl11 := Ow.lt tz11
        have z11 := c11.size
        have hbk := half_back hL hu hp htz
        refine VO.mv (Rn.move rfl) rfl rfl rfl (VO.mv (Rn.extract rfl rfl) rfl rfl rfl (VO.mv (Rn.extract rfl rfl) rfl rfl rfl (VO.mv (Rn.assign rfl) rfl rfl rfl (VO.mv (Rn.assign rfl) rfl rfl rfl (VO.nil (VQ.then_code (VC.seq ?_)))))))
        refine VC.seq (VC.region (VO.mv (Rn.move rfl) rfl rfl rfl (VO.mv (Rn.nil_neq_nil Tryz.underlying29 rfl) rfl rfl rfl (VO.nil (VQ.then_code (VC.cond_false rfl (VC.skip ?_)))))))
        refine VQ.then_code (VC.seq (VC.region (VO.mv (Rn.move rfl) rfl rfl rfl ?_)))
        refine VO.mv (Rn.mul rfl rfl (by rw [IntKind.wrap_i64]; omega)) rfl rfl rfl ?_
        refine VO.wk (Wk.mkF0 Tryz.underlying27 inf25w57 rfl rfl (by omega) (by omega) (by omega)) rfl rfl rfl ?_
        rintro _ w12 ⟨p12, rfl, o12, c12, e12, z12⟩
        have z12 := c12.size
        refine VO.mv (Rn.assign rfl) rfl rfl rfl (VO.nil (VQ.then_code (VC.seq (VC.seq (VC.region (VO.mv (Rn.move rfl) rfl rfl rfl (VO.mv (Rn.len Tryz.underlying39 rfl) rfl rfl rfl ?_)))))))
        refine VO.mv (Rn.move rfl) rfl rfl rfl (VO.nil (VQ.then_code (VC.block ?_)))
        have tz_12 := tz11.keep c12
        have CH_12 := CH_2.and (c11.trans c12)
        refine VC.loopS (σ := Nat × List Nat × Nat × Option Addr × Nat) (fun (j, os, r2, A2, c2) => [(12, .slice A2 (2 * j) c2), (85, .slice AT 1 kT), (86, .int .i64 1), (87, .int .i64 j)]) (fun (j, os, r2, A2, c2) w' => j ≤ 1 ∧ FlU us (2 * j) os ∧ w.heap.size < r2 ∧ rT < r2 ∧ w12.heap.size ≤ w'.heap.size ∧ FR 25 w' r2 A2 (2 * j) c2 os ∧ CR 53 w' rT AT 1 kT ts ∧ Ch (No) w w') (fun (j, os, r2, A2, c2) => 1 - j) (0, [], (p12 + 1), (some ⟨p12, 0, none⟩), 2) ?_ ⟨rfl, rfl, rfl, rfl, trivial⟩ ?_
        · exact ⟨(by omega), ⟨rfl, fun i h => absurd h (by omega)⟩, (by omega), (by omega), (Nat.le_refl _), o12, tz_12, CH_12⟩
        rintro ⟨j, os, r2, A2, c2⟩ w13 ⟨hj, ho, hr2, hr3, hsz13, rof_13, tz_13, CH_13⟩
        show VC _ _ _ _ [(12, .slice A2 (2 * j) c2), (85, .slice AT 1 kT), (86, .int .i64 1), (87, .int .i64 j)] _
        refine VC.seq (VC.region (VO.mv (Rn.lss rfl rfl) rfl rfl rfl (VO.nil (VQ.then_code (VC.seq (VC.cond_if rfl (fun hc5 => ?_) (fun hc5 => ?_)))))))
        · skip
          refine VC.skip (VQ.then_code (VC.seq (VC.block (VC.seq (VC.region (VO.mv (Rn.indexS Tryz.underlying39 Tryz.sizeOf53 rfl rfl (tz_13.sl.ne (by omega)) (by omega) (by omega)) rfl rfl rfl (VO.mv (Rn.load Tryz.isAgg53 rfl (tz_13.sl.getC (by omega) (by omega))) rfl rfl rfl ?_)))))))
          refine VO.mv (Rn.assign rfl) rfl rfl rfl (VO.nil (VQ.then_code (VC.region (VO.mv (Rn.move rfl) rfl rfl rfl (VO.mv (Rn.move rfl) rfl rfl rfl (VO.mv (Rn.real rfl) rfl rfl rfl (VO.mv (Rn.move rfl) rfl rfl rfl ?_)))))))
          refine VO.mv (Rn.imag rfl) rfl rfl rfl (VO.wk (Wk.lit Tryz.underlying27 inf25w57 (by decide) rfl rfl (by rfl) (by decide) (by decide) (by rfl)) rfl rfl rfl ?_)
          rintro _ w14 ⟨p14, rfl, N14⟩
          have c14 := N14.ch
          have e14 := N14.p; have z14 := N14.size
          have l96 := SlR.of_new (sz := 1) (l := 2) N14 rfl
          have l96o := Ow.of_new (sz := 1) (l := 2) N14 rfl (by decide)
          have rof_14 := rof_13.keep c14
          refine VO.wk (Wk.append (S := _) Tryz.underlying27 inf25w57 rfl (by decide) rfl rfl rof_14 l96 (by rfl) (fun h => by simp at h) (by omega) (by simp only [maxLen]; omega)) rfl rfl rfl ?_
          rintro _ w15 ⟨r15, A15, k15, rfl, o15, c15, q15⟩
          have z15 := c15.size
          have y15 := o15.lt
          refine VO.mv (Rn.assign rfl) rfl rfl rfl (VO.nil (VQ.block_normal (VQ.then_code (VC.region ?_))))
          refine VO.mv (Rn.add rfl rfl (by rw [IntKind.wrap_i64]; omega)) rfl rfl rfl ?_
          refine VO.mv (Rn.move rfl) rfl rfl rfl (VO.nil ?_)
          refine VQ.round (j + 1, os ++ [(ts.getD (j : Int).toNat (0, 0)).1, (ts.getD (j : Int).toNat (0, 0)).2], r15, A15, k15) (by first | omega | (dsimp only; omega)) ?_ ⟨rfl, rfl, rfl, rfl, trivial⟩
          have tz_14 := tz_13.keep c14
          have tz_15 := tz_14.to c15 (by first | exact fun _ _ _ _ => id | (intro q h1 h2 hx h3; omega))
          have CH_14 := CH_13.and c14
          have CH_15 : Ch (No) w w15 := CH_14.then c15 (by intro q h1 h2; rcases h2 with h2 | h2 <;> first | exact h2 | (exfalso; omega) | omega)
          exact ⟨(by omega), (ho.two (hbk j (by omega))), (by omega), (by omega), (by omega), (by have h9 := o15; show Ow _ _ _ _ _ _ _ _; rw [List.map_append]; exact h9), tz_15, CH_15⟩
        · skip
          refine VC.exit (VQ.then_exit (VQ.then_exit (VQ.block_exit (VQ.then_code (VC.seq (VC.region (VO.mv (Rn.move rfl) rfl rfl rfl ?_)))))))
          refine VO.mv (Rn.assign rfl) rfl rfl rfl (VO.mv (Rn.assign rfl) rfl rfl rfl (VO.nil (VQ.then_code (VC.ret (VQ.ret2 rfl rfl rfl (Ret.mk ?_))))))
          obtain rfl : j = 1 := by omega
          exact ⟨_, _, _, os, rfl, rof_13, ⟨ho.len, fun i hi => ho.get i (by omega)⟩, hr2, CH_13⟩
set_option maxHeartbeats 2000000 in
set_option maxRecDepth 100000 in
theorem half_Inverse4 (SX : Nat → Prop) (X : Option Addr) (xc : Nat) (us : Nat → Int) (zs : List CB) (w : World) (sx : SlR SX w X 3 1 (zs.map cxV)) (hX : ∀ q, SX q → q < w.heap.size) (hu : U40 us) (hf : HalfOk 4 us zs) (st : StT w) (tab : TabB w.heap.size w) (hG : 12 ≤ w.heap.size) :
    Calls Tryz.prog 21 #[.slice X 3 xc] w (Ret (fun v w' => ∃ r A k os, v = .tuple #[.slice A 4 k, .nilIface] ∧ FR 25 w' r A 4 k os ∧ FlsOk 4 us os ∧ w.heap.size < r ∧ Ch No w w')) := by
  refine calls_of_VC (args := [.slice X 3 xc]) Tryz.func21 rfl Tryz.ntmps21 rfl (VC.seq (VC.region (VO.mv (Rn.assign rfl) rfl rfl rfl (VO.mv (Rn.assign rfl) rfl rfl rfl (VO.nil (VQ.then_code (VC.seq ?_)))))))
  refine VC.region (VO.mv (Rn.move rfl) rfl rfl rfl (VO.mv (Rn.len Tryz.underlying39 rfl) rfl rfl rfl ?_))
  refine VO.mv (Rn.sub rfl rfl (by rw [IntKind.wrap_i64]; omega)) rfl rfl rfl ?_
  refine VO.mv (Rn.assign rfl) rfl rfl rfl (VO.nil (VQ.then_code (VC.seq (VC.seq (VC.region (VO.mv (Rn.move rfl) rfl rfl rfl (VO.mv (Rn.lss rfl rfl) rfl rfl rfl ?_)))))))
  refine VO.mv (Rn.move rfl) rfl rfl rfl ?_
  refine VO.orJoin (b := _) 3 20 23 rfl (fun hc1 Jhc1 => by
      refine VO.skip rfl rfl rfl (VO.skip rfl rfl rfl (VO.mv (Rn.pick_true rfl rfl) rfl rfl rfl ?_))
      exact (VO.fg rfl (VO.fg rfl Jhc1))) (fun hc1 Jhc1 => by
      try simp only [Bool.and_eq_true, Bool.or_eq_true, Bool.not_eq_true', Bool.not_eq_false', Bool.and_eq_false_iff, Bool.or_eq_false_iff, decide_eq_true_eq, decide_eq_false_iff_not] at hc1
      refine VO.mv (Rn.move rfl) rfl rfl rfl (VO.mv (Rn.gtr rfl rfl) rfl rfl rfl (VO.mv (Rn.pick_false rfl rfl) rfl rfl rfl ?_))
      exact (VO.fg rfl (VO.fg rfl Jhc1))) ?_
  refine VO.nil (VQ.then_code (VC.cond rfl (fun hc2 => ?_) (fun hc2 => ?_)))
  · skip
    try simp only [Bool.and_eq_true, Bool.or_eq_true, Bool.not_eq_true', Bool.not_eq_false', Bool.and_eq_false_iff, Bool.or_eq_false_iff, decide_eq_true_eq, decide_eq_false_iff_not] at hc2
    omega
  · skip
    try simp only [Bool.and_eq_true, Bool.or_eq_true, Bool.not_eq_true', Bool.not_eq_false', Bool.and_eq_false_iff, Bool.or_eq_false_iff, decide_eq_true_eq, decide_eq_false_iff_not] at hc2
    refine VC.skip (VQ.then_code (VC.seq (VC.seq (VC.region (VO.mv (Rn.move rfl) rfl rfl rfl (VO.mv (Rn.eql rfl rfl) rfl rfl rfl (VO.nil ?_)))))))
    refine VQ.then_code (VC.cond_if rfl (fun hc3 => ?_) (fun hc3 => ?_))
    · skip
      omega
    · skip
      refine VC.skip (VQ.then_code (VC.seq (VC.region (VO.mv (Rn.move rfl) rfl rfl rfl (VO.wk (Wk.mkC Tryz.underlying39 inf53w57 rfl rfl (by omega) (by omega) (by omega)) rfl rfl rfl ?_)))))
      rintro _ w1 ⟨p1, rfl, o1, c1, e1, z1⟩
      refine VO.mv (Rn.assign rfl) rfl rfl rfl (VO.nil (VQ.then_code (VC.seq (VC.seq (VC.region (VO.mv (Rn.move rfl) rfl rfl rfl (VO.mv (Rn.len Tryz.underlying39 rfl) rfl rfl rfl ?_)))))))
      refine VO.mv (Rn.move rfl) rfl rfl rfl (VO.nil (VQ.then_code (VC.block ?_)))
      have sx_1 := sx.keep c1
      have st_1 := st.keep c1
      have tab_1 := tab.keep c1
      have CH_1 := (Ch.refl (No) w).and c1
      refine VC.loopS (σ := Nat × List CB) (fun (k, zz) => [(0, .slice X 3 xc), (4, .int .i64 2), (5, .slice (some ⟨p1, 0, none⟩) 2 2), (35, .int .i64 2), (36, .int .i64 k)]) (fun (k, zz) w' => k ≤ 2 ∧ PairU 2 us k zz ∧ w1.heap.size ≤ w'.heap.size ∧ CR 53 w' ((p1 + 1)) (some ⟨p1, 0, none⟩) 2 2 zz ∧ SlR SX w' X 3 1 (zs.map cxV) ∧ StT w' ∧ TabB w.heap.size w' ∧ Ch (No) w w') (fun (k, zz) => 2 - k) (0, List.replicate 2 (0, 0)) ?_ ⟨rfl, rfl, rfl, rfl, rfl, trivial⟩ ?_
      · exact ⟨(by omega), (PairU.zero _ _), (Nat.le_refl _), o1, sx_1, st_1, tab_1, CH_1⟩
      rintro ⟨k, zz⟩ w2 ⟨hk, hp, hsz2, row_2, sx_2, st_2, tab_2, CH_2⟩
      show VC _ _ _ _ [(0, .slice X 3 xc), (4, .int .i64 2), (5, .slice (some ⟨p1, 0, none⟩) 2 2), (35, .int .i64 2), (36, .int .i64 k)] _
      have e1 : ((k : Int)).toNat = k := by omega
      have e2 : k ≤ 2 → (2 - (k : Int)).toNat = 2 - k := fun _ => by omega
      refine VC.seq (VC.region (VO.mv (Rn.lss rfl rfl) rfl rfl rfl (VO.nil (VQ.then_code (VC.seq (VC.cond_if rfl (fun hc4 => ?_) (fun hc4 => ?_)))))))
      · skip
        refine VC.skip (VQ.then_code (VC.seq (VC.block (VC.seq (VC.region (VO.mv (Rn.move rfl) rfl rfl rfl (VO.mv (Rn.assign rfl) rfl rfl rfl ?_)))))))
        refine VO.nil (VQ.then_code (VC.seq (VC.draws 12 [(0, true), (1, true), (2, true), (3, true), (4, true), (5, true), (6, true), (7, true), (8, true), (9, true), (10, false), (11, true)] (fun w1 w' => Ch (No) w1 w') mixed (by kernel_rfl) (fun _ _ => Ch.refl _ _) ?_)))
        intro w3 D3
        have c3 := Ch.of_drew D3; have z3 := c3.size
        have sx_3 := sx_2.keep c3
        have row_3 := row_2.keep c3
        refine VH.mv (fun w' hS => Rn.move rfl) rfl rfl rfl rfl (VH.mv (fun w' hS => Rn.move rfl) rfl rfl rfl rfl (VH.mv (fun w' hS => Rn.indexS Tryz.underlying39 Tryz.sizeOf53 rfl rfl ((sx_3.keep hS).ne (by omega)) (by omega) (by omega)) rfl rfl rfl rfl (VH.mv (fun w' hS => Rn.load Tryz.isAgg53 rfl ((sx_3.keep hS).getC (by omega) (by omega))) rfl rfl rfl rfl (VH.mv (fun w' hS => Rn.move rfl) rfl rfl rfl rfl (VH.mv (fun w' hS => Rn.move rfl) rfl rfl rfl rfl (VH.mv (fun w' hS => Rn.move rfl) rfl rfl rfl rfl ?_))))))
        refine VH.mv (fun w' hS => Rn.sub rfl rfl (by rw [IntKind.wrap_i64]; omega)) rfl rfl rfl rfl ?_
        refine VH.mv (fun w' hS => Rn.indexS Tryz.underlying39 Tryz.sizeOf53 rfl rfl ((sx_3.keep hS).ne (by omega)) (by omega) (by omega)) rfl rfl rfl rfl (VH.mv (fun w' hS => Rn.load Tryz.isAgg53 rfl ((sx_3.keep hS).getC (by omega) (by omega))) rfl rfl rfl rfl (VH.wk (Wk.call Tryz.call47 rfl (cplx_Conj _ _ _)) rfl rfl rfl rfl ?_))
        rintro _ w4 ⟨p4, q4, rfl, F4, c4⟩
        have z4 := c4.size
        have RD_4 := (Ch.refl (No) w3).and c4
        refine ⟨RD_4, ?_⟩
        refine VH.mv (fun w' hS => Rn.assign rfl) rfl rfl rfl rfl (VH.done (VO.mv (Rn.assign rfl) rfl rfl rfl (VO.nil (VQ.noPanic (VQ.then_code (VC.seq (VC.region ?_)))))))
        refine VO.mv (Rn.move rfl) rfl rfl rfl (VO.mv (Rn.move rfl) rfl rfl rfl (VO.wk (Wk.call Tryz.call51 rfl (half_odd _ _ _ _ _)) rfl rfl rfl ?_))
        rintro _ w5 ⟨p5, q5, rfl, F5, c5⟩
        have z5 := c5.size
        refine VO.mv (Rn.move rfl) rfl rfl rfl ?_
        refine VO.mv (Rn.mul rfl rfl (by rw [IntKind.wrap_i64]; omega)) rfl rfl rfl ?_
        refine VO.mv (Rn.move rfl) rfl rfl rfl ?_
        refine VO.mv (Rn.neg rfl (by rw [IntKind.wrap_i64]; omega)) rfl rfl rfl ?_
        refine VO.wk (Wk.call Tryz.call42 rfl (roots_Twist _ _ 4 (-(k : Int)) ((4 - k) % 4) (by omega) (by omega) ⟨by omega, by omega⟩ (by omega) _)) rfl rfl rfl ?_
        rintro _ w6 ⟨x6, y6, rfl, F6, c6⟩
        have z6 := c6.size
        refine VO.mv (Rn.move rfl) rfl rfl rfl (VO.mv (Rn.extract rfl rfl) rfl rfl rfl (VO.mv (Rn.extract rfl rfl) rfl rfl rfl (VO.mv (Rn.assign rfl) rfl rfl rfl (VO.mv (Rn.assign rfl) rfl rfl rfl (VO.nil (VQ.then_code (VC.seq ?_)))))))
        refine VC.seq (VC.region (VO.mv (Rn.move rfl) rfl rfl rfl (VO.mv (Rn.nil_neq_nil Tryz.underlying29 rfl) rfl rfl rfl (VO.nil (VQ.then_code (VC.cond_false rfl (VC.skip ?_)))))))
        refine VQ.then_code (VC.region (VO.mv (Rn.move rfl) rfl rfl rfl (VO.mv (Rn.move rfl) rfl rfl rfl (VO.mv (Rn.move rfl) rfl rfl rfl (VO.mv (Rn.move rfl) rfl rfl rfl (VO.wk (Wk.call Tryz.call50 rfl (half_even _ _ _ _ _)) rfl rfl rfl ?_))))))
        rintro _ w7 ⟨p7, q7, rfl, F7, c7⟩
        have z7 := c7.size
        refine VO.mv (Rn.move rfl) rfl rfl rfl (VO.wk (Wk.call Tryz.call52 rfl (cplx_TimesI _ _ _)) rfl rfl rfl ?_)
        rintro _ w8 ⟨p8, q8, rfl, F8, c8⟩
        have z8 := c8.size
        refine VO.wk (Wk.cbin (.inl rfl) rfl rfl) rfl rfl rfl ?_
        rintro _ w9 ⟨p9, q9, rfl, F9, c9⟩
        have z9 := c9.size
        have row_9 := row_3.keep (c4.trans (c5.trans (c6.trans (c7.trans (c8.trans c9)))))
        refine VO.mv (Rn.indexS Tryz.underlying39 Tryz.sizeOf53 rfl rfl (row_9.sl.ne (by omega)) (by omega) (by omega)) rfl rfl rfl (VO.wk0 (Wk.putC Tryz.sizeOf53 rfl rfl (by omega) row_9) rfl rfl ?_)
        rintro _ w10 ⟨o10, c10, z10⟩
        have y10 := o10.lt
        refine VO.nil (VQ.block_normal (VQ.then_code (VC.region ?_)))
        refine VO.mv (Rn.add rfl rfl (by rw [IntKind.wrap_i64]; omega)) rfl rfl rfl ?_
        refine VO.mv (Rn.move rfl) rfl rfl rfl (VO.nil ?_)
        refine VQ.round (k + 1, zz.set k (p9, q9)) (by first | omega | (dsimp only; omega)) ?_ ⟨rfl, rfl, rfl, rfl, rfl, trivial⟩
        have sx_9 := sx_3.keep (c4.trans (c5.trans (c6.trans (c7.trans (c8.trans c9)))))
        have sx_10 := sx_9.to c10 (by first | exact fun _ _ _ _ => id | (intro q h1 h2 hx h3; have := hX q h2; omega))
        have st_9 := st_2.keep (c3.trans (c4.trans (c5.trans (c6.trans (c7.trans (c8.trans c9))))))
        have st_10 := st_9.to c10 (by first | exact fun _ _ _ _ => id | (intro q h1 h2 hx h3; omega))
        have tab_9 := tab_2.keep (c3.trans (c4.trans (c5.trans (c6.trans (c7.trans (c8.trans c9))))))
        have tab_10 := tab_9.to c10 (by first | exact fun _ _ _ _ => id | (intro q h1 h2 hx h3; omega))
        have CH_9 := CH_2.and (c3.trans (c4.trans (c5.trans (c6.trans (c7.trans (c8.trans c9))))))
        have CH_10 : Ch (No) w w10 := CH_9.then c10 (by intro q h1 h2; rcases h2 with h2 | h2 <;> first | exact h2 | (exfalso; omega) | omega)
        exact ⟨(by omega), (hp.step (by omega) (by rw [show cx (p9, q9) = invZ 2 (fun j => cx (zs.getD j (0, 0))) k from (invZ_of (za := zs.getD (k : Int).toNat (0, 0)) (zb := zs.getD (2 - (k : Int)).toNat (0, 0)) (by rw [e1]) (by rw [e2 (by omega)]) F4 F5 F6 F7 F8 F9 rfl rfl)]; exact inv_half (h := 2) (by decide) hu hf.get (by omega))), (by omega), o10, sx_10, st_10, tab_10, CH_10⟩
      · skip
        refine VC.exit (VQ.then_exit (VQ.then_exit (VQ.block_exit (VQ.then_code (VC.seq ?_)))))
        obtain rfl : k = 2 := by omega
        refine VC.region (VO.mv (Rn.move rfl) rfl rfl rfl (VO.wk (Wk.call Tryz.call46 rfl (half_transform1 _ _ 2 _ zz _ (row_2).sl (fun q hq => by omega) ⟨by decide⟩ (by omega) st_2 ((tab_2).up (by omega)) (by omega))) rfl rfl rfl ?_))
        rintro _ w11 ⟨rT, AT, kT, ts, bT, rfl, tz11, htz, hL, yt11, c11⟩
        have htl := CR.len tz11; have ytl11 := Ow.lt tz11
        have z11 := c11.size
        have hbk := half_back hL hu hp htz
        refine VO.mv (Rn.move rfl) rfl rfl rfl (VO.mv (Rn.extract rfl rfl) rfl rfl rfl (VO.mv (Rn.extract rfl rfl) rfl rfl rfl (VO.mv (Rn.assign rfl) rfl rfl rfl (VO.mv (Rn.assign rfl) rfl rfl rfl (VO.nil (VQ.then_code (VC.seq ?_)))))))
        refine VC.seq (VC.region (VO.mv (Rn.move rfl) rfl rfl rfl (VO.mv (Rn.nil_neq_nil Tryz.underlying29 rfl) rfl rfl rfl (VO.nil (VQ.then_code (VC.cond_false rfl (VC.skip ?_)))))))
        refine VQ.then_code (VC.seq (VC.region (VO.mv (Rn.move rfl) rfl rfl rfl ?_)))
        refine VO.mv (Rn.mul rfl rfl (by rw [IntKind.wrap_i64]; omega)) rfl rfl rfl ?_
        refine VO.wk (Wk.mkF0 Tryz.underlying27 inf25w57 rfl rfl (by omega) (by omega) (by omega)) rfl rfl rfl ?_
        rintro _ w12 ⟨p12, rfl, o12, c12, e12, z12⟩
        have z12 := c12.size
        refine VO.mv (Rn.assign rfl) rfl rfl rfl (VO.nil (VQ.then_code (VC.seq (VC.seq (VC.region (VO.mv (Rn.move rfl) rfl rfl rfl (VO.mv (Rn.len Tryz.underlying39 rfl) rfl rfl rfl ?_)))))))
        refine VO.mv (Rn.move rfl) rfl rfl rfl (VO.nil (VQ.then_code (VC.block ?_)))
        have tz_12 := tz11.keep c12
        have CH_12 := CH_2.and (c11.trans c12)
        refine VC.loopS (σ := Nat × List Nat × Nat × Option Addr × Nat) (fun (j, os, r2, A2, c2) => [(12, .slice A2 (2 * j) c2), (85, .slice AT 2 kT), (86, .int .i64 2), (87, .int .i64 j)]) (fun (j, os, r2, A2, c2) w' => j ≤ 2 ∧ FlU us (2 * j) os ∧ w.heap.size < r2 ∧ rT < r2 ∧ w12.heap.size ≤ w'.heap.size ∧ FR 25 w' r2 A2 (2 * j) c2 os ∧ CR 53 w' rT AT 2 kT ts ∧ Ch (No) w w') (fun (j, os, r2, A2, c2) => 2 - j) (0, [], (p12 + 1), (some ⟨p12, 0, none⟩), 4) ?_ ⟨rfl, rfl, rfl, rfl, trivial⟩ ?_
        · exact ⟨(by omega), ⟨rfl, fun i h => absurd h (by omega)⟩, (by omega), (by omega), (Nat.le_refl _), o12, tz_12, CH_12⟩
        rintro ⟨j, os, r2, A2, c2⟩ w13 ⟨hj, ho, hr2, hr3, hsz13, rof_13, tz_13, CH_13⟩
        show VC _ _ _ _ [(12, .slice A2 (2 * j) c2), (85, .slice AT 2 kT), (86, .int .i64 2), (87, .int .i64 j)] _
        refine VC.seq (VC.region (VO.mv (Rn.lss rfl rfl) rfl rfl rfl (VO.nil (VQ.then_code (VC.seq (VC.cond_if rfl (fun hc5 => ?_) (fun hc5 => ?_)))))))
        · skip
          refine VC.skip (VQ.then_code (VC.seq (VC.block (VC.seq (VC.region (VO.mv (Rn.indexS Tryz.underlying39 Tryz.sizeOf53 rfl rfl (tz_13.sl.ne (by omega)) (by omega) (by omega)) rfl rfl rfl (VO.mv (Rn.load Tryz.isAgg53 rfl (tz_13.sl.getC (by omega) (by omega))) rfl rfl rfl ?_)))))))
          refine VO.mv (Rn.assign rfl) rfl rfl rfl (VO.nil (VQ.then_code (VC.region (VO.mv (Rn.move rfl) rfl rfl rfl (VO.mv (Rn.move rfl) rfl rfl rfl (VO.mv (Rn.real rfl) rfl rfl rfl (VO.mv (Rn.move rfl) rfl rfl rfl ?_)))))))
          refine VO.mv (Rn.imag rfl) rfl rfl rfl (VO.wk (Wk.lit Tryz.underlying27 inf25w57 (by decide) rfl rfl (by rfl) (by decide) (by decide) (by rfl)) rfl rfl rfl ?_)
          rintro _ w14 ⟨p14, rfl, N14⟩
          have c14 := N14.ch
          have e14 := N14.p; have z14 := N14.size
          have l96 := SlR.of_new (sz := 1) (l := 2) N14 rfl
          have l96o := Ow.of_new (sz := 1) (l := 2) N14 rfl (by decide)
          have rof_14 := rof_13.keep c14
          refine VO.wk (Wk.append (S := _) Tryz.underlying27 inf25w57 rfl (by decide) rfl rfl rof_14 l96 (by rfl) (fun h => by simp at h) (by omega) (by simp only [maxLen]; omega)) rfl rfl rfl ?_
          rintro _ w15 ⟨r15, A15, k15, rfl, o15, c15, q15⟩
          have z15 := c15.size
          have y15 := o15.lt
          refine VO.mv (Rn.assign rfl) rfl rfl rfl (VO.nil (VQ.block_normal (VQ.then_code (VC.region ?_))))
          refine VO.mv (Rn.add rfl rfl (by rw [IntKind.wrap_i64]; omega)) rfl rfl rfl ?_
          refine VO.mv (Rn.move rfl) rfl rfl rfl (VO.nil ?_)
          refine VQ.round (j + 1, os ++ [(ts.getD (j : Int).toNat (0, 0)).1, (ts.getD (j : Int).toNat (0, 0)).2], r15, A15, k15) (by first | omega | (dsimp only; omega)) ?_ ⟨rfl, rfl, rfl, rfl, trivial⟩
          have tz_14 := tz_13.keep c14
          have tz_15 := tz_14.to c15 (by first | exact fun _ _ _ _ => id | (intro q h1 h2 hx h3; omega))
          have CH_14 := CH_13.and c14
          have CH_15 : Ch (No) w w15 := CH_14.then c15 (by intro q h1 h2; rcases h2 with h2 | h2 <;> first | exact h2 | (exfalso; omega) | omega)
          exact ⟨(by omega), (ho.two (hbk j (by omega))), (by omega), (by omega), (by omega), (by have h9 := o15; show Ow _ _ _ _ _ _ _ _; rw [List.map_append]; exact h9), tz_15, CH_15⟩
        · skip
          refine VC.exit (VQ.then_exit (VQ.then_exit (VQ.block_exit (VQ.then_code (VC.seq (VC.region (VO.mv (Rn.move rfl) rfl rfl rfl ?_)))))))
          refine VO.mv (Rn.assign rfl) rfl rfl rfl (VO.mv (Rn.assign rfl) rfl rfl rfl (VO.nil (VQ.then_code (VC.ret (VQ.ret2 rfl rfl rfl (Ret.mk ?_))))))
          obtain rfl : j = 2 := by omega
          exact ⟨_, _, _, os, rfl, rof_13, ⟨ho.len, fun i hi => ho.get i (by omega)⟩, hr2, CH_13⟩
end Go.Tm
