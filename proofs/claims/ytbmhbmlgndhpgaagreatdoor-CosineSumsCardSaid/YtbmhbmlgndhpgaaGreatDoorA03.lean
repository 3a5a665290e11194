/- Lemmas of this claim, joined by program. Walks of functions: divisors. The planner's choice, in plain Lean. Maps: what is known of one, look-ups, updates. Walks of functions: what a chooser knows; factors; sizes. Walks of functions: hard lengths, sizes, the offer. Regions that draw their order and hold two workers that may be taken in either order; cuts. Conditions: each lemma names its own. -/
import Derived.Test.YtbmhbmlgndhpgaaGreatDoorA02
import Derived.Test.YtbmhbmlgndhpgaaGreatDoorA01
set_option linter.all false
namespace Go.Tm
open Go.RowKit Go.Proofs
set_option maxRecDepth 100000 in
theorem divisors1 (l pd : Nat) (n : Int) (h1 : 1 ≤ n) (h2 : n ≤ 4294967296) (J Jx : List Int → World → Prop) (W : World) (hY : ∀ (pre : List Int) (x : Int) W1, (1 ≤ x ∧ x ≤ n ∧ n % x = 0) → J pre W1 → pre.length < 200000 → YieldAt Fence.wide 0 Tryz.prog l #[.int .i64 x] W1 fun e W' => (e = .returned (.bool true) ∧ J (pre ++ [x]) W' ∧ KpB pd W1 W') ∨ (e = .returned (.bool false) ∧ Jx (pre ++ [x]) W')) (hb : Bk W pd #[.int .i64 n] 3) (hJ : J [] W) :
  Calls Tryz.prog 106 #[.func (.yield l) #[] #[], .pointer (some ⟨pd, 0, none⟩)] W (Ret (fun _ w' => (∃ xs, (∃ e, DivE n e ∧ xs = divsAt n e) ∧ J xs w') ∨ ∃ pre, Jx pre w')) := by
 refine calls_of_VC (args := [.func (.yield l) #[] #[], .pointer (some ⟨pd, 0, none⟩)]) Tryz.func106 rfl Tryz.ntmps106 rfl (VC.seq (VC.seq (VC.region (VO.mv (Rn.load Tryz.isAgg3 rfl (hb.cell rfl)) rfl rfl rfl (VO.mv (Rn.lss rfl rfl) rfl rfl rfl (VO.mv (Rn.move rfl) rfl rfl rfl ?_))))))
 refine VO.orJoin (b := _) 3 6 9 rfl (fun hc1 Jhc1 => by
   refine VO.skip rfl rfl rfl (VO.skip rfl rfl rfl (VO.mv (Rn.pick_true rfl rfl) rfl rfl rfl ?_))
   exact (VO.fg rfl (VO.fg rfl Jhc1))) (fun hc1 Jhc1 => by
   try simp only [Bool.and_eq_true, Bool.or_eq_true, Bool.not_eq_true', Bool.not_eq_false', Bool.and_eq_false_iff, Bool.or_eq_false_iff, decide_eq_true_eq, decide_eq_false_iff_not] at hc1
   refine VO.mv (Rn.load Tryz.isAgg3 rfl (hb.cell rfl)) rfl rfl rfl (VO.mv (Rn.gtr rfl rfl) rfl rfl rfl (VO.mv (Rn.pick_false rfl rfl) rfl rfl rfl ?_))
   exact (VO.fg rfl (VO.fg rfl Jhc1))) ?_
 refine VO.nil (VQ.then_code (VC.cond rfl (fun hc2 => ?_) (fun hc2 => ?_)))
 ·
  try simp only [Bool.and_eq_true, Bool.or_eq_true, Bool.not_eq_true', Bool.not_eq_false', Bool.and_eq_false_iff, Bool.or_eq_false_iff, decide_eq_true_eq, decide_eq_false_iff_not] at hc2
  omega
 ·
  try simp only [Bool.and_eq_true, Bool.or_eq_true, Bool.not_eq_true', Bool.not_eq_false', Bool.and_eq_false_iff, Bool.or_eq_false_iff, decide_eq_true_eq, decide_eq_false_iff_not] at hc2
  refine VC.skip (VQ.then_code (VC.seq (VC.region (VO.mv (Rn.assign rfl) rfl rfl rfl (VO.nil (VQ.then_code (VC.seq ?_)))))))
  refine VC.block (VC.loopS (σ := Nat) (fun c => [(0, .func (.yield l) #[] #[]), (1, .pointer (some ⟨pd, 0, none⟩)), (3, .int .i64 ((c : Int) + 1))]) (fun c w' => Bk w' pd #[.int .i64 n] 3 ∧ J (upGo n c) w' ∧ (c = 0 ∨ (c : Int) * c < n) ∧ c ≤ 65536) (fun c => 65537 - c) 0 ?_ ⟨rfl, rfl, rfl, trivial⟩ ?_)
  · exact ⟨hb, hJ, .inl rfl, by omega⟩
  rintro c w1 ⟨hb_1, hJ, hc, hc0⟩
  show VC _ _ _ _ [(0, .func (.yield l) #[] #[]), (1, .pointer (some ⟨pd, 0, none⟩)), (3, .int .i64 ((c : Int) + 1))] _
  have hs := sq_le (c := (c : Int) + 1) (by omega) (by omega); have hs2 := Int.mul_le_mul_of_nonneg_left (show (1 : Int) ≤ (c : Int) + 1 by omega) (show (0 : Int) ≤ (c : Int) + 1 by omega)
  refine VC.seq (VC.seq (VC.region (VO.mv (Rn.move rfl) rfl rfl rfl (VO.mv (Rn.move rfl) rfl rfl rfl ?_))))
  refine VO.mv (Rn.mul rfl rfl (by rw [IntKind.wrap_i64]; omega)) rfl rfl rfl ?_
  refine VO.mv (Rn.load Tryz.isAgg3 rfl (hb_1.cell rfl)) rfl rfl rfl (VO.mv (Rn.lss rfl rfl) rfl rfl rfl (VO.nil (VQ.then_code (VC.cond_if rfl (fun hc3 => ?_) (fun hc3 => ?_)))))
  ·
   refine VC.skip (VQ.then_code (VC.seq (VC.block (VC.seq (VC.regionY (VY.mv (Rn.load Tryz.isAgg3 rfl (hb_1.cell rfl)) rfl rfl rfl (VY.mv (Rn.move rfl) rfl rfl rfl ?_)))))))
   refine VY.mv (Rn.rem0 rfl rfl (by omega) (by omega)) rfl rfl rfl (VY.mv (Rn.eql rfl rfl) rfl rfl rfl (VY.mv (Rn.move rfl) rfl rfl rfl (VY.split_if 21 rfl (fun hc4 => ?_) (fun hc4 => ?_))))
   ·
    refine VY.mv (Rn.move rfl) rfl rfl rfl (VY.mv (Rn.move rfl) rfl rfl rfl ?_)
    refine VY.yield rfl rfl (hY (upGo n c) ((c : Int) + 1) _ ⟨by omega, by omega, hc4⟩ hJ (by have := upGo_len n c; omega)) rfl rfl ?_
    rintro _ w2 (⟨rfl, hJy, hky⟩ | ⟨rfl, hJy⟩)
    ·
     refine ⟨_, rfl, ?_⟩
     have hb_2 : Bk w2 pd #[.int .i64 n] 3 := ⟨hky _ hb_1.blk⟩
     refine VY.mv (Rn.not rfl) rfl rfl rfl (VY.mv (Rn.pick_true rfl rfl) rfl rfl rfl (VY.nil (VQ.then_code (VC.cond_false rfl (VC.skip (VQ.block_normal (VQ.then_code ?_)))))))
     refine VC.region (VO.mv (Rn.move rfl) rfl rfl rfl ?_)
     refine VO.mv (Rn.add rfl rfl (by rw [IntKind.wrap_i64]; omega)) rfl rfl rfl ?_
     refine VO.mv (Rn.assign rfl) rfl rfl rfl (VO.nil ?_)
     refine VQ.round (c + 1) (by first | omega | (dsimp only; omega)) ?_ ⟨rfl, rfl, rfl, trivial⟩
     refine ⟨hb_2, ?_, .inr hc3, ?_⟩
     · simp only [upGo, if_pos hc4]; exact hJy
     · have := sq_lt (c := c + 1) hc3 h2; omega
    ·
     refine ⟨_, rfl, ?_⟩
     refine VY.mv (Rn.not rfl) rfl rfl rfl (VY.mv (Rn.pick_true rfl rfl) rfl rfl rfl (VY.nil (VQ.then_code (VC.cond_true rfl (VC.ret (VQ.block_ret (VQ.then_ret ?_)))))))
     refine VQ.then_ret (VQ.block_ret (VQ.then_ret (VQ.ret0 rfl (Ret.mk ?_))))
     exact .inr ⟨_, hJy⟩
   ·
    refine VY.skip rfl rfl rfl (VY.skip rfl rfl rfl (VY.skip rfl rfl rfl (VY.skip rfl rfl rfl (VY.mv (Rn.pick_false rfl rfl) rfl rfl rfl (VY.nil (VQ.then_code (VC.cond_false rfl ?_)))))))
    refine VC.skip (VQ.block_normal (VQ.then_code (VC.region (VO.mv (Rn.move rfl) rfl rfl rfl ?_))))
    refine VO.mv (Rn.add rfl rfl (by rw [IntKind.wrap_i64]; omega)) rfl rfl rfl ?_
    refine VO.mv (Rn.assign rfl) rfl rfl rfl (VO.nil ?_)
    refine VQ.round (c + 1) (by first | omega | (dsimp only; omega)) ?_ ⟨rfl, rfl, rfl, trivial⟩
    refine ⟨hb_1, ?_, .inr hc3, ?_⟩
    · simp only [upGo, if_neg hc4, List.append_nil]; exact hJ
    · have := sq_lt (c := c + 1) hc3 h2; omega
  ·
   refine VC.exit (VQ.then_exit (VQ.then_exit (VQ.block_exit (VQ.then_code (VC.block ?_)))))
   obtain ⟨e, he⟩ : ∃ e, e = c + 1 := ⟨_, rfl⟩
   have hE : DivE n e := by subst he; exact DivE.mk' hc hc3
   refine VC.loopS (σ := Int) (fun d => [(0, .func (.yield l) #[] #[]), (1, .pointer (some ⟨pd, 0, none⟩)), (3, .int .i64 d)]) (fun d w' => Bk w' pd #[.int .i64 n] 3 ∧ J (upGo n (e - 1) ++ dnGo n e ((e : Int) - d).toNat) w' ∧ 0 ≤ d ∧ d ≤ e) (fun d => d.toNat) ((c : Int) + 1) ?_ ⟨rfl, rfl, rfl, trivial⟩ ?_
   · exact ⟨hb_1, by subst he; simpa [dnGo] using hJ, by omega, by omega⟩
   rintro d w3 ⟨hb_3, hJ, hd, hd2⟩
   show VC _ _ _ _ [(0, .func (.yield l) #[] #[]), (1, .pointer (some ⟨pd, 0, none⟩)), (3, .int .i64 d)] _
   have hl1 := upGo_len n (e - 1); have hl2 := dnGo_len n e ((e : Int) - d).toNat
   refine VC.seq (VC.seq (VC.region (VO.mv (Rn.move rfl) rfl rfl rfl (VO.mv (Rn.gtr rfl rfl) rfl rfl rfl (VO.nil (VQ.then_code (VC.cond_if rfl (fun hc5 => ?_) (fun hc5 => ?_))))))))
   ·
    refine VC.skip (VQ.then_code (VC.seq (VC.block (VC.seq (VC.regionY (VY.mv (Rn.load Tryz.isAgg3 rfl (hb_3.cell rfl)) rfl rfl rfl (VY.mv (Rn.move rfl) rfl rfl rfl ?_)))))))
    refine VY.mv (Rn.rem0 rfl rfl (by omega) (by omega)) rfl rfl rfl (VY.mv (Rn.eql rfl rfl) rfl rfl rfl (VY.mv (Rn.move rfl) rfl rfl rfl (VY.split_if 35 rfl (fun hc6 => ?_) (fun hc6 => ?_))))
    ·
     refine VY.mv (Rn.load Tryz.isAgg3 rfl (hb_3.cell rfl)) rfl rfl rfl (VY.mv (Rn.move rfl) rfl rfl rfl (VY.mv (Rn.quo0 rfl rfl (by omega) (by omega) (by omega)) rfl rfl rfl (VY.mv (Rn.move rfl) rfl rfl rfl (VY.mv (Rn.geq rfl rfl) rfl rfl rfl (VY.mv (Rn.pick_true rfl rfl) rfl rfl rfl (VY.mv (Rn.move rfl) rfl rfl rfl (VY.split_if 42 rfl (fun hc7 => ?_) (fun hc7 => ?_))))))))
     ·
      refine VY.mv (Rn.move rfl) rfl rfl rfl (VY.mv (Rn.load Tryz.isAgg3 rfl (hb_3.cell rfl)) rfl rfl rfl (VY.mv (Rn.move rfl) rfl rfl rfl (VY.mv (Rn.quo0 rfl rfl (by omega) (by omega) (by omega)) rfl rfl rfl ?_)))
      refine VY.yield rfl rfl (hY (upGo n (e - 1) ++ dnGo n e ((e : Int) - d).toNat) (n / d) _ (divE_ok h1 (by omega) hc6) hJ (by have := @List.length_append _ (upGo n (e - 1)) (dnGo n e ((e : Int) - d).toNat); omega)) rfl rfl ?_
      rintro _ w4 (⟨rfl, hJy, hky⟩ | ⟨rfl, hJy⟩)
      ·
       refine ⟨_, rfl, ?_⟩
       have hb_4 : Bk w4 pd #[.int .i64 n] 3 := ⟨hky _ hb_3.blk⟩
       refine VY.mv (Rn.not rfl) rfl rfl rfl (VY.mv (Rn.pick_true rfl rfl) rfl rfl rfl (VY.nil (VQ.then_code (VC.cond_false rfl (VC.skip (VQ.block_normal (VQ.then_code ?_)))))))
       refine VC.region (VO.mv (Rn.move rfl) rfl rfl rfl ?_)
       refine VO.mv (Rn.sub rfl rfl (by rw [IntKind.wrap_i64]; omega)) rfl rfl rfl ?_
       refine VO.mv (Rn.assign rfl) rfl rfl rfl (VO.nil ?_)
       refine VQ.round (d - 1) (by first | omega | (dsimp only; omega)) ?_ ⟨rfl, rfl, rfl, trivial⟩
       have ec : ((e : Int) - (d - 1)).toNat = ((e : Int) - d).toNat + 1 := by omega
       have e2 : (e : Int) - (((e : Int) - d).toNat : Int) = d := by omega
       refine ⟨hb_4, ?_, by omega, by omega⟩
       rw [ec]; simp only [dnGo]; rw [e2]
       rw [if_pos ⟨hc6, hc7⟩, ← List.append_assoc]; exact hJy
      ·
       refine ⟨_, rfl, ?_⟩
       refine VY.mv (Rn.not rfl) rfl rfl rfl (VY.mv (Rn.pick_true rfl rfl) rfl rfl rfl (VY.nil (VQ.then_code (VC.cond_true rfl (VC.ret (VQ.block_ret (VQ.then_ret ?_)))))))
       refine VQ.then_ret (VQ.block_ret (VQ.ret0 rfl (Ret.mk ?_)))
       exact .inr ⟨_, hJy⟩
     ·
      refine VY.skip rfl rfl rfl (VY.skip rfl rfl rfl (VY.skip rfl rfl rfl (VY.skip rfl rfl rfl (VY.skip rfl rfl rfl (VY.skip rfl rfl rfl (VY.mv (Rn.pick_false rfl rfl) rfl rfl rfl (VY.nil ?_)))))))
      refine VQ.then_code (VC.cond_false rfl (VC.skip (VQ.block_normal (VQ.then_code (VC.region (VO.mv (Rn.move rfl) rfl rfl rfl ?_))))))
      refine VO.mv (Rn.sub rfl rfl (by rw [IntKind.wrap_i64]; omega)) rfl rfl rfl ?_
      refine VO.mv (Rn.assign rfl) rfl rfl rfl (VO.nil ?_)
      refine VQ.round (d - 1) (by first | omega | (dsimp only; omega)) ?_ ⟨rfl, rfl, rfl, trivial⟩
      have ec : ((e : Int) - (d - 1)).toNat = ((e : Int) - d).toNat + 1 := by omega
      have e2 : (e : Int) - (((e : Int) - d).toNat : Int) = d := by omega
      refine ⟨hb_3, ?_, by omega, by omega⟩
      rw [ec]; simp only [dnGo]; rw [e2]
      rw [if_neg (fun h => hc7 h.2), List.append_nil]; exact hJ
    ·
     refine VY.skip rfl rfl rfl (VY.skip rfl rfl rfl (VY.skip rfl rfl rfl (VY.skip rfl rfl rfl (VY.skip rfl rfl rfl (VY.mv (Rn.pick_false rfl rfl) rfl rfl rfl (VY.mv (Rn.move rfl) rfl rfl rfl (VY.skip rfl rfl rfl ?_)))))))
     refine VY.skip rfl rfl rfl (VY.skip rfl rfl rfl (VY.skip rfl rfl rfl (VY.skip rfl rfl rfl (VY.skip rfl rfl rfl (VY.mv (Rn.pick_false rfl rfl) rfl rfl rfl (VY.nil (VQ.then_code ?_)))))))
     refine VC.cond_false rfl (VC.skip (VQ.block_normal (VQ.then_code (VC.region (VO.mv (Rn.move rfl) rfl rfl rfl ?_)))))
     refine VO.mv (Rn.sub rfl rfl (by rw [IntKind.wrap_i64]; omega)) rfl rfl rfl ?_
     refine VO.mv (Rn.assign rfl) rfl rfl rfl (VO.nil ?_)
     refine VQ.round (d - 1) (by first | omega | (dsimp only; omega)) ?_ ⟨rfl, rfl, rfl, trivial⟩
     have ec : ((e : Int) - (d - 1)).toNat = ((e : Int) - d).toNat + 1 := by omega
     have e2 : (e : Int) - (((e : Int) - d).toNat : Int) = d := by omega
     refine ⟨hb_3, ?_, by omega, by omega⟩
     rw [ec]; simp only [dnGo]; rw [e2]
     rw [if_neg (fun h => hc6 h.1), List.append_nil]; exact hJ
   ·
    refine VC.exit (VQ.then_exit (VQ.then_exit (VQ.block_exit (VQ.end0 rfl (Ret.mk ?_)))))
    have hd0 : d = 0 := by omega
    subst hd0
    exact .inl ⟨divsAt n e, ⟨e, hE, rfl⟩, by simpa [divsAt] using hJ⟩
abbrev Dv (n : Int) := { x : Int // 1 ≤ x ∧ x ≤ n ∧ n % x = 0 }
theorem divisors_stops (n : Int) (pd : Nat) (w0 : World) (h1 : 1 ≤ n) (h2 : n ≤ 4294967296) (hb : Bk w0 pd #[.int .i64 n] 3) :
    SeqStopsK Fence.wide 0 Tryz.prog 106 #[.pointer (some ⟨pd, 0, none⟩)] (fun x : Dv n => #[.int .i64 x.1]) (KpB pd) (fun xs => ∃ e, DivE n e ∧ xs.map (·.1) = divsAt n e) (fun _ => True) 200000 w0 := by
  intro l J Jx W hW hJ hJx hY h0
  refine callsIn_wide.2 ?_
  have hb' : Bk W pd #[.int .i64 n] 3 := ⟨(hW.block pd hb.lt).trans hb.blk⟩
  refine (divisors1 l pd n h1 h2 (fun l' w => ∃ xs : List (Dv n), xs.map (·.1) = l' ∧ J xs w) (fun l' w => ∃ xs : List (Dv n), Jx xs w) W ?_ hb' ⟨[], rfl, h0⟩).mono ?_
  · rintro pre x W1 hx ⟨xs, rfl, hj⟩ hlen
    obtain ⟨fn, tmps, assign, body, hy, hr⟩ := hY xs ⟨x, hx⟩ W1 hj (by simpa using hlen)
    refine ⟨fn, tmps, assign, body, hy, hr.mono ?_⟩
    rintro e W' (⟨rfl, h3, h4⟩ | ⟨rfl, h3⟩)
    · exact .inl ⟨rfl, ⟨_, by simp, h3⟩, h4⟩
    · exact .inr ⟨rfl, _, h3⟩
  · rintro e W' ⟨v, rfl, (⟨xs, hS, xs', h3, h4⟩ | ⟨pre, xs', h3⟩)⟩
    · obtain ⟨e, he, rfl⟩ := hS
      exact ⟨⟨_, rfl⟩, .inl ⟨xs', ⟨e, he, h3⟩, h4⟩⟩
    · exact ⟨⟨_, rfl⟩, .inr ⟨xs', trivial, h3⟩⟩
set_option maxRecDepth 100000 in
theorem primes_Divisors (n : Int) (w : World) :
  Calls Tryz.prog 73 #[.int .i64 n] w (Ret (fun v w' => ∃ pd, v = .func (.func 106) #[] #[.pointer (some ⟨pd, 0, none⟩)] ∧ Bk w' pd #[.int .i64 n] 3 ∧ w.heap.size ≤ pd ∧ Ch No w w')) := by
 refine calls_of_VC (args := [.int .i64 n]) Tryz.func73 rfl Tryz.ntmps73 rfl (VC.seq (VC.region (VO.wk (Wk.box rfl) rfl rfl rfl ?_)))
 rintro _ w1 ⟨p1, rfl, N1⟩
 have c1 := N1.ch
 have e1 := N1.p; have z1 := N1.size
 have b1 := Bk.new N1
 refine VO.mv (Rn.assign rfl) rfl rfl rfl (VO.nil (VQ.then_code (VC.seq (VC.region (VO.mv (Rn.func rfl rfl) rfl rfl rfl (VO.mv (Rn.assign rfl) rfl rfl rfl (VO.nil ?_)))))))
 refine VQ.then_code (VC.ret (VQ.ret1 rfl rfl (Ret.mk ?_)))
 have CH_1 := (Ch.refl (No) w).and c1
 exact ⟨_, rfl, b1, by omega, CH_1⟩
end Go.Tm
namespace Go.Tm
structure Pol where
  direct : Int
  flies : List Int
  prime : Int
def headsM (P : Pol) (a : Int) : List Ord := (if a ≤ P.direct then [.mk 1 a []] else []) ++ (if P.flies.contains a then [.mk 2 a []] else [])
theorem mem_heads {P : Pol} {a : Int} {o : Ord} (h : o ∈ headsM P a) : (o.kind = 1 ∨ o.kind = 2) ∧ o.n = a ∧ o.kids = [] := by
  unfold headsM at h
  rw [List.mem_append] at h
  rcases h with h | h <;> split at h <;> simp at h <;> subst h <;> simp [Ord.kind, Ord.n, Ord.kids]
theorem contains_snoc {l : List Int} {x y : Int} (h : l.contains x = false) (hy : ¬ x = y) : (l ++ [y]).contains x = false := by
  rw [Bool.eq_false_iff] at h ⊢
  simpa [hy] using h
def PolOk (P : Pol) : Prop := 2 ≤ P.direct ∧ P.direct ≤ 64 ∧ 2 ≤ P.prime ∧ P.prime ≤ P.direct ∧ (∀ i : Nat, ∀ r, P.flies[i]? = some r → (if i = 0 then 1 else P.flies.getD (i - 1) 0) < r ∧ r ≤ 5)
def divO : Nat → Int → Int → List Int → Int × List Int
  | 0, n, _, l => (n, l)
  | f + 1, n, p, l => if n % p = 0 then divO f (n / p) p (l ++ [p]) else (n, l)
def facO : Nat → Int → Int → List Int → List Int
  | 0, _, _, l => l
  | f + 1, n, p, l => if p * p ≤ n then facO f (divO 15 n p l).1 (p + 1) (divO 15 n p l).2 else if n > 1 then l ++ [n] else l
def facs (n : Int) : List Int := facO 200 n 2 []
theorem divO_stop {g : Nat} {m p : Int} {l : List Int} (h : ¬ m % p = 0) : divO g m p l = (m, l) := by
  cases g with
  | zero => rfl
  | succ g => rw [divO, if_neg h]
theorem g_pos {g : Nat} {m : Int} (h1 : 1 ≤ m) (h2 : m < 2 ^ g) : ∃ g', g = g' + 1 := by
  cases g with
  | zero => simp at h2; omega
  | succ g => exact ⟨g, rfl⟩
theorem sq_mono {p q : Int} (h0 : 0 ≤ p) (h : p ≤ q) : p * p ≤ q * q := Int.mul_le_mul h h h0 (by omega)
theorem div_half {n p m : Int} (hp : 2 ≤ p) (hn : 1 ≤ n) (h : n % p = 0) (hm : n < 2 * m) : 1 ≤ n / p ∧ n / p < m ∧ n / p ≤ n := by
  have h1 : n / p * p = n := Int.ediv_mul_cancel (Int.dvd_of_emod_eq_zero h)
  have h2 : 0 ≤ n / p := Int.ediv_nonneg (by omega) (by omega)
  have h3 : 0 < n / p := by
    rcases Int.lt_or_eq_of_le h2 with h | h
    · exact h
    · rw [← h] at h1; omega
  have h4 : 2 * (n / p) ≤ n := by
    have := Int.mul_le_mul_of_nonneg_left hp h2
    omega
  omega
def offerM (b : Ord × Int) (o : Ord) (c : Int) : Ord × Int := if b.2 < 0 ∨ c < b.2 then (o, c) else b
def best0 (P : Pol) (n : Int) : Ord × Int := (headsM P n).foldl (fun b o => offerM b o (lcost o.kind o.n)) (.mk 0 0 [], -1)
def offerH (n a : Int) (r : Ord × Int) (b : Ord × Int) (h : Ord) : Ord × Int := if r.2 ≥ 0 then offerM b (.mk 3 0 [h, r.1]) (timesC a (n / a) (lcost h.kind h.n) r.2 (decide (h.kind = 2))) else b
def stepM (rec : Int → Option (Ord × Int)) (P : Pol) (n : Int) (b : Ord × Int) (a : Int) : Option (Ord × Int) :=
  if a < 2 ∨ a = n then some b else if headsM P a = [] then some b else
    match rec (n / a) with
    | none => none
    | some r => some ((headsM P a).foldl (offerH n a r) b)
def IsP2 (x m : Int) : Prop := (∃ j : Nat, m = 2 ^ j) ∧ x ≤ m ∧ ∀ j : Nat, x ≤ 2 ^ j → m ≤ 2 ^ j
def hardM (P : Pol) (fs : List Int) (n : Int) : Bool := fs.any (fun q => decide (q > P.prime)) && decide (n ≤ 8192)
def goM (rec : Int → Option (Ord × Int)) (P : Pol) (n : Int) : List Int → Ord × Int → Option (Ord × Int)
  | [], b => some b
  | a :: t, b => match stepM rec P n b a with
    | none => none
    | some b' => goM rec P n t b'
theorem stepM_mono {rec rec' : Int → Option (Ord × Int)} (h : ∀ n r, rec n = some r → rec' n = some r) {P : Pol} {n a : Int} {b r : Ord × Int} (hs : stepM rec P n b a = some r) : stepM rec' P n b a = some r := by
  unfold stepM at *
  split
  · rename_i h1; rw [if_pos h1] at hs; exact hs
  · rename_i h1
    rw [if_neg h1] at hs
    split
    · rename_i h2; rw [if_pos h2] at hs; exact hs
    · rename_i h2
      rw [if_neg h2] at hs
      cases hr : rec (n / a) with
      | none => rw [hr] at hs; cases hs
      | some x => rw [hr] at hs; rw [h _ _ hr]; exact hs
theorem goM_mono {rec rec' : Int → Option (Ord × Int)} (h : ∀ n r, rec n = some r → rec' n = some r) {P : Pol} {n : Int} : ∀ {l : List Int} {b r : Ord × Int}, goM rec P n l b = some r → goM rec' P n l b = some r
  | [], _, _, hs => hs
  | a :: t, b, r, hs => by
    simp only [goM] at hs ⊢
    cases h1 : stepM rec P n b a with
    | none => rw [h1] at hs; cases hs
    | some b' => rw [h1] at hs; rw [stepM_mono h h1]; exact goM_mono h hs
theorem goM_snoc {rec : Int → Option (Ord × Int)} {P : Pol} {n : Int} : ∀ {l : List Int} {a : Int} {b r r' : Ord × Int}, goM rec P n l b = some r → stepM rec P n r a = some r' → goM rec P n (l ++ [a]) b = some r'
  | [], a, b, r, r', h, hs => by
    simp only [goM] at h
    injection h with h
    subst h
    simp only [List.nil_append, goM, hs]
  | x :: t, a, b, r, r', h, hs => by
    simp only [goM, List.cons_append] at h ⊢
    cases h1 : stepM rec P n b x with
    | none => rw [h1] at h; cases h
    | some b' => rw [h1] at h; exact goM_snoc h hs
def isq (n : Int) : Nat := ((List.range 200).find? fun e : Nat => decide (n ≤ (e : Int) * e) && decide (1 ≤ e)).getD 0
theorem isq_eq {n : Int} {e : Nat} (h : DivE n e) (hn : n ≤ 16384) : e = isq n := by
  obtain ⟨h1, h2, h3⟩ := h
  have he : e ≤ 128 := by
    rcases Nat.lt_or_ge 128 e with h | h
    · exfalso
      rcases h2 with h2 | h2
      · omega
      · have := Int.mul_le_mul (show (128 : Int) ≤ (e : Int) - 1 by omega) (show (128 : Int) ≤ (e : Int) - 1 by omega) (by omega) (by omega)
        omega
    · exact h
  unfold isq
  have hf : (List.range 200).find? (fun e : Nat => decide (n ≤ (e : Int) * e) && decide (1 ≤ e)) = some e := by
    rw [List.find?_range_eq_some]
    refine ⟨by simp [h1, h3], by simp; omega, ?_⟩
    intro j hj
    simp only [Bool.not_eq_true', Bool.and_eq_false_iff, decide_eq_false_iff_not]
    by_cases hj0 : j = 0
    · right; omega
    · left
      rcases h2 with h2 | h2
      · omega
      · have := Int.mul_le_mul (show (j : Int) ≤ (e : Int) - 1 by omega) (show (j : Int) ≤ (e : Int) - 1 by omega) (by omega) (by omega)
        omega
  rw [hf]
  rfl
def up2Go (x : Int) : Nat → Int → Int
  | 0, m => m
  | f + 1, m => if x ≤ m then m else up2Go x f (2 * m)
def up2 (x : Int) : Int := up2Go x 40 1
theorem up2Go_spec {x : Int} : ∀ (f j : Nat), x ≤ 2 ^ (j + f) → (∀ i : Nat, x ≤ 2 ^ i → (2 : Int) ^ j ≤ 2 ^ i) → IsP2 x (up2Go x f (2 ^ j))
  | 0, j, h, hi => ⟨⟨j, rfl⟩, h, hi⟩
  | f + 1, j, h, hi => by
    rw [up2Go]
    split
    · rename_i h1
      exact ⟨⟨j, rfl⟩, h1, hi⟩
    · rename_i h1
      have e : (2 : Int) * 2 ^ j = 2 ^ (j + 1) := by rw [Int.pow_succ]; omega
      rw [e]
      refine up2Go_spec f (j + 1) (by rw [show j + 1 + f = j + (f + 1) by omega]; exact h) fun i hx => ?_
      have h2 := hi i hx
      rcases Nat.lt_or_ge j i with hji | hji
      · exact_mod_cast Nat.pow_le_pow_right (by omega : 0 < 2) hji
      · have h3 : (2 : Int) ^ i ≤ 2 ^ j := by exact_mod_cast Nat.pow_le_pow_right (by omega : 0 < 2) hji
        omega
theorem up2_spec {x : Int} (h0 : 1 ≤ x) (h : x ≤ 1073741824) : IsP2 x (up2 x) :=
  up2Go_spec 40 0 (Int.le_trans h (by decide)) fun i _ => by
    have : 0 < (2 : Int) ^ i := Int.pow_pos (by omega)
    simp
    omega
theorem up2_pos {x : Int} (h0 : 1 ≤ x) (h : x ≤ 1073741824) : 1 ≤ up2 x := by have := (up2_spec h0 h).2.1; omega
theorem up2_le {x : Int} {j : Nat} (h0 : 1 ≤ x) (h : x ≤ 1073741824) (hj : x ≤ 2 ^ j) : up2 x ≤ 2 ^ j := (up2_spec h0 h).2.2 j hj
def bestF (P : Pol) : Nat → Int → Option (Ord × Int)
  | 0, _ => none
  | f + 1, n =>
    match goM (bestF P f) P n (divsAt n (isq n)) (best0 P n) with
    | none => none
    | some b => if hardM P (facs n) n then
        match bestF P f (up2 (2 * n - 1)) with
        | none => none
        | some x => some (offerM b (.mk 4 n [x.1]) (blueC n (up2 (2 * n - 1)) x.2))
      else some b
theorem bestF_succ {P : Pol} : ∀ (f : Nat) (n : Int) (r : Ord × Int), bestF P f n = some r → bestF P (f + 1) n = some r
  | 0, n, r, h => by simp [bestF] at h
  | f + 1, n, r, h => by
    have ih := bestF_succ (P := P) f
    rw [bestF] at h ⊢
    cases h1 : goM (bestF P f) P n (divsAt n (isq n)) (best0 P n) with
    | none => rw [h1] at h; cases h
    | some b =>
      rw [h1] at h
      rw [goM_mono ih h1]
      simp only at h ⊢
      split
      · rename_i h2
        rw [if_pos h2] at h
        cases h3 : bestF P f (up2 (2 * n - 1)) with
        | none => rw [h3] at h; cases h
        | some x => rw [h3] at h; rw [ih _ _ h3]; exact h
      · rename_i h2
        rw [if_neg h2] at h
        exact h
theorem bestF_le {P : Pol} {f g : Nat} {n : Int} {r : Ord × Int} (hfg : f ≤ g) (h : bestF P f n = some r) : bestF P g n = some r := by
  induction hfg with
  | refl => exact h
  | step _ ih => exact bestF_succ _ _ _ ih
def Best (P : Pol) (n : Int) (r : Ord × Int) : Prop := ∃ f, bestF P f n = some r
theorem Best.unique {P : Pol} {n : Int} {r r' : Ord × Int} (h : Best P n r) (h' : Best P n r') : r = r' := by
  obtain ⟨f, h⟩ := h
  obtain ⟨g, h'⟩ := h'
  have h1 := bestF_le (Nat.le_max_left f g) h
  have h2 := bestF_le (Nat.le_max_right f g) h'
  rw [h1] at h2
  injection h2
def GoB (P : Pol) (n : Int) (l : List Int) (b : Ord × Int) : Prop := ∃ f, goM (bestF P f) P n l (best0 P n) = some b
theorem GoB.nil (P : Pol) (n : Int) : GoB P n [] (best0 P n) := ⟨0, rfl⟩
theorem GoB.skip {P : Pol} {n a : Int} {l : List Int} {b : Ord × Int} (h : GoB P n l b) (ha : (a < 2 ∨ a = n) ∨ headsM P a = []) : GoB P n (l ++ [a]) b := by
  obtain ⟨f, h⟩ := h
  refine ⟨f, goM_snoc h ?_⟩
  unfold stepM
  rcases ha with ha | ha
  · rw [if_pos ha]
  · simp [ha]
theorem GoB.step {P : Pol} {n a : Int} {l : List Int} {b r : Ord × Int} (h : GoB P n l b) (h1 : ¬ (a < 2 ∨ a = n)) (hr : Best P (n / a) r) : GoB P n (l ++ [a]) ((headsM P a).foldl (offerH n a r) b) := by
  obtain ⟨f, h⟩ := h
  obtain ⟨g, hr⟩ := hr
  refine ⟨max f g, goM_snoc (goM_mono (fun n r => bestF_le (Nat.le_max_left f g)) h) ?_⟩
  unfold stepM
  rw [if_neg h1]
  by_cases h2 : headsM P a = []
  · rw [if_pos h2, h2]; rfl
  · rw [if_neg h2, bestF_le (Nat.le_max_right f g) hr]
theorem GoB.plain {P : Pol} {n : Int} {b : Ord × Int} (h : GoB P n (divsAt n (isq n)) b) (hh : hardM P (facs n) n = false) : Best P n b := by
  obtain ⟨f, h⟩ := h
  refine ⟨f + 1, ?_⟩
  rw [bestF, h]
  simp [hh]
theorem GoB.hard {P : Pol} {n : Int} {b x : Ord × Int} (h : GoB P n (divsAt n (isq n)) b) (hh : hardM P (facs n) n = true) (hx : Best P (up2 (2 * n - 1)) x) : Best P n (offerM b (.mk 4 n [x.1]) (blueC n (up2 (2 * n - 1)) x.2)) := by
  obtain ⟨f, h⟩ := h
  obtain ⟨g, hx⟩ := hx
  refine ⟨max f g + 1, ?_⟩
  rw [bestF, goM_mono (fun n r => bestF_le (Nat.le_max_left f g)) h]
  simp only [hh, if_true]
  rw [bestF_le (Nat.le_max_right f g) hx]
theorem facs_pow2 : ∀ j : Nat, j < 15 → (facs (2 ^ j)).all (fun q => decide (q ≤ 2)) = true := by decide +kernel
theorem hard_pow2 {P : Pol} {n : Int} (hp : 2 ≤ P.prime) (hn : n ≤ 16384) (h : ∃ j : Nat, n = 2 ^ j) : hardM P (facs n) n = false := by
  obtain ⟨j, rfl⟩ := h
  have hj : j < 15 := by
    rcases Nat.lt_or_ge j 15 with h | h
    · exact h
    · have h1 : (2 : Int) ^ 15 ≤ 2 ^ j := by exact_mod_cast Nat.pow_le_pow_right (by omega : 0 < 2) h
      have : (2 : Int) ^ 15 = 32768 := by decide
      omega
  have h1 := facs_pow2 j hj
  unfold hardM
  have h2 : (facs (2 ^ j)).any (fun q => decide (q > P.prime)) = false := by
    rw [List.any_eq_false]
    intro q hq
    have := List.all_eq_true.1 h1 q hq
    simp only [decide_eq_true_eq] at this ⊢
    omega
  rw [h2]
  rfl
theorem nat_pow2_of_mul : ∀ (j x y : Nat), x * y = 2 ^ j → ∃ i, y = 2 ^ i
  | 0, x, y, h => ⟨0, by simpa using Nat.eq_one_of_mul_eq_one_left h⟩
  | j + 1, x, y, h => by
    rcases Nat.mod_two_eq_zero_or_one y with hy | hy
    · obtain ⟨y', rfl⟩ : ∃ y', y = 2 * y' := ⟨y / 2, by omega⟩
      have : x * y' = 2 ^ j := by
        rw [Nat.pow_succ] at h
        have : x * (2 * y') = 2 * (x * y') := by rw [← Nat.mul_assoc, Nat.mul_comm x 2, Nat.mul_assoc]
        omega
      obtain ⟨i, rfl⟩ := nat_pow2_of_mul j x y' this
      exact ⟨i + 1, by rw [Nat.pow_succ]; omega⟩
    · rcases Nat.mod_two_eq_zero_or_one x with hx | hx
      · obtain ⟨x', rfl⟩ : ∃ x', x = 2 * x' := ⟨x / 2, by omega⟩
        have : x' * y = 2 ^ j := by
          rw [Nat.pow_succ] at h
          have : 2 * x' * y = 2 * (x' * y) := by rw [Nat.mul_assoc]
          omega
        exact nat_pow2_of_mul j x' y this
      · exfalso
        have h1 : (x * y) % 2 = 1 := by rw [Nat.mul_mod, hx, hy]
        rw [h, Nat.pow_succ] at h1
        omega
theorem pow2_quo {n a : Int} (hn : 1 ≤ n) (ha : 1 ≤ a) (hd : n % a = 0) (h : ∃ j : Nat, n = 2 ^ j) : ∃ j : Nat, n / a = 2 ^ j := by
  obtain ⟨j, hj⟩ := h
  have e : n / a * a = n := Int.ediv_mul_cancel (Int.dvd_of_emod_eq_zero hd)
  have h0 : 0 ≤ n / a := Int.ediv_nonneg (by omega) (by omega)
  obtain ⟨y, hy⟩ : ∃ y : Nat, n / a = y := ⟨(n / a).toNat, by omega⟩
  obtain ⟨x, hx⟩ : ∃ x : Nat, a = x := ⟨a.toNat, by omega⟩
  have h2 : x * y = 2 ^ j := by
    rw [hy] at e
    rw [hj] at e
    rw [hx] at e
    have : ((x * y : Nat) : Int) = ((2 ^ j : Nat) : Int) := by
      push_cast
      rw [Int.mul_comm]
      exact e
    exact_mod_cast this
  obtain ⟨i, hi⟩ := nat_pow2_of_mul j x y h2
  exact ⟨i, by rw [hy, hi]; push_cast; rfl⟩
def usual : Pol := ⟨16, [2, 3, 4, 5], 13⟩
end Go.Tm
namespace Go.Tm
open Go.RowKit
section
variable {κ : Type} [BEq κ] [LawfulBEq κ]
structure MpG (mk : κ → Value) (w : World) (b : Nat) (m : List (κ × Value)) : Prop where
  ex : ∃ es clock, w.heap[b]? = some (.map es clock) ∧ es.toList.map (fun e => (e.key, e.val)) = m.map (fun x => (mk x.1, x.2))
omit [BEq κ] [LawfulBEq κ] in
theorem MpG.to {mk : κ → Value} {w w' : World} {b : Nat} {m : List (κ × Value)} (h : MpG mk w b m) {D : Nat → Prop} (c : Ch D w w') (hd : ¬ D b) : MpG mk w' b m := by
  obtain ⟨es, cl, h1, h2⟩ := h
  exact ⟨es, cl, c.old _ _ hd h1, h2⟩
omit [BEq κ] [LawfulBEq κ] in
theorem MpG.keep {mk : κ → Value} {w w' : World} {b : Nat} {m : List (κ × Value)} (h : MpG mk w b m) (c : Ch No w w') : MpG mk w' b m := h.to c id
omit [BEq κ] [LawfulBEq κ] in
theorem MpG.lt {mk : κ → Value} {w : World} {b : Nat} {m : List (κ × Value)} (h : MpG mk w b m) : b < w.heap.size := by
  obtain ⟨es, cl, h1, _⟩ := h
  exact blk_lt h1
def mfind (m : List (κ × Value)) (k : κ) : Option Value := (m.find? fun x => k == x.1).map (·.2)
def mset (m : List (κ × Value)) (k : κ) (v : Value) : List (κ × Value) := if (m.any fun x => k == x.1) then m.map (fun x => if k == x.1 then (k, v) else x) else m ++ [(k, v)]
def mset1 : List (κ × Value) → κ → Value → List (κ × Value)
  | [], k, v => [(k, v)]
  | x :: t, k, v => if k == x.1 then (k, v) :: t else x :: mset1 t k v
theorem mem_mset1 {k : κ} {v : Value} : ∀ {m : List (κ × Value)} {x : κ × Value}, x ∈ mset1 m k v → x = (k, v) ∨ x ∈ m
  | [], x, h => by simpa [mset1] using h
  | y :: t, x, h => by
    simp only [mset1] at h
    split at h
    · simp only [List.mem_cons] at h
      rcases h with h | h
      · exact .inl h
      · exact .inr (List.mem_cons_of_mem _ h)
    · simp only [List.mem_cons] at h
      rcases h with h | h
      · exact .inr (h ▸ List.mem_cons_self)
      · exact (mem_mset1 h).imp id (List.mem_cons_of_mem _)
theorem findNow_eq {mk : κ → Value} {kind : TypeDesc} (hs : ∀ a b, Instr.sameNow kind (mk a) (mk b) = some (a == b)) (k : κ) : ∀ (es : List MapEntry) (m : List (κ × Value)) (i : Nat), es.map (fun e => (e.key, e.val)) = m.map (fun x => (mk x.1, x.2)) →
    (mfind m k = none ∧ Instr.findNow kind (mk k) es i = some none) ∨ ∃ j v e, mfind m k = some v ∧ es[j]? = some e ∧ e.key = mk k ∧ Instr.findNow kind (mk k) es i = some (some (i + j, v)) ∧
      (∀ v', ((es.modify j fun e => { e with key := mk k, val := v' }).map fun e => (e.key, e.val)) = (mset1 m k v').map (fun x => (mk x.1, x.2)))
  | [], m, i, h => by
    cases m with
    | nil => exact .inl ⟨rfl, rfl⟩
    | cons x t => simp at h
  | e :: es, m, i, h => by
    cases m with
    | nil => simp at h
    | cons x t =>
      simp only [List.map_cons, List.cons.injEq, Prod.mk.injEq] at h
      obtain ⟨⟨hk, hv⟩, ht⟩ := h
      simp only [Instr.findNow, hk, hs]
      by_cases hx : (k == x.1) = true
      · right
        have hkx : k = x.1 := by simpa using hx
        refine ⟨0, e.val, e, ?_, rfl, by rw [hk, hkx], ?_, ?_⟩
        · simp [mfind, hx, hv]
        · simp [hx]
        · intro v'
          simp [mset1, hx, ht]
      · have hx' : (k == x.1) = false := by simpa using hx
        rcases findNow_eq hs k es t (i + 1) ht with ⟨h1, h2⟩ | ⟨j, v, e', h1, h2, h3, h4, h5⟩
        · left
          refine ⟨?_, ?_⟩
          · simpa [mfind, hx'] using h1
          · simp [hx', h2]
        · right
          refine ⟨j + 1, v, e', ?_, by simpa using h2, h3, ?_, ?_⟩
          · simpa [mfind, hx'] using h1
          · simp only [hx', h4]
            congr 3
            omega
          · intro v'
            simp only [mset1, hx', List.modify_succ_cons, List.map_cons, Bool.false_eq_true, if_false]
            rw [h5 v', hk, hv]
structure KeyK (P : Program) (kt : TypeId) (mk : κ → Value) : Prop where
  ex : ∃ kind, P.underlying kt = some kind ∧ (∀ a b, Instr.sameNow kind (mk a) (mk b) = some (a == b)) ∧ (∀ b n a w, (Instr.checkKey b (n + 1) kt (mk a)).run P w = .ok () w) ∧ ∀ a, Instr.sameBits 10000 (mk a) (mk a) = true
end
theorem getMap {P : Program} {w : World} {r : Nat} {es : Array MapEntry} {clock : Nat} (hb : w.heap[r]? = some (.map es clock)) : (getObj r).run P w = .ok (.map es clock) w := by
  simp [getObj, Sem.run, hb]
theorem setMap {P : Program} {w : World} {r : Nat} {es : Array MapEntry} {clock : Nat} (o : Obj) (hb : w.heap[r]? = some (.map es clock)) : (setObj r o).run P w = .ok () { w with heap := w.heap.setIfInBounds r o } := by
  simp [setObj, Sem.run, hb]
theorem KeyK.int {P : Program} {kt : TypeId} {q : IntKind} (h : P.underlying kt = some (.int q)) : KeyK P kt (fun a : Int => Value.int q a) :=
  ⟨_, h, fun a b => by simp [Instr.sameNow], fun b n a w => by simp [Instr.checkKey, run_underlying h], fun a => by simp [Instr.sameBits]⟩
section
variable {κ : Type} [BEq κ] [LawfulBEq κ] {P : Program} {n : Fr} {k : K} {w : World} {d : Option Tmp} {ty : TypeId} {pos : String} {aft : Array Edge} {g : Option (Nat × Bool)} {mk : κ → Value} {t kt et : TypeId} {x y z : Operand} {b : Nat} {m : List (κ × Value)} {key : κ}
theorem run_findKey (kind : TypeDesc) (h1 : P.underlying kt = some kind) {es : List MapEntry} {r : Option (Nat × Value)} {kv : Value} (h : Instr.findNow kind kv es 0 = some r) : (Instr.findKey kt kv es).run P w = .ok r w := by
  simp [Instr.findKey, run_underlying h1, h]
theorem Rn.lookup_some {v : Value} (ht : P.underlying t = some (.map kt et)) (hk : KeyK P kt mk) (hx : ev k x = some (.map (some b))) (hy : ev k y = some (mk key)) (h : MpG mk w b m) (hv : mfind m key = some v) :
    Rn P n k w { dst := d, op := .lookup t x y true, type := ty, pos := pos, after := aft, guard := g } (.tuple #[v, .bool true]) := by
  obtain ⟨kind, h1, h2, h3, h4⟩ := hk
  obtain ⟨es, cl, h5, h6⟩ := h
  intro a ha
  rcases findNow_eq h2 key es.toList m 0 h6 with ⟨e, _⟩ | ⟨j, v', e', f1, f2, f3, f4, f5⟩
  · rw [hv] at e; cases e
  · rw [hv] at f1
    injection f1 with f1
    subst f1
    simp [execOp, ha.eval hx, ha.eval hy, Instr.lookup, run_underlying ht, getMap h5, h3, run_findKey kind h1 f4]
theorem Rn.lookup_none {zv : Value} (ht : P.underlying t = some (.map kt et)) (hk : KeyK P kt mk) (hz : ∀ w, (zeroValue et).run P w = .ok zv w) (hx : ev k x = some (.map (some b))) (hy : ev k y = some (mk key)) (h : MpG mk w b m) (hv : mfind m key = none) :
    Rn P n k w { dst := d, op := .lookup t x y true, type := ty, pos := pos, after := aft, guard := g } (.tuple #[zv, .bool false]) := by
  obtain ⟨kind, h1, h2, h3, h4⟩ := hk
  obtain ⟨es, cl, h5, h6⟩ := h
  intro a ha
  rcases findNow_eq h2 key es.toList m 0 h6 with ⟨_, f4⟩ | ⟨j, v', e', f1, f2, f3, f4, f5⟩
  · simp [execOp, ha.eval hx, ha.eval hy, Instr.lookup, run_underlying ht, getMap h5, h3, run_findKey kind h1 f4, hz]
  · rw [hv] at f1; cases f1
theorem Wk.mapPut {v : Value} (ht : P.underlying t = some (.map kt et)) (hk : KeyK P kt mk) (hx : ev k x = some (.map (some b))) (hy : ev k y = some (mk key)) (hz : ev k z = some v) (h : MpG mk w b m) :
    Wk P n k w { dst := none, op := .mapUpdate t x y z, type := ty, pos := pos, after := aft, guard := g } (fun _ w' => Ch (Is b) w w' ∧ w'.heap.size = w.heap.size ∧ MpG mk w' b (mset1 m key v)) := by
  obtain ⟨kind, h1, h2, h3, h4⟩ := hk
  obtain ⟨es, cl, h5, h6⟩ := h
  refine Wk.of_unit fun a ha => ?_
  have hlt := blk_lt h5
  have hch : ∀ o : Obj, Ch (Is b) w { w with heap := w.heap.setIfInBounds b o } := fun o => ⟨rfl, rfl, rfl, by simp, fun q x hq hx => by
    simp only [Array.getElem?_setIfInBounds]
    rw [if_neg (fun e => hq e.symm)]
    exact hx⟩
  rcases findNow_eq h2 key es.toList m 0 h6 with ⟨f1, f4⟩ | ⟨j, v', e', f1, f2, f3, f4, f5⟩
  · refine ⟨_, ?_, hch (.map (es.push { key := mk key, val := v, born := cl }) (cl + 1)), by simp, ⟨es.push { key := mk key, val := v, born := cl }, cl + 1, by simp [hlt], ?_⟩⟩
    · simp [execOp, ha.eval hx, ha.eval hy, ha.eval hz, Instr.mapUpdate, run_underlying ht, getMap h5, h3, run_findKey kind h1 f4, setMap _ h5]
    · have hno : ∀ m : List (κ × Value), mfind m key = none → mset1 m key v = m ++ [(key, v)] := by
        intro m
        induction m with
        | nil => intro _; rfl
        | cons x t ih =>
          intro hf
          simp only [mfind, List.find?_cons] at hf
          cases hx : key == x.1 with
          | true => rw [hx] at hf; simp at hf
          | false =>
            rw [hx] at hf
            simp only [mset1, hx, Bool.false_eq_true, if_false, List.cons_append]
            rw [ih hf]
      rw [hno m f1]
      simp [h6]
  · refine ⟨_, ?_, hch (.map (es.modify j fun e => { e with key := mk key, val := v }) cl), by simp, ⟨es.modify j fun e => { e with key := mk key, val := v }, cl, by simp [hlt], ?_⟩⟩
    · have hkey : ((es[0 + j]?).map (·.key)).getD (mk key) = mk key := by
        rw [Nat.zero_add]
        have : es[j]? = some e' := by simpa using f2
        rw [this]
        simpa using f3
      simp only [Nat.zero_add] at f4 hkey
      simp [execOp, ha.eval hx, ha.eval hy, ha.eval hz, Instr.mapUpdate, run_underlying ht, getMap h5, h3, run_findKey kind h1 f4, Instr.keyThatStays, hkey, h4, setMap _ h5]
    · rw [Array.toList_modify]
      exact f5 v
theorem Wk.makeMap {x : TypeId} : Wk P n k w { dst := d, op := .makeMap x none, type := ty, pos := pos, after := aft, guard := g } (fun v w' => ∃ p, v = .map (some p) ∧ New w w' p (.map #[] 0)) :=
  Wk.of_run fun a _ => ⟨_, _, by simp [execOp, run_makeMap], _, rfl, rfl, rfl⟩
end
theorem MpG.new {κ : Type} {mk : κ → Value} {w w' : World} {p : Nat} (h : New w w' p (.map #[] 0)) : MpG mk w' p [] := ⟨#[], 0, h.blk, rfl⟩
end Go.Tm
namespace Go.Tm
open Go.RowKit Go.Proofs
structure Chr (w : World) (q mb : Nat) (P : Pol) : Prop where
  ex : ∃ FA fc S, Bk w q #[.int .i64 P.direct, .slice FA P.flies.length fc, .int .i64 P.prime, .map (some mb)] 129 ∧ SlR S w FA P.flies.length 1 (P.flies.map (.int .i64 ·)) ∧ (∀ x, S x → x < mb) ∧ P.flies.length ≤ 100 ∧ mb < q
theorem Chr.to {w w' : World} {q mb : Nat} {P : Pol} (h : Chr w q mb P) {D : Nat → Prop} (c : Ch D w w') (hd : ∀ x, x < w.heap.size → x < mb ∨ x = q → isC w x → ¬ D x) : Chr w' q mb P := by
  obtain ⟨FA, fc, S, h1, h2, h3, h4, h5⟩ := h
  exact ⟨FA, fc, S, h1.to c (hd q h1.lt (.inr rfl) ⟨_, _, _, h1.blk⟩), h2.to c (fun x hx hs hc => hd x hx (.inl (h3 x hs)) hc), h3, h4, h5⟩
theorem Chr.keep {w w' : World} {q mb : Nat} {P : Pol} (h : Chr w q mb P) (c : Ch No w w') : Chr w' q mb P := h.to c fun _ _ _ _ => id
theorem Chr.toG {B : Nat} {w w' : World} (g : Gn B w w') {q mb : Nat} {P : Pol} (h : Chr w q mb P) : Chr w' q mb P := h.to g fun _ _ _ hx => notC hx
theorem Chr.lt {w : World} {q mb : Nat} {P : Pol} (h : Chr w q mb P) : q < w.heap.size ∧ mb < q := by
  obtain ⟨FA, fc, S, h1, h2, h3, h4, h5⟩ := h
  exact ⟨h1.lt, h5⟩
set_option maxRecDepth 100000 in
theorem inf3w6 : Inf Tryz.prog 3 (.int .i64 0) 1 8 := ⟨Tryz.t3, Tryz.type3, rfl, rfl, rfl⟩
set_option maxRecDepth 100000 in
theorem inf84w6 : Inf Tryz.prog 84 (.agg #[.int .i64 0, .int .i64 0, .slice none 0 0]) 3 40 := ⟨Tryz.t84, Tryz.type84, rfl, rfl, rfl⟩
theorem bld71_0_1_2w6 {v0 v1 v2 : Value} (h : [v0, v1, v2].all Value.oneCell' = true) (w : World) : (Instr.build 71 ([(0, v0), (1, v1), (2, v2)] : List (Nat × Value)).toArray).run Tryz.prog w = .ok (.agg #[v0, v1, v2]) w := by
  simp only [List.all_cons, Bool.and_eq_true, List.all_nil, and_true] at h
  have hv0 := oneCell_cells (v := v0) (by simp_all)
  have hv1 := oneCell_cells (v := v1) (by simp_all)
  have hv2 := oneCell_cells (v := v2) (by simp_all)
  have h1 := fill_set (fun i => ([(0, 1), (1, 1), (2, 1)] : List (Nat × Nat))[i]?) [(0, v0), (1, v1), (2, v2)] [.int .i64 0, .slice none 0 0, .int .i64 0] (by simp [okF, agg_cells, hv0, hv1, hv2, Nat.beq, Nat.ble])
  simp [setF, agg_cells, hv0, hv1, hv2] at h1
  simp [Instr.build, Tryz.runUnderlying71, Tryz.zeroValue71, Tryz.sizeOf3, Tryz.sizeOf69, agg_cells, h1]
theorem bld129_0_1w6 {v0_0 v0_1 v0_2 v1 : Value} (h : [v1].all Value.oneCell' = true) (w : World) : (Instr.build 129 ([(0, .agg #[v0_0, v0_1, v0_2]), (1, v1)] : List (Nat × Value)).toArray).run Tryz.prog w = .ok (.agg #[v0_0, v0_1, v0_2, v1]) w := by
  simp only [List.all_cons, Bool.and_eq_true, List.all_nil, and_true] at h
  have hv1 := oneCell_cells (v := v1) (by simp_all)
  have h1 := fill_set (fun i => ([(0, 3), (3, 1)] : List (Nat × Nat))[i]?) [(0, .agg #[v0_0, v0_1, v0_2]), (1, v1)] [.int .i64 0, .slice none 0 0, .int .i64 0, .map none] (by simp [okF, agg_cells, hv1, Nat.beq, Nat.ble])
  simp [setF, agg_cells, hv1] at h1
  simp [Instr.build, Tryz.runUnderlying129, Tryz.zeroValue129, Tryz.sizeOf71, Tryz.sizeOf127, agg_cells, h1]
set_option maxRecDepth 100000 in
theorem slices_Index (S : Nat → Prop) (xs : List Int) (A : Option Addr) (c : Nat) (x : Int) (w : World) (sl : SlR S w A xs.length 1 (xs.map (.int .i64 ·))) (hl : xs.length ≤ 1000000) :
  Calls Tryz.prog 148 #[.slice A xs.length c, .int .i64 x] w (Ret (fun v w' => (∃ i : Int, v = .int .i64 i ∧ (0 ≤ i ↔ xs.contains x = true)) ∧ w = w')) := by
 refine calls_of_VC (args := [.slice A xs.length c, .int .i64 x]) Tryz.func148 rfl Tryz.ntmps148 rfl (VC.seq (VC.region (VO.mv (Rn.assign rfl) rfl rfl rfl (VO.nil (VQ.then_code (VC.seq (VC.seq ?_)))))))
 refine VC.region (VO.mv (Rn.move rfl) rfl rfl rfl (VO.mv (Rn.len Tryz.underlying69 rfl) rfl rfl rfl (VO.mv (Rn.move rfl) rfl rfl rfl (VO.nil (VQ.then_code (VC.block (VC.loopS (σ := Nat) (fun i => [(0, .slice A xs.length c), (1, .int .i64 x), (7, .int .i64 xs.length), (8, .int .i64 i)]) (fun i w' => w = w' ∧ i ≤ xs.length ∧ (xs.take i).contains x = false) (fun i => xs.length - i) 0 ?_ ⟨rfl, rfl, rfl, rfl, trivial⟩ ?_)))))))
 · exact ⟨rfl, Nat.zero_le _, rfl⟩
 rintro i _ ⟨rfl, i1, hn⟩
 show VC _ _ _ _ [(0, .slice A xs.length c), (1, .int .i64 x), (7, .int .i64 xs.length), (8, .int .i64 i)] _
 refine VC.seq (VC.region (VO.mv (Rn.lss rfl rfl) rfl rfl rfl (VO.nil (VQ.then_code (VC.seq (VC.cond_if rfl (fun hc1 => ?_) (fun hc1 => ?_)))))))
 ·
  refine VC.skip (VQ.then_code (VC.seq (VC.block (VC.seq ?_))))
  have hxi : xs[i]? = some (xs.getD ((i : Int)).toNat 0) := by rw [Int.toNat_natCast, List.getD, List.getElem?_eq_getElem (by omega)]; rfl
  refine VC.region (VO.mv (Rn.move rfl) rfl rfl rfl (VO.mv (Rn.assign rfl) rfl rfl rfl (VO.nil (VQ.then_code (VC.seq (VC.region (VO.mv (Rn.move rfl) rfl rfl rfl ?_)))))))
  refine VO.mv (Rn.move rfl) rfl rfl rfl (VO.mv (Rn.move rfl) rfl rfl rfl (VO.mv (Rn.indexS Tryz.underlying69 Tryz.sizeOf3 rfl rfl (sl.ne (by omega)) (by omega) (by omega)) rfl rfl rfl (VO.mv (Rn.load Tryz.isAgg3 rfl (sl.get 0 (by omega) (by omega))) rfl rfl rfl (VO.mv (Rn.eql rfl rfl) rfl rfl rfl (VO.nil (VQ.then_code (VC.cond_if rfl (fun hc2 => ?_) (fun hc2 => ?_))))))))
  ·
   refine VC.seq (VC.region (VO.mv (Rn.move rfl) rfl rfl rfl (VO.mv (Rn.assign rfl) rfl rfl rfl (VO.nil (VQ.then_code (VC.ret (VQ.block_ret ?_)))))))
   refine VQ.then_ret (VQ.then_ret (VQ.block_ret (VQ.then_ret (VQ.ret1 rfl rfl (Ret.mk (⟨⟨_, rfl, ?_⟩, rfl⟩))))))
   have hm := List.mem_of_getElem? hxi
   rw [← hc2] at hm
   simp [hm]
  ·
   refine VC.skip (VQ.block_normal (VQ.then_code (VC.region ?_)))
   refine VO.mv (Rn.add rfl rfl (by rw [IntKind.wrap_i64]; omega)) rfl rfl rfl ?_
   refine VO.mv (Rn.move rfl) rfl rfl rfl (VO.nil ?_)
   refine VQ.round (i + 1) (by first | omega | (dsimp only; omega)) ?_ ⟨rfl, rfl, rfl, rfl, trivial⟩
   refine ⟨rfl, by omega, ?_⟩
   rw [List.take_add_one, hxi]
   exact contains_snoc hn hc2
 ·
  refine VC.exit (VQ.then_exit (VQ.then_exit (VQ.block_exit (VQ.then_code (VC.seq (VC.region (VO.mv (Rn.assign rfl) rfl rfl rfl ?_)))))))
  refine VO.nil (VQ.then_code (VC.ret (VQ.ret1 rfl rfl (Ret.mk (⟨⟨_, rfl, ?_⟩, rfl⟩)))))
  have : i = xs.length := by omega
  subst this; rw [List.take_length] at hn
  rw [hn]; decide
set_option maxRecDepth 100000 in
theorem slices_Contains (S : Nat → Prop) (xs : List Int) (A : Option Addr) (c : Nat) (x : Int) (w : World) (sl : SlR S w A xs.length 1 (xs.map (.int .i64 ·))) (hl : xs.length ≤ 1000000) :
  Calls Tryz.prog 124 #[.slice A xs.length c, .int .i64 x] w (Ret (fun v w' => v = .bool (xs.contains x) ∧ w = w')) := by
 refine calls_of_VC (args := [.slice A xs.length c, .int .i64 x]) Tryz.func124 rfl Tryz.ntmps124 rfl (VC.seq (VC.region (VO.mv (Rn.assign rfl) rfl rfl rfl (VO.nil (VQ.then_code (VC.seq (VC.region ?_)))))))
 refine VO.mv (Rn.move rfl) rfl rfl rfl (VO.mv (Rn.move rfl) rfl rfl rfl (VO.wk (Wk.call Tryz.call148 rfl (slices_Index _ _ _ _ _ _ sl (by omega))) rfl rfl rfl ?_))
 rintro _ _ ⟨⟨ix, rfl, hix⟩, rfl⟩
 refine VO.mv (Rn.geq rfl rfl) rfl rfl rfl (VO.mv (Rn.assign rfl) rfl rfl rfl (VO.nil (VQ.then_code (VC.ret (VQ.ret1 rfl rfl (Ret.mk (⟨congrArg _ ?_, rfl⟩)))))))
 rw [Bool.eq_iff_iff]; simpa using hix
set_option maxRecDepth 100000 in
theorem chooser_flies (P : Pol) (q mb : Nat) (a : Int) (w : World) (hch : Chr w q mb P) :
  Calls Tryz.prog 102 #[.pointer (some ⟨q, 0, none⟩), .int .i64 a] w (Ret (fun v w' => v = .bool (P.flies.contains a) ∧ w = w')) := by
 obtain ⟨FA, fc, S, bq, sl, hS, hfl, hqm⟩ := hch
 refine calls_of_VC (args := [.pointer (some ⟨q, 0, none⟩), .int .i64 a]) Tryz.func102 rfl Tryz.ntmps102 rfl (VC.seq (VC.region (VO.mv (Rn.assign rfl) rfl rfl rfl (VO.nil (VQ.then_code (VC.seq (VC.region ?_)))))))
 refine VO.mv (Rn.move rfl) rfl rfl rfl (VO.mv (Rn.nilCheck rfl) rfl rfl rfl (VO.mv (Rn.field Tryz.underlying129 rfl Tryz.sizeOf71 rfl rfl rfl) rfl rfl rfl (VO.mv (Rn.field Tryz.underlying71 rfl Tryz.sizeOf69 rfl rfl rfl) rfl rfl rfl (VO.mv (Rn.load Tryz.isAgg69 rfl (bq.cell rfl)) rfl rfl rfl (VO.mv (Rn.move rfl) rfl rfl rfl (VO.wk (Wk.call Tryz.call124 rfl (slices_Contains _ _ _ _ _ _ sl (by omega))) rfl rfl rfl ?_))))))
 rintro _ _ ⟨rfl, rfl⟩
 refine VO.mv (Rn.assign rfl) rfl rfl rfl (VO.nil (VQ.then_code (VC.ret (VQ.ret1 rfl rfl (Ret.mk ?_)))))
 exact ⟨rfl, rfl⟩
set_option maxRecDepth 100000 in
theorem planner_Usual (w : World) :
  Calls Tryz.prog 39 #[] w (Ret (fun v w' => ∃ FA fc, v = .agg #[.int .i64 16, .slice FA 4 fc, .int .i64 13] ∧ SlR (In w.heap.size w'.heap.size) w' FA 4 1 [.int .i64 2, .int .i64 3, .int .i64 4, .int .i64 5] ∧ Ch No w w')) := by
 refine calls_of_VC (args := []) Tryz.func39 rfl Tryz.ntmps39 rfl (VC.seq (VC.region (VO.wk (Wk.alloc Tryz.zeroValue71) rfl rfl rfl ?_)))
 rintro _ w1 ⟨p1, rfl, N1⟩
 have c1 := N1.ch
 have e1 := N1.p; have z1 := N1.size
 have b0 := Bk.new N1
 refine VO.nil (VQ.then_code (VC.seq (VC.region (VO.wk (Wk.lit Tryz.underlying69 inf3w6 (by decide) rfl rfl (by rfl) (by decide) (by decide) (by rfl)) rfl rfl rfl ?_))))
 rintro _ w2 ⟨p2, rfl, N2⟩
 have c2 := N2.ch
 have e2 := N2.p; have z2 := N2.size
 have l1 := SlR.of_new (sz := 1) (l := 4) N2 rfl
 have l1o := Ow.of_new (sz := 1) (l := 4) N2 rfl (by decide)
 refine VO.mv (Rn.build rfl (bld71_0_1_2w6 rfl)) rfl rfl rfl ?_
 have b0_2 := b0.keep c2
 refine VO.wk0 (Wk.puts Tryz.sizeOf71 rfl rfl rfl rfl b0_2 (Nat.le_of_ble_eq_true rfl)) rfl rfl ?_
 intro _ w3 Z3
 have c3 := Z3.ch; have z3 := Z3.size
 have b0_3 := Bk.put Z3
 refine VO.nil (VQ.then_code (VC.ret (VQ.retc rfl rfl Tryz.isAgg71 Tryz.sizeOf71 rfl (b0_3.all' rfl) (Ret.mk ?_))))
 have cc_0_3 : Ch No w w3 := (Ch.then (E := No) (c1.and c2) c3 (by intro q h1 h2; rcases h2 with h2 | h2 <;> first | exact h2 | (exfalso; omega)))
 have CH_3 := (Ch.refl (No) w).and cc_0_3
 have zz := CH_3.size
 have l1_3 := l1.to c3 (by first | exact fun _ _ _ _ => id | (intro q h1 h2 hx h3; omega))
 exact ⟨_, _, rfl, (l1_3).weak (fun q h => ⟨by omega, by omega⟩), CH_3⟩
set_option maxRecDepth 100000 in
theorem planner_Check (P : Pol) (FA : Option Addr) (fc lo hi : Nat) (w : World) (sl : SlR (In lo hi) w FA P.flies.length 1 (P.flies.map (.int .i64 ·))) (hh : hi ≤ w.heap.size) (hp : PolOk P) (hl : P.flies.length ≤ 100) :
  Calls Tryz.prog 59 #[.agg #[.int .i64 P.direct, .slice FA P.flies.length fc, .int .i64 P.prime]] w (Ret (fun v w' => v = .nilIface ∧ Ch No w w')) := by
 obtain ⟨p1, p2, p3, p4, p5⟩ := hp
 refine calls_of_VC (args := [.agg #[.int .i64 P.direct, .slice FA P.flies.length fc, .int .i64 P.prime]]) Tryz.func59 rfl Tryz.ntmps59 rfl (VC.seq (VC.region (VO.wk (Wk.box rfl) rfl rfl rfl ?_)))
 rintro _ w1 ⟨p1, rfl, N1⟩
 have c1 := N1.ch
 have e1 := N1.p; have z1 := N1.size
 have b1 := Bk.new N1
 refine VO.mv (Rn.assign rfl) rfl rfl rfl (VO.nil (VQ.then_code (VC.seq (VC.seq (VC.region (VO.mv (Rn.field Tryz.underlying71 rfl Tryz.sizeOf3 rfl rfl rfl) rfl rfl rfl (VO.mv (Rn.load Tryz.isAgg3 rfl (b1.cell rfl)) rfl rfl rfl ?_)))))))
 refine VO.mv (Rn.lss rfl rfl) rfl rfl rfl (VO.mv (Rn.move rfl) rfl rfl rfl ?_)
 refine VO.orJoin (b := _) 4 9 13 rfl (fun hc1 Jhc1 => by
   refine VO.skip rfl rfl rfl (VO.skip rfl rfl rfl (VO.skip rfl rfl rfl (VO.mv (Rn.pick_true rfl rfl) rfl rfl rfl ?_)))
   exact (VO.fg rfl (VO.fg rfl (VO.fg rfl Jhc1)))) (fun hc1 Jhc1 => by
   try simp only [Bool.and_eq_true, Bool.or_eq_true, Bool.not_eq_true', Bool.not_eq_false', Bool.and_eq_false_iff, Bool.or_eq_false_iff, decide_eq_true_eq, decide_eq_false_iff_not] at hc1
   refine VO.mv (Rn.field Tryz.underlying71 rfl Tryz.sizeOf3 rfl rfl rfl) rfl rfl rfl (VO.mv (Rn.load Tryz.isAgg3 rfl (b1.cell rfl)) rfl rfl rfl (VO.mv (Rn.gtr rfl rfl) rfl rfl rfl (VO.mv (Rn.pick_false rfl rfl) rfl rfl rfl ?_)))
   exact (VO.fg rfl (VO.fg rfl (VO.fg rfl Jhc1)))) ?_
 refine VO.mv (Rn.move rfl) rfl rfl rfl ?_
 refine VO.orJoin (b := _) 4 14 18 rfl (fun hc2 Jhc2 => by
   refine VO.skip rfl rfl rfl (VO.skip rfl rfl rfl (VO.skip rfl rfl rfl (VO.mv (Rn.pick_true rfl rfl) rfl rfl rfl ?_)))
   exact (VO.fg rfl (VO.fg rfl (VO.fg rfl Jhc2)))) (fun hc2 Jhc2 => by
   try simp only [Bool.and_eq_true, Bool.or_eq_true, Bool.not_eq_true', Bool.not_eq_false', Bool.and_eq_false_iff, Bool.or_eq_false_iff, decide_eq_true_eq, decide_eq_false_iff_not] at hc2
   refine VO.mv (Rn.field Tryz.underlying71 rfl Tryz.sizeOf3 rfl rfl rfl) rfl rfl rfl (VO.mv (Rn.load Tryz.isAgg3 rfl (b1.cell rfl)) rfl rfl rfl (VO.mv (Rn.lss rfl rfl) rfl rfl rfl (VO.mv (Rn.pick_false rfl rfl) rfl rfl rfl ?_)))
   exact (VO.fg rfl (VO.fg rfl (VO.fg rfl Jhc2)))) ?_
 refine VO.mv (Rn.move rfl) rfl rfl rfl ?_
 refine VO.orJoin (b := _) 6 19 25 rfl (fun hc3 Jhc3 => by
   refine VO.skip rfl rfl rfl (VO.skip rfl rfl rfl (VO.skip rfl rfl rfl (VO.skip rfl rfl rfl (VO.skip rfl rfl rfl (VO.mv (Rn.pick_true rfl rfl) rfl rfl rfl ?_)))))
   exact (VO.fg rfl (VO.fg rfl (VO.fg rfl (VO.fg rfl (VO.fg rfl Jhc3)))))) (fun hc3 Jhc3 => by
   try simp only [Bool.and_eq_true, Bool.or_eq_true, Bool.not_eq_true', Bool.not_eq_false', Bool.and_eq_false_iff, Bool.or_eq_false_iff, decide_eq_true_eq, decide_eq_false_iff_not] at hc3
   refine VO.mv (Rn.field Tryz.underlying71 rfl Tryz.sizeOf3 rfl rfl rfl) rfl rfl rfl (VO.mv (Rn.load Tryz.isAgg3 rfl (b1.cell rfl)) rfl rfl rfl (VO.mv (Rn.field Tryz.underlying71 rfl Tryz.sizeOf3 rfl rfl rfl) rfl rfl rfl (VO.mv (Rn.load Tryz.isAgg3 rfl (b1.cell rfl)) rfl rfl rfl (VO.mv (Rn.gtr rfl rfl) rfl rfl rfl (VO.mv (Rn.pick_false rfl rfl) rfl rfl rfl ?_)))))
   exact (VO.fg rfl (VO.fg rfl (VO.fg rfl (VO.fg rfl (VO.fg rfl Jhc3)))))) ?_
 refine VO.nil (VQ.then_code (VC.cond rfl (fun hc4 => ?_) (fun hc4 => ?_)))
 ·
  try simp only [Bool.and_eq_true, Bool.or_eq_true, Bool.not_eq_true', Bool.not_eq_false', Bool.and_eq_false_iff, Bool.or_eq_false_iff, decide_eq_true_eq, decide_eq_false_iff_not] at hc4
  omega
 ·
  try simp only [Bool.and_eq_true, Bool.or_eq_true, Bool.not_eq_true', Bool.not_eq_false', Bool.and_eq_false_iff, Bool.or_eq_false_iff, decide_eq_true_eq, decide_eq_false_iff_not] at hc4
  refine VC.skip (VQ.then_code (VC.seq (VC.region (VO.mv (Rn.assign rfl) rfl rfl rfl (VO.nil (VQ.then_code (VC.seq ?_)))))))
  refine VC.seq (VC.region (VO.mv (Rn.field Tryz.underlying71 rfl Tryz.sizeOf69 rfl rfl rfl) rfl rfl rfl (VO.mv (Rn.load Tryz.isAgg69 rfl (b1.cell rfl)) rfl rfl rfl (VO.mv (Rn.len Tryz.underlying69 rfl) rfl rfl rfl (VO.mv (Rn.move rfl) rfl rfl rfl (VO.nil (VQ.then_code ?_)))))))
  refine VC.block (VC.loopS (σ := Nat) (fun i => [(1, .pointer (some ⟨p1, 0, none⟩)), (3, .int .i64 (if i = 0 then 1 else P.flies.getD (i - 1) 0)), (28, .slice FA P.flies.length fc), (29, .int .i64 P.flies.length), (30, .int .i64 i)]) (fun i w' => w' = w1 ∧ i ≤ P.flies.length) (fun i => P.flies.length - i) 0 ?_ ⟨rfl, rfl, rfl, rfl, rfl, trivial⟩ ?_)
  · exact ⟨rfl, Nat.zero_le _⟩
  rintro i _ ⟨rfl, i1⟩
  show VC _ _ _ _ [(1, .pointer (some ⟨p1, 0, none⟩)), (3, .int .i64 (if i = 0 then 1 else P.flies.getD (i - 1) 0)), (28, .slice FA P.flies.length fc), (29, .int .i64 P.flies.length), (30, .int .i64 i)] _
  refine VC.seq (VC.region (VO.mv (Rn.lss rfl rfl) rfl rfl rfl (VO.nil (VQ.then_code (VC.seq (VC.cond_if rfl (fun hc5 => ?_) (fun hc5 => ?_)))))))
  ·
   refine VC.skip (VQ.then_code (VC.seq (VC.block (VC.seq ?_))))
   have hxi : P.flies[i]? = some (P.flies.getD ((i : Int)).toNat 0) := by rw [Int.toNat_natCast, List.getD, List.getElem?_eq_getElem (by omega)]; rfl
   have hb := p5 i _ hxi
   refine VC.region ?_
   have sl_1 := sl.keep c1
   refine VO.mv (Rn.indexS Tryz.underlying69 Tryz.sizeOf3 rfl rfl (sl_1.ne (by omega)) (by omega) (by omega)) rfl rfl rfl (VO.mv (Rn.load Tryz.isAgg3 rfl (sl_1.get 0 (by omega) (by omega))) rfl rfl rfl (VO.mv (Rn.assign rfl) rfl rfl rfl (VO.nil (VQ.then_code (VC.seq (VC.seq (VC.region ?_)))))))
   refine VO.mv (Rn.move rfl) rfl rfl rfl (VO.mv (Rn.move rfl) rfl rfl rfl (VO.mv (Rn.leq rfl rfl) rfl rfl rfl (VO.mv (Rn.move rfl) rfl rfl rfl ?_)))
   refine VO.orJoin (b := _) 3 37 40 rfl (fun hc6 Jhc6 => by
     refine VO.skip rfl rfl rfl (VO.skip rfl rfl rfl (VO.mv (Rn.pick_true rfl rfl) rfl rfl rfl ?_))
     exact (VO.fg rfl (VO.fg rfl Jhc6))) (fun hc6 Jhc6 => by
     try simp only [Bool.and_eq_true, Bool.or_eq_true, Bool.not_eq_true', Bool.not_eq_false', Bool.and_eq_false_iff, Bool.or_eq_false_iff, decide_eq_true_eq, decide_eq_false_iff_not] at hc6
     refine VO.mv (Rn.move rfl) rfl rfl rfl (VO.mv (Rn.gtr rfl rfl) rfl rfl rfl (VO.mv (Rn.pick_false rfl rfl) rfl rfl rfl ?_))
     exact (VO.fg rfl (VO.fg rfl Jhc6))) ?_
   refine VO.nil (VQ.then_code (VC.cond rfl (fun hc7 => ?_) (fun hc7 => ?_)))
   ·
    try simp only [Bool.and_eq_true, Bool.or_eq_true, Bool.not_eq_true', Bool.not_eq_false', Bool.and_eq_false_iff, Bool.or_eq_false_iff, decide_eq_true_eq, decide_eq_false_iff_not] at hc7
    omega
   ·
    try simp only [Bool.and_eq_true, Bool.or_eq_true, Bool.not_eq_true', Bool.not_eq_false', Bool.and_eq_false_iff, Bool.or_eq_false_iff, decide_eq_true_eq, decide_eq_false_iff_not] at hc7
    refine VC.skip (VQ.then_code (VC.region (VO.mv (Rn.move rfl) rfl rfl rfl (VO.mv (Rn.assign rfl) rfl rfl rfl (VO.nil (VQ.block_normal (VQ.then_code ?_)))))))
    refine VC.region ?_
    refine VO.mv (Rn.add rfl rfl (by rw [IntKind.wrap_i64]; omega)) rfl rfl rfl ?_
    refine VO.mv (Rn.move rfl) rfl rfl rfl (VO.nil ?_)
    refine VQ.round (i + 1) (by first | omega | (dsimp only; omega)) ?_ ⟨rfl, rfl, rfl, rfl, rfl, trivial⟩
    exact ⟨rfl, by omega⟩
  ·
   refine VC.exit (VQ.then_exit (VQ.then_exit (VQ.block_exit (VQ.then_code (VC.seq (VC.region (VO.mv (Rn.assign rfl) rfl rfl rfl ?_)))))))
   refine VO.nil (VQ.then_code (VC.ret (VQ.ret1 rfl rfl (Ret.mk ?_))))
   have CH_1 := (Ch.refl (No) w).and c1
   exact ⟨rfl, CH_1⟩
set_option maxRecDepth 100000 in
theorem planner_newChooser (P : Pol) (FA : Option Addr) (fc lo hi : Nat) (w : World) (sl : SlR (In lo hi) w FA P.flies.length 1 (P.flies.map (.int .i64 ·))) (hh : hi ≤ w.heap.size) (hl : P.flies.length ≤ 100) :
  Calls Tryz.prog 60 #[.agg #[.int .i64 P.direct, .slice FA P.flies.length fc, .int .i64 P.prime]] w (Ret (fun v w' => ∃ q mb, v = .pointer (some ⟨q, 0, none⟩) ∧ Chr w' q mb P ∧ MpG (Value.int .i64 ·) w' mb ([] : List (Int × Value)) ∧ w.heap.size ≤ mb ∧ Ch No w w')) := by
 refine calls_of_VC (args := [.agg #[.int .i64 P.direct, .slice FA P.flies.length fc, .int .i64 P.prime]]) Tryz.func60 rfl Tryz.ntmps60 rfl (VC.seq (VC.region (VO.wk (Wk.box rfl) rfl rfl rfl ?_)))
 rintro _ w1 ⟨p1, rfl, N1⟩
 have c1 := N1.ch
 have e1 := N1.p; have z1 := N1.size
 have b1 := Bk.new N1
 refine VO.mv (Rn.assign rfl) rfl rfl rfl (VO.nil (VQ.then_code (VC.seq (VC.region (VO.mv (Rn.loads Tryz.isAgg71 Tryz.sizeOf71 rfl rfl (b1.all' rfl)) rfl rfl rfl (VO.wk (Wk.makeMap) rfl rfl rfl ?_))))))
 rintro _ w2 ⟨p2, rfl, N2⟩
 have c2 := N2.ch
 have e2 := N2.p; have z2 := N2.size
 have m4 := MpG.new (mk := (Value.int .i64 ·)) N2
 refine VO.mv (Rn.build rfl (bld129_0_1w6 rfl)) rfl rfl rfl (VO.wk (Wk.box rfl) rfl rfl rfl ?_)
 rintro _ w3 ⟨p3, rfl, N3⟩
 have c3 := N3.ch
 have e3 := N3.p; have z3 := N3.size
 have b6 := Bk.new N3
 refine VO.mv (Rn.assign rfl) rfl rfl rfl (VO.nil (VQ.then_code (VC.ret (VQ.ret1 rfl rfl (Ret.mk ?_)))))
 have sl_3 := sl.keep (c1.trans (c2.trans c3))
 have m4_3 := m4.keep c3
 have CH_3 := (Ch.refl (No) w).and (c1.trans (c2.trans c3))
 exact ⟨_, _, rfl, ⟨_, _, In lo hi, b6, sl_3, fun x h => by omega, hl, by omega⟩, m4_3, by omega, CH_3⟩
set_option maxRecDepth 100000 in
theorem chooser_heads (P : Pol) (q mb : Nat) (a : Int) (w : World) (ch : Chr w q mb P) :
  Calls Tryz.prog 71 #[.pointer (some ⟨q, 0, none⟩), .int .i64 a] w (Ret (fun v w' => ∃ A c, v = .slice A (headsM P a).length c ∧ RdK (In w.heap.size w'.heap.size) w' A (headsM P a) ∧ Ch No w w')) := by
 obtain ⟨FA, fc, S, bq, sl, hS, hfl, hqm⟩ := id ch
 refine calls_of_VC (args := [.pointer (some ⟨q, 0, none⟩), .int .i64 a]) Tryz.func71 rfl Tryz.ntmps71 rfl (VC.seq (VC.region (VO.mv (Rn.assign rfl) rfl rfl rfl (VO.nil (VQ.then_code (VC.seq (VC.region ?_)))))))
 refine VO.mv (Rn.assign rfl) rfl rfl rfl (VO.nil (VQ.then_code (VC.seq (VC.seq (VC.region (VO.mv (Rn.move rfl) rfl rfl rfl (VO.mv (Rn.move rfl) rfl rfl rfl ?_)))))))
 refine VO.mv (Rn.nilCheck rfl) rfl rfl rfl (VO.mv (Rn.field Tryz.underlying129 rfl Tryz.sizeOf71 rfl rfl rfl) rfl rfl rfl (VO.mv (Rn.field Tryz.underlying71 rfl Tryz.sizeOf3 rfl rfl rfl) rfl rfl rfl (VO.mv (Rn.load Tryz.isAgg3 rfl (bq.cell rfl)) rfl rfl rfl (VO.mv (Rn.leq rfl rfl) rfl rfl rfl (VO.nil (VQ.then_code (VC.cond_if rfl (fun hc1 => ?_) (fun hc1 => ?_))))))))
 ·
  refine VC.region (VO.mv (Rn.move rfl) rfl rfl rfl (VO.mv (Rn.move rfl) rfl rfl rfl (VO.wk (Wk.call Tryz.call101 rfl (order_Direct _ _)) rfl rfl rfl ?_)))
  rintro _ w1 ⟨rfl, c1⟩
  have z1 := c1.size
  refine VO.wk (Wk.lit Tryz.underlying82 inf84w6 (by decide) rfl rfl (by rfl) (by decide) (by decide) (by rfl)) rfl rfl rfl ?_
  rintro _ w2 ⟨p2, rfl, N2⟩
  have c2 := N2.ch
  have e2 := N2.p; have z2 := N2.size
  have l16 := SlR.of_new (sz := 3) (l := 1) N2 rfl
  have l16o := Ow.of_new (sz := 3) (l := 1) N2 rfl (by decide)
  refine VO.wk (Wk.append (S := _) Tryz.underlying82 inf84w6 rfl (by decide) rfl rfl (Ow.nil _ _ _) l16 (by rfl) (fun h => by simp at h) (by omega) (by simp only [maxLen]; omega)) rfl rfl rfl ?_
  rintro _ w3 ⟨r3, A3, k3, rfl, o3, c3, q3⟩
  have z3 := c3.size
  have y3 := o3.lt
  refine VO.mv (Rn.assign rfl) rfl rfl rfl (VO.nil (VQ.then_code (VC.seq (VC.seq (VC.region (VO.mv (Rn.move rfl) rfl rfl rfl (VO.mv (Rn.move rfl) rfl rfl rfl ?_)))))))
  have ch_2 := ch.keep (c1.trans c2)
  have ch_3 := ch_2.to c3 (by first | exact fun _ _ _ _ => id | (intro q h1 h2 hx h3; omega))
  refine VO.wk (Wk.call Tryz.call102 rfl (chooser_flies _ _ _ _ _ ch_3)) rfl rfl rfl ?_
  rintro _ _ ⟨rfl, rfl⟩
  refine VO.nil (VQ.then_code (VC.cond rfl (fun hc2 => ?_) (fun hc2 => ?_)))
  ·
   try simp only [Bool.and_eq_true, Bool.or_eq_true, Bool.not_eq_true', Bool.not_eq_false', Bool.and_eq_false_iff, Bool.or_eq_false_iff, decide_eq_true_eq, decide_eq_false_iff_not] at hc2
   refine VC.region (VO.mv (Rn.move rfl) rfl rfl rfl (VO.mv (Rn.move rfl) rfl rfl rfl (VO.wk (Wk.call Tryz.call103 rfl (order_Fly _ _)) rfl rfl rfl ?_)))
   rintro _ w4 ⟨rfl, c4⟩
   have z4 := c4.size
   refine VO.wk (Wk.lit Tryz.underlying82 inf84w6 (by decide) rfl rfl (by rfl) (by decide) (by decide) (by rfl)) rfl rfl rfl ?_
   rintro _ w5 ⟨p5, rfl, N5⟩
   have c5 := N5.ch
   have e5 := N5.p; have z5 := N5.size
   have l24 := SlR.of_new (sz := 3) (l := 1) N5 rfl
   have l24o := Ow.of_new (sz := 3) (l := 1) N5 rfl (by decide)
   have row_5 := o3.keep (c4.trans c5)
   refine VO.wk (Wk.append (S := _) Tryz.underlying82 inf84w6 rfl (by decide) rfl rfl row_5 l24 (by rfl) (fun h => by simp at h) (by omega) (by simp only [maxLen]; omega)) rfl rfl rfl ?_
   rintro _ w6 ⟨r6, A6, k6, rfl, o6, c6, q6⟩
   have z6 := c6.size
   have y6 := o6.lt
   refine VO.mv (Rn.assign rfl) rfl rfl rfl (VO.nil (VQ.then_code (VC.seq (VC.region (VO.mv (Rn.move rfl) rfl rfl rfl (VO.mv (Rn.assign rfl) rfl rfl rfl (VO.nil ?_)))))))
   refine VQ.then_code (VC.ret (VQ.ret1 rfl rfl (Ret.mk ?_)))
   have CH_2 := (Ch.refl (No) w).and (c1.trans c2)
   have CH_3 : Ch (No) w w3 := CH_2.then c3 (by intro q h1 h2; rcases h2 with h2 | h2 <;> first | exact h2 | (exfalso; omega) | omega)
   have CH_5 := CH_3.and (c4.trans c5)
   have CH_6 : Ch (No) w w6 := CH_5.then c6 (by intro q h1 h2; rcases h2 with h2 | h2 <;> first | exact h2 | (exfalso; omega) | omega)
   have zz := CH_6.size
   have eh : headsM P a = [.mk 1 a [], .mk 2 a []] := by unfold headsM; rw [if_pos hc1, if_pos hc2]; rfl
   have y9 := o6.lt
   exact ⟨_, _, by rw [eh]; rfl, by rw [eh]; exact ((((KidRow.nil _ _).snoc (o := .mk 1 a []) rfl (RdK.nil _ _)).snoc (o := .mk 2 a []) rfl (RdK.nil _ _))).rd (o6.sl.weak (fun q h => ⟨by omega, by omega⟩)) (by simp), CH_6⟩
  ·
   try simp only [Bool.and_eq_true, Bool.or_eq_true, Bool.not_eq_true', Bool.not_eq_false', Bool.and_eq_false_iff, Bool.or_eq_false_iff, decide_eq_true_eq, decide_eq_false_iff_not] at hc2
   refine VC.skip (VQ.then_code (VC.seq (VC.region (VO.mv (Rn.move rfl) rfl rfl rfl (VO.mv (Rn.assign rfl) rfl rfl rfl (VO.nil (VQ.then_code ?_)))))))
   refine VC.ret (VQ.ret1 rfl rfl (Ret.mk ?_))
   have CH_2 := (Ch.refl (No) w).and (c1.trans c2)
   have CH_3 : Ch (No) w w3 := CH_2.then c3 (by intro q h1 h2; rcases h2 with h2 | h2 <;> first | exact h2 | (exfalso; omega) | omega)
   have zz := CH_3.size
   have eh : headsM P a = [.mk 1 a []] := by unfold headsM; rw [if_pos hc1, if_neg (by rw [hc2]; simp)]; rfl
   have y9 := o3.lt
   exact ⟨_, _, by rw [eh]; rfl, by rw [eh]; exact (((KidRow.nil _ _).snoc (o := .mk 1 a []) rfl (RdK.nil _ _))).rd (o3.sl.weak (fun q h => ⟨by omega, by omega⟩)) (by simp), CH_3⟩
 ·
  refine VC.skip (VQ.then_code (VC.seq (VC.seq (VC.region (VO.mv (Rn.move rfl) rfl rfl rfl (VO.mv (Rn.move rfl) rfl rfl rfl (VO.wk (Wk.call Tryz.call102 rfl (chooser_flies _ _ _ _ _ ch)) rfl rfl rfl ?_)))))))
  rintro _ _ ⟨rfl, rfl⟩
  refine VO.nil (VQ.then_code (VC.cond rfl (fun hc3 => ?_) (fun hc3 => ?_)))
  ·
   try simp only [Bool.and_eq_true, Bool.or_eq_true, Bool.not_eq_true', Bool.not_eq_false', Bool.and_eq_false_iff, Bool.or_eq_false_iff, decide_eq_true_eq, decide_eq_false_iff_not] at hc3
   refine VC.region (VO.mv (Rn.move rfl) rfl rfl rfl (VO.mv (Rn.move rfl) rfl rfl rfl (VO.wk (Wk.call Tryz.call103 rfl (order_Fly _ _)) rfl rfl rfl ?_)))
   rintro _ w7 ⟨rfl, c7⟩
   have z7 := c7.size
   refine VO.wk (Wk.lit Tryz.underlying82 inf84w6 (by decide) rfl rfl (by rfl) (by decide) (by decide) (by rfl)) rfl rfl rfl ?_
   rintro _ w8 ⟨p8, rfl, N8⟩
   have c8 := N8.ch
   have e8 := N8.p; have z8 := N8.size
   have l24 := SlR.of_new (sz := 3) (l := 1) N8 rfl
   have l24o := Ow.of_new (sz := 3) (l := 1) N8 rfl (by decide)
   refine VO.wk (Wk.append (S := _) Tryz.underlying82 inf84w6 rfl (by decide) rfl rfl (Ow.nil _ _ _) l24 (by rfl) (fun h => by simp at h) (by omega) (by simp only [maxLen]; omega)) rfl rfl rfl ?_
   rintro _ w9 ⟨r9, A9, k9, rfl, o9, c9, q9⟩
   have z9 := c9.size
   have y9 := o9.lt
   refine VO.mv (Rn.assign rfl) rfl rfl rfl (VO.nil (VQ.then_code (VC.seq (VC.region (VO.mv (Rn.move rfl) rfl rfl rfl (VO.mv (Rn.assign rfl) rfl rfl rfl (VO.nil ?_)))))))
   refine VQ.then_code (VC.ret (VQ.ret1 rfl rfl (Ret.mk ?_)))
   have CH_8 := (Ch.refl (No) w).and (c7.trans c8)
   have CH_9 : Ch (No) w w9 := CH_8.then c9 (by intro q h1 h2; rcases h2 with h2 | h2 <;> first | exact h2 | (exfalso; omega) | omega)
   have zz := CH_9.size
   have eh : headsM P a = [.mk 2 a []] := by unfold headsM; rw [if_neg hc1, if_pos hc3]; rfl
   have y9 := o9.lt
   exact ⟨_, _, by rw [eh]; rfl, by rw [eh]; exact (((KidRow.nil _ _).snoc (o := .mk 2 a []) rfl (RdK.nil _ _))).rd (o9.sl.weak (fun q h => ⟨by omega, by omega⟩)) (by simp), CH_9⟩
  ·
   try simp only [Bool.and_eq_true, Bool.or_eq_true, Bool.not_eq_true', Bool.not_eq_false', Bool.and_eq_false_iff, Bool.or_eq_false_iff, decide_eq_true_eq, decide_eq_false_iff_not] at hc3
   refine VC.skip (VQ.then_code (VC.seq (VC.region (VO.mv (Rn.move rfl) rfl rfl rfl (VO.mv (Rn.assign rfl) rfl rfl rfl (VO.nil (VQ.then_code ?_)))))))
   refine VC.ret (VQ.ret1 rfl rfl (Ret.mk ?_))
   have zz := (Ch.refl (No) w).size
   have eh : headsM P a = [] := by unfold headsM; rw [if_neg hc1, if_neg (by rw [hc3]; simp)]; rfl
   exact ⟨_, _, by rw [eh]; rfl, by rw [eh]; exact RdK.nil _ _, (Ch.refl (No) w)⟩
set_option maxRecDepth 100000 in
theorem primes_Factors (n0 : Int) (w : World) (h1 : 1 ≤ n0) (h2 : n0 ≤ 16384) :
  Calls Tryz.prog 110 #[.int .i64 n0] w (Ret (fun v w' => ∃ A c, v = .slice A (facs n0).length c ∧ SlR (In w.heap.size w'.heap.size) w' A (facs n0).length 1 ((facs n0).map (.int .i64 ·)) ∧ (facs n0).length ≤ 2000 ∧ Ch No w w')) := by
 refine calls_of_VC (args := [.int .i64 n0]) Tryz.func110 rfl Tryz.ntmps110 rfl (VC.seq (VC.region (VO.mv (Rn.assign rfl) rfl rfl rfl (VO.nil (VQ.then_code (VC.seq (VC.region ?_)))))))
 refine VO.mv (Rn.assign rfl) rfl rfl rfl (VO.nil (VQ.then_code (VC.seq (VC.seq (VC.region (VO.mv (Rn.move rfl) rfl rfl rfl (VO.mv (Rn.lss rfl rfl) rfl rfl rfl ?_)))))))
 refine VO.mv (Rn.move rfl) rfl rfl rfl ?_
 refine VO.orJoin (b := _) 3 7 10 rfl (fun hc1 Jhc1 => by
   refine VO.skip rfl rfl rfl (VO.skip rfl rfl rfl (VO.mv (Rn.pick_true rfl rfl) rfl rfl rfl ?_))
   exact (VO.fg rfl (VO.fg rfl Jhc1))) (fun hc1 Jhc1 => by
   try simp only [Bool.and_eq_true, Bool.or_eq_true, Bool.not_eq_true', Bool.not_eq_false', Bool.and_eq_false_iff, Bool.or_eq_false_iff, decide_eq_true_eq, decide_eq_false_iff_not] at hc1
   refine VO.mv (Rn.move rfl) rfl rfl rfl (VO.mv (Rn.gtr rfl rfl) rfl rfl rfl (VO.mv (Rn.pick_false rfl rfl) rfl rfl rfl ?_))
   exact (VO.fg rfl (VO.fg rfl Jhc1))) ?_
 refine VO.nil (VQ.then_code (VC.cond rfl (fun hc2 => ?_) (fun hc2 => ?_)))
 ·
  try simp only [Bool.and_eq_true, Bool.or_eq_true, Bool.not_eq_true', Bool.not_eq_false', Bool.and_eq_false_iff, Bool.or_eq_false_iff, decide_eq_true_eq, decide_eq_false_iff_not] at hc2
  refine VC.seq (VC.region (VO.mv (Rn.move rfl) rfl rfl rfl (VO.mv (Rn.assign rfl) rfl rfl rfl (VO.nil (VQ.then_code (VC.ret (VQ.then_ret ?_)))))))
  refine VQ.ret1 rfl rfl (Ret.mk ?_)
  have e1 : n0 = 1 := by omega
  subst e1
  exact ⟨none, 0, rfl, SlR.nil _ _ _, by decide, (Ch.refl (No) w)⟩
 ·
  try simp only [Bool.and_eq_true, Bool.or_eq_true, Bool.not_eq_true', Bool.not_eq_false', Bool.and_eq_false_iff, Bool.or_eq_false_iff, decide_eq_true_eq, decide_eq_false_iff_not] at hc2
  refine VC.skip (VQ.then_code (VC.seq (VC.seq (VC.region (VO.mv (Rn.assign rfl) rfl rfl rfl (VO.nil (VQ.then_code ?_)))))))
  refine VC.block (VC.loopS (σ := Nat × Int × Int × List Int × Option Addr × Nat × Nat) (fun (f, n, p, out, A, L, c) => [(0, .int .i64 n), (3, .slice A L c), (4, .int .i64 p)]) (fun (f, n, p, out, A, L, c) w' => facs n0 = facO f n p out ∧ 1 ≤ n ∧ n ≤ 16384 ∧ 2 ≤ p ∧ p ≤ 129 ∧ 131 ≤ f + p ∧ out.length = L ∧ (L : Int) ≤ 15 * (p - 2) ∧ (∃ r, Ow w' r 3 1 A L c (out.map (.int .i64 ·)) ∧ (r = 0 ∨ w.heap.size < r)) ∧ Ch No w w') (fun (f, n, p, out, A, L, c) => f) (200, n0, 2, [], none, 0, 0) ?_ ⟨rfl, rfl, rfl, trivial⟩ ?_)
  · exact ⟨rfl, h1, h2, by omega, by omega, by omega, rfl, by simp, ⟨0, Ow.nil _ _ _, .inl rfl⟩, (Ch.refl (No) w)⟩
  rintro ⟨f, n, p, out, A, L, c⟩ w1 ⟨he, n1, n2, p1, p2, hf, hL, hl, ⟨r, row_1, hr⟩, CH_1⟩
  show VC _ _ _ _ [(0, .int .i64 n), (3, .slice A L c), (4, .int .i64 p)] _
  have hq := sq_le (c := p) (by omega) (by omega); have zc := CH_1.size
  obtain ⟨f, rfl⟩ : ∃ g, f = g + 1 := ⟨f - 1, by omega⟩
  refine VC.seq (VC.seq (VC.region (VO.mv (Rn.move rfl) rfl rfl rfl (VO.mv (Rn.move rfl) rfl rfl rfl ?_))))
  refine VO.mv (Rn.mul rfl rfl (by rw [IntKind.wrap_i64]; omega)) rfl rfl rfl ?_
  refine VO.mv (Rn.move rfl) rfl rfl rfl (VO.mv (Rn.leq rfl rfl) rfl rfl rfl (VO.nil (VQ.then_code (VC.cond_if rfl (fun hc3 => ?_) (fun hc3 => ?_)))))
  ·
   refine VC.skip (VQ.then_code (VC.seq (VC.block (VC.block (VC.loopS (σ := Nat × Int × List Int × Option Addr × Nat × Nat) (fun (g, m, out2, A2, L2, c2) => [(0, .int .i64 m), (3, .slice A2 L2 c2), (4, .int .i64 p)]) (fun (g, m, out2, A2, L2, c2) w' => divO 15 n p out = divO g m p out2 ∧ 1 ≤ m ∧ m ≤ n ∧ m < 2 ^ g ∧ out2.length = L2 ∧ (L2 : Int) ≤ 15 * (p - 2) + (15 - g) ∧ g ≤ 15 ∧ (∃ r, Ow w' r 3 1 A2 L2 c2 (out2.map (.int .i64 ·)) ∧ (r = 0 ∨ w.heap.size < r)) ∧ Ch No w w') (fun (g, m, out2, A2, L2, c2) => g) (15, n, out, A, L, c) ?_ ⟨rfl, rfl, rfl, trivial⟩ ?_)))))
   · exact ⟨rfl, n1, by omega, by omega, hL, by omega, by omega, ⟨_, row_1, hr⟩, CH_1⟩
   rintro ⟨g, m, out2, A2, L2, c2⟩ w2 ⟨hg, m1, m2, m3, hL2, hl2, hg15, ⟨r2, row_2, hr2⟩, CH_2⟩
   show VC _ _ _ _ [(0, .int .i64 m), (3, .slice A2 L2 c2), (4, .int .i64 p)] _
   have y2 := row_2.lt; have zz := CH_2.size
   refine VC.seq (VC.seq (VC.region (VO.mv (Rn.move rfl) rfl rfl rfl (VO.mv (Rn.move rfl) rfl rfl rfl (VO.mv (Rn.rem0 rfl rfl (by omega) (by omega)) rfl rfl rfl (VO.mv (Rn.eql rfl rfl) rfl rfl rfl (VO.nil ?_)))))))
   refine VQ.then_code (VC.cond_if rfl (fun hc4 => ?_) (fun hc4 => ?_))
   ·
    refine VC.skip (VQ.then_code (VC.block (VC.seq ?_)))
    obtain ⟨g, rfl⟩ := g_pos m1 m3
    have dh := div_half (m := 2 ^ g) p1 m1 hc4 (by rw [Int.pow_succ] at m3; omega)
    refine VC.region (VO.mv (Rn.move rfl) rfl rfl rfl (VO.mv (Rn.move rfl) rfl rfl rfl (VO.wk (Wk.lit Tryz.underlying69 inf3w6 (by decide) rfl rfl (by rfl) (by decide) (by decide) (by rfl)) rfl rfl rfl ?_)))
    rintro _ w3 ⟨p3, rfl, N3⟩
    have c3 := N3.ch
    have e3 := N3.p; have z3 := N3.size
    have l25 := SlR.of_new (sz := 1) (l := 1) N3 rfl
    have l25o := Ow.of_new (sz := 1) (l := 1) N3 rfl (by decide)
    have row_3 := row_2.keep c3
    refine VO.wk (Wk.append (S := _) Tryz.underlying69 inf3w6 rfl (by decide) rfl rfl row_3 l25 (by rfl) (fun h => by simp at h) (by omega) (by simp only [maxLen]; omega)) rfl rfl rfl ?_
    rintro _ w4 ⟨r4, A4, k4, rfl, o4, c4, q4⟩
    have z4 := c4.size
    have y4 := o4.lt
    refine VO.mv (Rn.assign rfl) rfl rfl rfl (VO.nil (VQ.then_code (VC.region (VO.mv (Rn.move rfl) rfl rfl rfl (VO.mv (Rn.move rfl) rfl rfl rfl (VO.mv (Rn.quo0 rfl rfl (by omega) (by omega) (by omega)) rfl rfl rfl (VO.mv (Rn.assign rfl) rfl rfl rfl ?_)))))))
    refine VO.nil (VQ.block_normal ?_)
    refine VQ.round (g, m / p, out2 ++ [p], A4, L2 + 1, k4) (by first | omega | (dsimp only; omega)) ?_ ⟨rfl, rfl, rfl, trivial⟩
    have CH_3 := CH_2.and c3
    have CH_4 : Ch (No) w w4 := CH_3.then c4 (by intro q h1 h2; rcases h2 with h2 | h2 <;> first | exact h2 | (exfalso; omega) | omega)
    refine ⟨?_, by omega, by omega, by omega, by simp [hL2], by omega, by omega, ⟨_, by simpa [flat, Value.cells] using o4, by omega⟩, CH_4⟩
    rw [hg, divO, if_pos hc4]
   ·
    refine VC.exit (VQ.then_exit (VQ.then_exit (VQ.block_exit (VQ.block_normal (VQ.then_code (VC.region (VO.mv (Rn.move rfl) rfl rfl rfl ?_)))))))
    refine VO.mv (Rn.add rfl rfl (by rw [IntKind.wrap_i64]; omega)) rfl rfl rfl ?_
    refine VO.mv (Rn.assign rfl) rfl rfl rfl (VO.nil ?_)
    refine VQ.round (f, m, p + 1, out2, A2, L2, c2) (by first | omega | (dsimp only; omega)) ?_ ⟨rfl, rfl, rfl, trivial⟩
    have hp9 : p ≤ 128 := by rcases Int.lt_or_le 128 p with h | h; (have := sq_mono (p := 129) (q := p) (by omega) (by omega); omega); exact h
    refine ⟨?_, by omega, by omega, by omega, by omega, by omega, hL2, by omega, ⟨_, row_2, by omega⟩, CH_2⟩
    rw [he, facO, if_pos hc3, hg, divO_stop hc4]
  ·
   refine VC.exit (VQ.then_exit (VQ.then_exit (VQ.block_exit (VQ.then_code (VC.seq (VC.seq (VC.region ?_)))))))
   refine VO.mv (Rn.move rfl) rfl rfl rfl (VO.mv (Rn.gtr rfl rfl) rfl rfl rfl (VO.nil (VQ.then_code (VC.cond_if rfl (fun hc5 => ?_) (fun hc5 => ?_)))))
   ·
    refine VC.region (VO.mv (Rn.move rfl) rfl rfl rfl (VO.mv (Rn.move rfl) rfl rfl rfl (VO.wk (Wk.lit Tryz.underlying69 inf3w6 (by decide) rfl rfl (by rfl) (by decide) (by decide) (by rfl)) rfl rfl rfl ?_)))
    rintro _ w5 ⟨p5, rfl, N5⟩
    have c5 := N5.ch
    have e5 := N5.p; have z5 := N5.size
    have l34 := SlR.of_new (sz := 1) (l := 1) N5 rfl
    have l34o := Ow.of_new (sz := 1) (l := 1) N5 rfl (by decide)
    have row_5 := row_1.keep c5
    refine VO.wk (Wk.append (S := _) Tryz.underlying69 inf3w6 rfl (by decide) rfl rfl row_5 l34 (by rfl) (fun h => by simp at h) (by omega) (by simp only [maxLen]; omega)) rfl rfl rfl ?_
    rintro _ w6 ⟨r6, A6, k6, rfl, o6, c6, q6⟩
    have z6 := c6.size
    have y6 := o6.lt
    refine VO.mv (Rn.assign rfl) rfl rfl rfl (VO.nil (VQ.then_code (VC.seq (VC.region (VO.mv (Rn.move rfl) rfl rfl rfl (VO.mv (Rn.assign rfl) rfl rfl rfl (VO.nil ?_)))))))
    refine VQ.then_code (VC.ret (VQ.ret1 rfl rfl (Ret.mk ?_)))
    have CH_5 := CH_1.and c5
    have CH_6 : Ch (No) w w6 := CH_5.then c6 (by intro q h1 h2; rcases h2 with h2 | h2 <;> first | exact h2 | (exfalso; omega) | omega)
    have zz := CH_6.size; have y9 := o6.lt
    have ef : facs n0 = out ++ [n] := by rw [he, facO, if_neg hc3, if_pos hc5]
    rw [ef]
    refine ⟨A6, k6, by simp [hL], ?_, by simp; omega, CH_6⟩
    have h9 := o6.sl.weak (S' := In w.heap.size w6.heap.size) (fun q h => ⟨by omega, by omega⟩)
    simpa [hL, flat, Value.cells] using h9
   ·
    refine VC.skip (VQ.then_code (VC.seq (VC.region (VO.mv (Rn.move rfl) rfl rfl rfl (VO.mv (Rn.assign rfl) rfl rfl rfl (VO.nil (VQ.then_code ?_)))))))
    refine VC.ret (VQ.ret1 rfl rfl (Ret.mk ?_))
    have zz := CH_1.size; have y9 := row_1.lt
    have ef : facs n0 = out := by rw [he, facO, if_neg hc3, if_neg hc5]
    rw [ef]
    refine ⟨_, _, by rw [hL], ?_, by omega, CH_1⟩
    have h9 := row_1.sl.weak (S' := In w.heap.size w1.heap.size) (fun q h => ⟨by omega, by omega⟩)
    rw [hL]; exact h9
end Go.Tm
namespace Go.Tm
open Go.RowKit Go.Proofs
abbrev pricedC (r : Ord × Int) (A : Option Addr) (c : Nat) : Array Value := #[.int .i64 r.1.kind, .int .i64 r.1.n, .slice A r.1.kids.length c, .int .i64 r.2]
theorem bld103_0_1w7 {v0_0 v0_1 v0_2 v1 : Value} (h : [v1].all Value.oneCell' = true) (w : World) : (Instr.build 103 ([(0, .agg #[v0_0, v0_1, v0_2]), (1, v1)] : List (Nat × Value)).toArray).run Tryz.prog w = .ok (.agg #[v0_0, v0_1, v0_2, v1]) w := by
  simp only [List.all_cons, Bool.and_eq_true, List.all_nil, and_true] at h
  have hv1 := oneCell_cells (v := v1) (by simp_all)
  have h1 := fill_set (fun i => ([(0, 3), (3, 1)] : List (Nat × Nat))[i]?) [(0, .agg #[v0_0, v0_1, v0_2]), (1, v1)] [.int .i64 0, .int .i64 0, .slice none 0 0, .int .i64 0] (by simp [okF, agg_cells, hv1, Nat.beq, Nat.ble])
  simp [setF, agg_cells, hv1] at h1
  simp [Instr.build, Tryz.runUnderlying103, Tryz.zeroValue103, Tryz.sizeOf3, Tryz.sizeOf84, agg_cells, h1]
set_option maxRecDepth 100000 in
theorem chooser_hard (P : Pol) (q mb : Nat) (a : Int) (w : World) (ch : Chr w q mb P) (h1 : 1 ≤ a) (h2 : a ≤ 16384) :
  Calls Tryz.prog 76 #[.pointer (some ⟨q, 0, none⟩), .int .i64 a] w (Ret (fun v w' => v = .bool (hardM P (facs a) a) ∧ Ch No w w')) := by
 have lq := ch.lt
 obtain ⟨FA, fc, S, bq, sl, hS, hfl, hqm⟩ := id ch
 refine calls_of_VC (args := [.pointer (some ⟨q, 0, none⟩), .int .i64 a]) Tryz.func76 rfl Tryz.ntmps76 rfl (VC.seq (VC.region (VO.mv (Rn.assign rfl) rfl rfl rfl (VO.nil (VQ.then_code (VC.seq (VC.seq ?_)))))))
 refine VC.region (VO.mv (Rn.move rfl) rfl rfl rfl (VO.wk (Wk.call Tryz.call110 rfl (primes_Factors _ _ (by omega) (by omega))) rfl rfl rfl ?_))
 rintro _ w1 ⟨fA1, fk1, rfl, fs1, fl1, c1⟩
 have z1 := c1.size
 refine VO.mv (Rn.len Tryz.underlying69 rfl) rfl rfl rfl (VO.mv (Rn.move rfl) rfl rfl rfl (VO.nil (VQ.then_code (VC.block (VC.loopS (σ := Nat) (fun i => [(0, .pointer (some ⟨q, 0, none⟩)), (1, .int .i64 a), (8, .slice fA1 (facs a).length fk1), (9, .int .i64 (facs a).length), (10, .int .i64 i)]) (fun i w' => w' = w1 ∧ i ≤ (facs a).length ∧ ((facs a).take i).any (fun q => decide (q > P.prime)) = false) (fun i => (facs a).length - i) 0 ?_ ⟨rfl, rfl, rfl, rfl, rfl, trivial⟩ ?_)))))
 · exact ⟨rfl, Nat.zero_le _, rfl⟩
 rintro i _ ⟨rfl, i1, hn⟩
 show VC _ _ _ _ [(0, .pointer (some ⟨q, 0, none⟩)), (1, .int .i64 a), (8, .slice fA1 (facs a).length fk1), (9, .int .i64 (facs a).length), (10, .int .i64 i)] _
 refine VC.seq (VC.region (VO.mv (Rn.lss rfl rfl) rfl rfl rfl (VO.nil (VQ.then_code (VC.seq (VC.cond_if rfl (fun hc1 => ?_) (fun hc1 => ?_)))))))
 ·
  refine VC.skip (VQ.then_code (VC.seq (VC.block (VC.seq ?_))))
  have hxi : (facs a)[i]? = some ((facs a).getD ((i : Int)).toNat 0) := by rw [Int.toNat_natCast, List.getD, List.getElem?_eq_getElem (by omega)]; rfl
  refine VC.region (VO.mv (Rn.indexS Tryz.underlying69 Tryz.sizeOf3 rfl rfl (fs1.ne (by omega)) (by omega) (by omega)) rfl rfl rfl (VO.mv (Rn.load Tryz.isAgg3 rfl (fs1.get 0 (by omega) (by omega))) rfl rfl rfl (VO.mv (Rn.assign rfl) rfl rfl rfl (VO.nil (VQ.then_code (VC.seq (VC.region ?_)))))))
  refine VO.mv (Rn.move rfl) rfl rfl rfl (VO.mv (Rn.move rfl) rfl rfl rfl (VO.mv (Rn.nilCheck rfl) rfl rfl rfl (VO.mv (Rn.field Tryz.underlying129 rfl Tryz.sizeOf71 rfl rfl rfl) rfl rfl rfl (VO.mv (Rn.field Tryz.underlying71 rfl Tryz.sizeOf3 rfl rfl rfl) rfl rfl rfl ?_))))
  have bq_1 := bq.keep c1
  refine VO.mv (Rn.load Tryz.isAgg3 rfl (bq_1.cell rfl)) rfl rfl rfl (VO.mv (Rn.gtr rfl rfl) rfl rfl rfl (VO.nil (VQ.then_code (VC.cond_if rfl (fun hc2 => ?_) (fun hc2 => ?_)))))
  ·
   refine VC.seq (VC.region (VO.mv (Rn.move rfl) rfl rfl rfl (VO.mv (Rn.leq rfl rfl) rfl rfl rfl (VO.mv (Rn.assign rfl) rfl rfl rfl (VO.nil (VQ.then_code (VC.ret ?_)))))))
   refine VQ.block_ret (VQ.then_ret (VQ.then_ret (VQ.block_ret (VQ.then_ret (VQ.ret1 rfl rfl (Ret.mk ?_))))))
   have CH_1 := (Ch.refl (No) w).and c1
   refine ⟨?_, CH_1⟩
   have hm : (facs a).any (fun q => decide (q > P.prime)) = true := List.any_eq_true.2 ⟨_, List.mem_of_getElem? hxi, by simpa using hc2⟩
   unfold hardM; rw [hm]; rfl
  ·
   refine VC.skip (VQ.block_normal (VQ.then_code (VC.region ?_)))
   refine VO.mv (Rn.add rfl rfl (by rw [IntKind.wrap_i64]; omega)) rfl rfl rfl ?_
   refine VO.mv (Rn.move rfl) rfl rfl rfl (VO.nil ?_)
   refine VQ.round (i + 1) (by first | omega | (dsimp only; omega)) ?_ ⟨rfl, rfl, rfl, rfl, rfl, trivial⟩
   refine ⟨rfl, by omega, ?_⟩
   rw [List.take_add_one, hxi, List.any_append, hn]
   simpa using Int.not_lt.1 hc2
 ·
  refine VC.exit (VQ.then_exit (VQ.then_exit (VQ.block_exit (VQ.then_code (VC.seq (VC.region (VO.mv (Rn.assign rfl) rfl rfl rfl ?_)))))))
  refine VO.nil (VQ.then_code (VC.ret (VQ.ret1 rfl rfl (Ret.mk ?_))))
  have CH_1 := (Ch.refl (No) w).and c1
  refine ⟨?_, CH_1⟩
  have : i = (facs a).length := by omega
  subst this; rw [List.take_length] at hn
  unfold hardM; rw [hn]; rfl
set_option maxRecDepth 100000 in
theorem fine_two (a : Int) (w : World) (h1 : 1 ≤ a) (h2 : a ≤ 1073741824) :
  Calls Tryz.prog 127 #[.int .i64 a, .int .i64 2] w (Ret (fun v w' => (∃ b, v = .bool b ∧ (b = true ↔ ∃ j : Nat, a = 2 ^ j)) ∧ w = w')) := by
 refine calls_of_VC (args := [.int .i64 a, .int .i64 2]) Tryz.func127 rfl Tryz.ntmps127 rfl (VC.seq (VC.region (VO.mv (Rn.assign rfl) rfl rfl rfl (VO.nil (VQ.then_code (VC.seq (VC.seq ?_)))))))
 refine VC.region (VO.mv (Rn.assign rfl) rfl rfl rfl (VO.nil (VQ.then_code (VC.block (VC.loopS (σ := Int × Int) (fun (p, n) => [(0, .int .i64 n), (1, .int .i64 2), (5, .int .i64 p)]) (fun (p, n) w' => w = w' ∧ 1 ≤ n ∧ n ≤ a ∧ (∃ j : Nat, a = n * 2 ^ j) ∧ (p = 2 ∧ n = a ∨ p = 3 ∧ n % 2 = 1)) (fun (p, n) => (3 - p).toNat) (2, a) ?_ ⟨rfl, rfl, rfl, trivial⟩ ?_)))))
 · exact ⟨rfl, h1, Int.le_refl _, ⟨0, by simp⟩, .inl ⟨rfl, rfl⟩⟩
 rintro ⟨p, n⟩ _ ⟨rfl, n1, n2, n3, n4⟩
 show VC _ _ _ _ [(0, .int .i64 n), (1, .int .i64 2), (5, .int .i64 p)] _
 have p1 : 2 ≤ p ∧ p ≤ 3 := by omega
 have pp : p = 2 ∧ p * p = 4 ∨ p = 3 ∧ p * p = 9 := by rcases n4 with ⟨rfl, _⟩ | ⟨rfl, _⟩ <;> simp
 refine VC.seq (VC.seq (VC.region (VO.mv (Rn.move rfl) rfl rfl rfl (VO.mv (Rn.move rfl) rfl rfl rfl (VO.mv (Rn.leq rfl rfl) rfl rfl rfl (VO.mv (Rn.move rfl) rfl rfl rfl ?_))))))
 refine VO.andJoin (b := _) 6 9 15 rfl (fun hc1 Jhc1 => by
   try simp only [Bool.and_eq_true, Bool.or_eq_true, Bool.not_eq_true', Bool.not_eq_false', Bool.and_eq_false_iff, Bool.or_eq_false_iff, decide_eq_true_eq, decide_eq_false_iff_not] at hc1
   refine VO.mv (Rn.move rfl) rfl rfl rfl (VO.mv (Rn.move rfl) rfl rfl rfl ?_)
   refine VO.mv (Rn.mul rfl rfl (by rw [IntKind.wrap_i64]; omega)) rfl rfl rfl ?_
   refine VO.mv (Rn.move rfl) rfl rfl rfl (VO.mv (Rn.leq rfl rfl) rfl rfl rfl (VO.mv (Rn.pick_true rfl rfl) rfl rfl rfl ?_))
   exact (VO.fg rfl (VO.fg rfl (VO.fg rfl (VO.fg rfl (VO.fg rfl Jhc1)))))) (fun hc1 Jhc1 => by
   refine VO.skip rfl rfl rfl (VO.skip rfl rfl rfl (VO.skip rfl rfl rfl (VO.skip rfl rfl rfl (VO.skip rfl rfl rfl (VO.mv (Rn.pick_false rfl rfl) rfl rfl rfl ?_)))))
   exact (VO.fg rfl (VO.fg rfl (VO.fg rfl (VO.fg rfl (VO.fg rfl Jhc1)))))) ?_
 refine VO.nil (VQ.then_code (VC.cond rfl (fun hc2 => ?_) (fun hc2 => ?_)))
 ·
  try simp only [Bool.and_eq_true, Bool.or_eq_true, Bool.not_eq_true', Bool.not_eq_false', Bool.and_eq_false_iff, Bool.or_eq_false_iff, decide_eq_true_eq, decide_eq_false_iff_not] at hc2
  refine VC.skip (VQ.then_code (VC.seq (VC.block (VC.block (VC.loopS (σ := Int) (fun m => [(0, .int .i64 m), (1, .int .i64 2), (5, .int .i64 p)]) (fun m w' => w = w' ∧ 1 ≤ m ∧ m ≤ a ∧ (∃ j : Nat, a = m * 2 ^ j)) (fun m => m.toNat) n ?_ ⟨rfl, rfl, rfl, trivial⟩ ?_)))))
  · exact ⟨rfl, n1, n2, n3⟩
  rintro m _ ⟨rfl, m1, m2, m3⟩
  show VC _ _ _ _ [(0, .int .i64 m), (1, .int .i64 2), (5, .int .i64 p)] _
  have e : p = 2 := by omega
  refine VC.seq (VC.seq (VC.region (VO.mv (Rn.move rfl) rfl rfl rfl (VO.mv (Rn.move rfl) rfl rfl rfl (VO.mv (Rn.rem0 rfl rfl (by omega) (by omega)) rfl rfl rfl (VO.mv (Rn.eql rfl rfl) rfl rfl rfl (VO.nil ?_)))))))
  refine VQ.then_code (VC.cond_if rfl (fun hc3 => ?_) (fun hc3 => ?_))
  ·
   refine VC.skip (VQ.then_code (VC.block (VC.region (VO.mv (Rn.move rfl) rfl rfl rfl (VO.mv (Rn.move rfl) rfl rfl rfl (VO.mv (Rn.quo0 rfl rfl (by omega) (by omega) (by omega)) rfl rfl rfl (VO.mv (Rn.assign rfl) rfl rfl rfl ?_)))))))
   refine VO.nil (VQ.block_normal ?_)
   refine VQ.round (m / p) (by first | (rw [e]; omega) | (dsimp only; rw [e]; omega)) ?_ ⟨rfl, rfl, rfl, trivial⟩
   rw [e] at hc3 ⊢
   exact ⟨rfl, by omega, by omega, half_pow m3 hc3⟩
  ·
   refine VC.exit (VQ.then_exit (VQ.then_exit (VQ.block_exit (VQ.block_normal (VQ.then_code (VC.region (VO.mv (Rn.move rfl) rfl rfl rfl ?_)))))))
   refine VO.mv (Rn.add rfl rfl (by rw [IntKind.wrap_i64]; omega)) rfl rfl rfl ?_
   refine VO.mv (Rn.assign rfl) rfl rfl rfl (VO.nil ?_)
   refine VQ.round (p + 1, m) (by first | omega | (dsimp only; omega)) ?_ ⟨rfl, rfl, rfl, trivial⟩
   exact ⟨rfl, m1, m2, m3, .inr ⟨by omega, by rw [e] at hc3; omega⟩⟩
 ·
  try simp only [Bool.and_eq_true, Bool.or_eq_true, Bool.not_eq_true', Bool.not_eq_false', Bool.and_eq_false_iff, Bool.or_eq_false_iff, decide_eq_true_eq, decide_eq_false_iff_not] at hc2
  refine VC.exit (VQ.then_exit (VQ.then_exit (VQ.block_exit (VQ.then_code (VC.seq (VC.region (VO.mv (Rn.move rfl) rfl rfl rfl ?_)))))))
  refine VO.mv (Rn.move rfl) rfl rfl rfl (VO.mv (Rn.leq rfl rfl) rfl rfl rfl (VO.mv (Rn.assign rfl) rfl rfl rfl (VO.nil (VQ.then_code (VC.ret (VQ.ret1 rfl rfl (Ret.mk ?_)))))))
  exact ⟨⟨_, rfl, fine_end n1 n2 n3 (by omega)⟩, rfl⟩
set_option maxRecDepth 100000 in
theorem primes_Smooth (a : Int) (w : World) (h1 : 1 ≤ a) (h2 : a ≤ 1048576) :
  Calls Tryz.prog 111 #[.int .i64 a, .int .i64 2] w (Ret (fun v w' => v = .tuple #[.int .i64 (up2 a), .nilIface] ∧ w = w')) := by
 have hu := up2_spec h1 (by omega)
 have hu2 := up2_le (j := 20) h1 (by omega) (by omega)
 simp only [Int.reducePow] at hu2
 refine calls_of_VC (args := [.int .i64 a, .int .i64 2]) Tryz.func111 rfl Tryz.ntmps111 rfl (VC.seq (VC.region (VO.mv (Rn.assign rfl) rfl rfl rfl (VO.mv (Rn.assign rfl) rfl rfl rfl (VO.nil (VQ.then_code (VC.seq ?_)))))))
 refine VC.seq (VC.region (VO.mv (Rn.move rfl) rfl rfl rfl (VO.mv (Rn.lss rfl rfl) rfl rfl rfl (VO.mv (Rn.move rfl) rfl rfl rfl ?_))))
 refine VO.orJoin (b := _) 3 8 11 rfl (fun hc1 Jhc1 => by
   refine VO.skip rfl rfl rfl (VO.skip rfl rfl rfl (VO.mv (Rn.pick_true rfl rfl) rfl rfl rfl ?_))
   exact (VO.fg rfl (VO.fg rfl Jhc1))) (fun hc1 Jhc1 => by
   try simp only [Bool.and_eq_true, Bool.or_eq_true, Bool.not_eq_true', Bool.not_eq_false', Bool.and_eq_false_iff, Bool.or_eq_false_iff, decide_eq_true_eq, decide_eq_false_iff_not] at hc1
   refine VO.mv (Rn.move rfl) rfl rfl rfl (VO.mv (Rn.gtr rfl rfl) rfl rfl rfl (VO.mv (Rn.pick_false rfl rfl) rfl rfl rfl ?_))
   exact (VO.fg rfl (VO.fg rfl Jhc1))) ?_
 refine VO.mv (Rn.move rfl) rfl rfl rfl ?_
 refine VO.orJoin (b := _) 3 12 15 rfl (fun hc2 Jhc2 => by
   refine VO.skip rfl rfl rfl (VO.skip rfl rfl rfl (VO.mv (Rn.pick_true rfl rfl) rfl rfl rfl ?_))
   exact (VO.fg rfl (VO.fg rfl Jhc2))) (fun hc2 Jhc2 => by
   try simp only [Bool.and_eq_true, Bool.or_eq_true, Bool.not_eq_true', Bool.not_eq_false', Bool.and_eq_false_iff, Bool.or_eq_false_iff, decide_eq_true_eq, decide_eq_false_iff_not] at hc2
   refine VO.mv (Rn.move rfl) rfl rfl rfl (VO.mv (Rn.lss rfl rfl) rfl rfl rfl (VO.mv (Rn.pick_false rfl rfl) rfl rfl rfl ?_))
   exact (VO.fg rfl (VO.fg rfl Jhc2))) ?_
 refine VO.nil (VQ.then_code (VC.cond rfl (fun hc3 => ?_) (fun hc3 => ?_)))
 ·
  try simp only [Bool.and_eq_true, Bool.or_eq_true, Bool.not_eq_true', Bool.not_eq_false', Bool.and_eq_false_iff, Bool.or_eq_false_iff, decide_eq_true_eq, decide_eq_false_iff_not] at hc3
  omega
 ·
  try simp only [Bool.and_eq_true, Bool.or_eq_true, Bool.not_eq_true', Bool.not_eq_false', Bool.and_eq_false_iff, Bool.or_eq_false_iff, decide_eq_true_eq, decide_eq_false_iff_not] at hc3
  refine VC.skip (VQ.then_code (VC.seq (VC.block (VC.loopS (σ := Int) (fun x => [(0, .int .i64 x), (1, .int .i64 2)]) (fun x w' => w = w' ∧ a ≤ x ∧ x ≤ up2 a) (fun x => (up2 a - x).toNat) a ?_ ⟨rfl, rfl, trivial⟩ ?_))))
  · exact ⟨rfl, Int.le_refl _, hu.2.1⟩
  rintro x _ ⟨rfl, x1, x2⟩
  show VC _ _ _ _ [(0, .int .i64 x), (1, .int .i64 2)] _
  refine VC.seq (VC.seq (VC.region (VO.mv (Rn.move rfl) rfl rfl rfl (VO.mv (Rn.move rfl) rfl rfl rfl (VO.wk (Wk.call Tryz.call127 rfl (fine_two _ _ (by omega) (by omega))) rfl rfl rfl ?_)))))
  rintro _ _ ⟨⟨fb, rfl, hfb⟩, rfl⟩
  refine VO.mv (Rn.not rfl) rfl rfl rfl (VO.nil (VQ.then_code (VC.cond rfl (fun hc4 => ?_) (fun hc4 => ?_))))
  ·
   try simp only [Bool.and_eq_true, Bool.or_eq_true, Bool.not_eq_true', Bool.not_eq_false', Bool.and_eq_false_iff, Bool.or_eq_false_iff, decide_eq_true_eq, decide_eq_false_iff_not] at hc4
   refine VC.skip (VQ.then_code (VC.block (VC.region (VO.mv (Rn.move rfl) rfl rfl rfl ?_))))
   refine VO.mv (Rn.add rfl rfl (by rw [IntKind.wrap_i64]; omega)) rfl rfl rfl ?_
   refine VO.mv (Rn.assign rfl) rfl rfl rfl (VO.nil (VQ.block_normal ?_))
   refine VQ.round (x + 1) (by have hne : x ≠ up2 a := fun e => (by rw [e] at hfb; have := hfb.2 hu.1; simp [this] at hc4) ; omega) ?_ ⟨rfl, rfl, trivial⟩
   have hne : x ≠ up2 a := fun e => (by rw [e] at hfb; have := hfb.2 hu.1; simp [this] at hc4)
   exact ⟨rfl, by omega, by omega⟩
  ·
   try simp only [Bool.and_eq_true, Bool.or_eq_true, Bool.not_eq_true', Bool.not_eq_false', Bool.and_eq_false_iff, Bool.or_eq_false_iff, decide_eq_true_eq, decide_eq_false_iff_not] at hc4
   refine VC.exit (VQ.then_exit (VQ.then_exit (VQ.block_exit (VQ.then_code (VC.seq (VC.region (VO.mv (Rn.move rfl) rfl rfl rfl ?_)))))))
   refine VO.mv (Rn.assign rfl) rfl rfl rfl (VO.mv (Rn.assign rfl) rfl rfl rfl (VO.nil (VQ.then_code (VC.ret (VQ.ret2 rfl rfl rfl (Ret.mk (⟨?_, rfl⟩)))))))
   have hb : fb = true := by simpa using hc4
   obtain ⟨j, hj⟩ := hfb.1 hb
   have := hu.2.2 j (by omega)
   have e : x = up2 a := by omega
   rw [e]
set_option maxRecDepth 100000 in
theorem chirp_Size (a : Int) (w : World) (h1 : 1 ≤ a) (h2 : a ≤ 8192) :
  Calls Tryz.prog 77 #[.int .i64 a] w (Ret (fun v w' => v = .tuple #[.int .i64 (up2 (2 * a - 1)), .nilIface] ∧ w = w')) := by
 have hu2 := up2_le (x := 2 * a - 1) (j := 14) (by omega) (by omega) (by omega)
 simp only [Int.reducePow] at hu2
 refine calls_of_VC (args := [.int .i64 a]) Tryz.func77 rfl Tryz.ntmps77 rfl (VC.seq (VC.region (VO.mv (Rn.assign rfl) rfl rfl rfl (VO.mv (Rn.assign rfl) rfl rfl rfl (VO.nil (VQ.then_code (VC.seq ?_)))))))
 refine VC.seq (VC.region (VO.mv (Rn.move rfl) rfl rfl rfl (VO.mv (Rn.lss rfl rfl) rfl rfl rfl (VO.mv (Rn.move rfl) rfl rfl rfl ?_))))
 refine VO.orJoin (b := _) 3 8 11 rfl (fun hc1 Jhc1 => by
   refine VO.skip rfl rfl rfl (VO.skip rfl rfl rfl (VO.mv (Rn.pick_true rfl rfl) rfl rfl rfl ?_))
   exact (VO.fg rfl (VO.fg rfl Jhc1))) (fun hc1 Jhc1 => by
   try simp only [Bool.and_eq_true, Bool.or_eq_true, Bool.not_eq_true', Bool.not_eq_false', Bool.and_eq_false_iff, Bool.or_eq_false_iff, decide_eq_true_eq, decide_eq_false_iff_not] at hc1
   refine VO.mv (Rn.move rfl) rfl rfl rfl (VO.mv (Rn.gtr rfl rfl) rfl rfl rfl (VO.mv (Rn.pick_false rfl rfl) rfl rfl rfl ?_))
   exact (VO.fg rfl (VO.fg rfl Jhc1))) ?_
 refine VO.nil (VQ.then_code (VC.cond rfl (fun hc2 => ?_) (fun hc2 => ?_)))
 ·
  try simp only [Bool.and_eq_true, Bool.or_eq_true, Bool.not_eq_true', Bool.not_eq_false', Bool.and_eq_false_iff, Bool.or_eq_false_iff, decide_eq_true_eq, decide_eq_false_iff_not] at hc2
  omega
 ·
  try simp only [Bool.and_eq_true, Bool.or_eq_true, Bool.not_eq_true', Bool.not_eq_false', Bool.and_eq_false_iff, Bool.or_eq_false_iff, decide_eq_true_eq, decide_eq_false_iff_not] at hc2
  refine VC.skip (VQ.then_code (VC.seq (VC.region (VO.mv (Rn.move rfl) rfl rfl rfl ?_))))
  refine VO.mv (Rn.mul rfl rfl (by rw [IntKind.wrap_i64]; omega)) rfl rfl rfl ?_
  refine VO.mv (Rn.sub rfl rfl (by rw [IntKind.wrap_i64]; omega)) rfl rfl rfl ?_
  refine VO.wk (Wk.call Tryz.call111 rfl (primes_Smooth _ _ (by omega) (by omega))) rfl rfl rfl ?_
  rintro _ _ ⟨rfl, rfl⟩
  refine VO.mv (Rn.move rfl) rfl rfl rfl (VO.mv (Rn.extract rfl rfl) rfl rfl rfl (VO.mv (Rn.extract rfl rfl) rfl rfl rfl (VO.mv (Rn.assign rfl) rfl rfl rfl (VO.mv (Rn.assign rfl) rfl rfl rfl (VO.nil (VQ.then_code (VC.seq ?_)))))))
  refine VC.seq (VC.region (VO.mv (Rn.move rfl) rfl rfl rfl (VO.mv (Rn.nil_neq_nil Tryz.underlying29 rfl) rfl rfl rfl (VO.mv (Rn.move rfl) rfl rfl rfl (VO.mv (Rn.move rfl) rfl rfl rfl (VO.mv (Rn.gtr rfl rfl) rfl rfl rfl (VO.mv (Rn.pick_false rfl rfl) rfl rfl rfl ?_)))))))
  refine VO.nil (VQ.then_code (VC.cond_if rfl (fun hc3 => ?_) (fun hc3 => ?_)))
  ·
   omega
  ·
   refine VC.skip (VQ.then_code (VC.seq (VC.region (VO.mv (Rn.move rfl) rfl rfl rfl (VO.mv (Rn.assign rfl) rfl rfl rfl (VO.mv (Rn.assign rfl) rfl rfl rfl (VO.nil ?_)))))))
   refine VQ.then_code (VC.ret (VQ.ret2 rfl rfl rfl (Ret.mk ?_)))
   exact ⟨rfl, rfl⟩
set_option maxRecDepth 100000 in
theorem offer (o : Ord) (cost : Int) (A : Option Addr) (c : Nat) (r : Ord × Int) (B : Option Addr) (e b : Nat) (S : Nat → Prop) (w : World) (bb : Bk w b (pricedC r B e) 103) (kd : RdK S w A o.kids) (kb : RdK S w B r.1.kids) (hS : ¬ S b) :
  Calls Tryz.prog 70 #[ordV o A c, .int .i64 cost, .pointer (some ⟨b, 0, none⟩)] w (Ret (fun v w' => v = .tuple #[] ∧ (∃ A' c', Bk w' b (pricedC (offerM r o cost) A' c') 103 ∧ RdK S w' A' (offerM r o cost).1.kids) ∧ Ch (Is b) w w')) := by
 have lb := bb.lt
 refine calls_of_VC (args := [ordV o A c, .int .i64 cost, .pointer (some ⟨b, 0, none⟩)]) Tryz.func70 rfl Tryz.ntmps70 rfl (VC.seq (VC.region (VO.wk (Wk.box rfl) rfl rfl rfl ?_)))
 rintro _ w1 ⟨p1, rfl, N1⟩
 have c1 := N1.ch
 have e1 := N1.p; have z1 := N1.size
 have b3 := Bk.new N1
 refine VO.nil (VQ.then_code (VC.seq (VC.region (VO.mv (Rn.field Tryz.underlying103 rfl Tryz.sizeOf3 rfl rfl rfl) rfl rfl rfl ?_))))
 have bb_1 := bb.keep c1
 refine VO.mv (Rn.load Tryz.isAgg3 rfl (bb_1.cell rfl)) rfl rfl rfl (VO.mv (Rn.lss rfl rfl) rfl rfl rfl (VO.mv (Rn.move rfl) rfl rfl rfl ?_))
 refine VO.orJoin (b := _) 5 8 13 rfl (fun hc1 Jhc1 => by
   refine VO.skip rfl rfl rfl (VO.skip rfl rfl rfl (VO.skip rfl rfl rfl (VO.skip rfl rfl rfl (VO.mv (Rn.pick_true rfl rfl) rfl rfl rfl ?_))))
   exact (VO.fg rfl (VO.fg rfl (VO.fg rfl (VO.fg rfl Jhc1))))) (fun hc1 Jhc1 => by
   try simp only [Bool.and_eq_true, Bool.or_eq_true, Bool.not_eq_true', Bool.not_eq_false', Bool.and_eq_false_iff, Bool.or_eq_false_iff, decide_eq_true_eq, decide_eq_false_iff_not] at hc1
   refine VO.mv (Rn.move rfl) rfl rfl rfl (VO.mv (Rn.field Tryz.underlying103 rfl Tryz.sizeOf3 rfl rfl rfl) rfl rfl rfl (VO.mv (Rn.load Tryz.isAgg3 rfl (bb_1.cell rfl)) rfl rfl rfl (VO.mv (Rn.lss rfl rfl) rfl rfl rfl (VO.mv (Rn.pick_false rfl rfl) rfl rfl rfl ?_))))
   exact (VO.fg rfl (VO.fg rfl (VO.fg rfl (VO.fg rfl Jhc1))))) ?_
 refine VO.nil (VQ.then_code (VC.cond rfl (fun hc2 => ?_) (fun hc2 => ?_)))
 ·
  try simp only [Bool.and_eq_true, Bool.or_eq_true, Bool.not_eq_true', Bool.not_eq_false', Bool.and_eq_false_iff, Bool.or_eq_false_iff, decide_eq_true_eq, decide_eq_false_iff_not] at hc2
  refine VC.region (VO.mv (Rn.loads Tryz.isAgg84 Tryz.sizeOf84 rfl rfl (b3.all' rfl)) rfl rfl rfl (VO.mv (Rn.move rfl) rfl rfl rfl (VO.mv (Rn.build rfl (bld103_0_1w7 rfl)) rfl rfl rfl (VO.wk0 (Wk.puts Tryz.sizeOf103 rfl rfl rfl rfl bb_1 (Nat.le_of_ble_eq_true rfl)) rfl rfl ?_))))
  intro _ w2 Z2
  have c2 := Z2.ch; have z2 := Z2.size
  have bb_2 := Bk.put Z2
  refine VO.nil (VQ.end0 rfl (Ret.mk ?_))
  have eo : offerM r o cost = (o, cost) := by unfold offerM; rw [if_pos hc2]
  have CH_1 := (Ch.refl (Is b) w).and c1
  have CH_2 : Ch (Is b) w w2 := CH_1.then c2 (by intro q h1 h2; rcases h2 with h2 | h2 <;> first | exact h2 | (exfalso; omega) | omega)
  refine ⟨rfl, ⟨A, c, ?_, ?_⟩, CH_2⟩
  · rw [eo]; exact bb_2
  have kd_1 := kd.keep c1
  have kd_2 := kd_1.to c2 (by first | exact fun _ _ _ _ => id | (intro q h1 h2 hx h3; omega) | exact fun q h1 h2 hx h3 => hS (h3 ▸ h2))
  · rw [eo]; exact kd_2
 ·
  try simp only [Bool.and_eq_true, Bool.or_eq_true, Bool.not_eq_true', Bool.not_eq_false', Bool.and_eq_false_iff, Bool.or_eq_false_iff, decide_eq_true_eq, decide_eq_false_iff_not] at hc2
  refine VC.skip (VQ.end0 rfl (Ret.mk ?_))
  have eo : offerM r o cost = r := by unfold offerM; rw [if_neg (by omega)]
  have CH_1 := (Ch.refl (Is b) w).and c1
  refine ⟨rfl, ⟨B, e, ?_, ?_⟩, CH_1⟩
  · rw [eo]; exact bb_1
  have kb_1 := kb.keep c1
  · rw [eo]; exact kb_1
end Go.Tm
namespace Go.Tm
open Go.RowKit
inductive Tr where
  | nil
  | mv (i : Nat) (t : Tr)
  | wk (i : Nat) (t : Tr)
  | two (i : Nat) (s : Tr) (j : Nat) (t : Tr)
def Tr.len : Tr → Nat → Bool
  | .nil, n => Nat.beq n 0
  | .mv _ t, n + 1 => t.len n
  | .wk _ t, n + 1 => t.len n
  | .two _ s _ t, n + 1 => s.len n && t.len n
  | _, 0 => false
section
variable {P : Program} {md : Region.Mode} {ops : Array Oper} {Q : Exit → Act → World → Prop} {S : World → Prop} {n : Nat} {L : Array Bool → Act → World → Prop}
def Region.treeB (md : Region.Mode) (ops : Array Oper) (n : Nat) : Tr → Array Bool → Bool
  | .nil, listed => Region.seqB md ops (ops.size - n) n listed
  | .mv i r, listed => Nat.blt i n && (Region.ready md ops listed).contains i && Region.free md ops listed i && Region.treeB md ops n r (listed.setIfInBounds i true)
  | .wk i r, listed => Nat.blt i n && decide (Region.ready md ops listed = [i]) && Region.treeB md ops n r (listed.setIfInBounds i true)
  | .two i s j t, listed => Nat.blt i n && Nat.blt j n && decide (Region.ready md ops listed = [i, j]) && Region.treeB md ops n s (listed.setIfInBounds i true) && Region.treeB md ops n t (listed.setIfInBounds j true)
def Region.treeOk (md : Region.Mode) (ops : Array Oper) (n : Nat) (t : Tr) : Bool :=
  Region.noSelect ops && Region.waitB md ops n && t.len n && Region.treeB md ops n t (Array.replicate ops.size false)
def wpTr (P : Program) (ops : Array Oper) (Q : Exit → Act → World → Prop) (S : World → Prop) (Lq : Act → World → Prop) : Tr → Act → World → Prop
  | .nil, a, w => Lq a w
  | .mv i r, a, w => ∃ oi v, ops[i]? = some oi ∧ YieldsIf P ops S oi v a ∧ wpTr P ops Q S Lq r (a.put oi.dst v) w
  | .wk i r, a, w => wpOp P ops Q i (fun a' w' => S w' ∧ wpTr P ops Q S Lq r a' w') a w
  | .two i s j t, a, w => wpOp P ops Q i (fun a' w' => S w' ∧ wpTr P ops Q S Lq s a' w') a w ∧ wpOp P ops Q j (fun a' w' => S w' ∧ wpTr P ops Q S Lq t a' w') a w
theorem wpAnyHL_tree {Lq : Act → World → Prop} (hsel : Region.noSelect ops = true) (hwt : Region.waitB md ops n = true) (hQ : ∀ c a d v w, Q (.panic c) (Act.put a d v) w → Q (.panic c) a w) :
    ∀ (t : Tr) (m : Nat) (listed : Array Bool) (a : Act) (w : World), t.len m = true → HeadInv md ops n listed → Region.treeB md ops n t listed = true → S w → wpTr P ops Q S Lq t a w →
    wpAnyHL P md ops Q S n (fun listed' a' w' => Region.seqB md ops (ops.size - n) n listed' = true ∧ Lq a' w') m listed a w
  | .nil, m, listed, a, w, hm, _, hB, hS, h => by
    have : m = 0 := Nat.eq_of_beq_eq_true hm
    subst this
    exact ⟨hB, h⟩
  | .mv i r, 0, _, _, _, hm, _, _, _, _ => by cases hm
  | .wk i r, 0, _, _, _, hm, _, _, _, _ => by cases hm
  | .two i s j t, 0, _, _, _, hm, _, _, _, _ => by cases hm
  | .mv i r, m + 1, listed, a, w, hm, inv, hB, hS, h => by
    simp only [Region.treeB, Bool.and_eq_true, Nat.blt_eq] at hB
    obtain ⟨⟨⟨hin, hr⟩, hf⟩, hB'⟩ := hB
    obtain ⟨oi, v, hoi, hy, hK⟩ := h
    have hr' : i ∈ Region.ready md ops listed := by simpa using hr
    exact wpAnyHL_first hoi (Region.noSelect_spec hsel) hwt hin (fun c a w => hQ c a _ _ w) (fun listed' a' w' hL => seqB_ready hL.1) m listed a w inv (Region.free_spec hoi hf) hr' hy hS
      (wpAnyHL_tree hsel hwt hQ r m _ _ w hm (inv.set hr' hin) hB' hS hK)
  | .wk i r, m + 1, listed, a, w, hm, inv, hB, hS, h => by
    simp only [Region.treeB, Bool.and_eq_true, Nat.blt_eq, decide_eq_true_eq] at hB
    obtain ⟨⟨hin, hr⟩, hB'⟩ := hB
    have hr' : i ∈ Region.ready md ops listed := by rw [hr]; simp
    refine ⟨by rw [hr]; simp, fun j hj => ?_⟩
    rw [hr] at hj
    have hji : j = i := by simpa using hj
    subst hji
    exact ⟨hin, wpOp_mono (fun a' w' h' => ⟨h'.1, wpAnyHL_tree hsel hwt hQ r m _ a' w' hm (inv.set hr' hin) hB' h'.1 h'.2⟩) h⟩
  | .two i s j t, m + 1, listed, a, w, hm, inv, hB, hS, h => by
    simp only [Region.treeB, Bool.and_eq_true, Nat.blt_eq, decide_eq_true_eq] at hB
    obtain ⟨⟨⟨⟨hi, hj⟩, hr⟩, hs⟩, ht⟩ := hB
    simp only [Tr.len, Bool.and_eq_true] at hm
    have hri : i ∈ Region.ready md ops listed := by rw [hr]; simp
    have hrj : j ∈ Region.ready md ops listed := by rw [hr]; simp
    refine ⟨by rw [hr]; simp, fun x hx => ?_⟩
    rw [hr] at hx
    simp only [List.mem_cons, List.not_mem_nil, or_false] at hx
    rcases hx with rfl | rfl
    · exact ⟨hi, wpOp_mono (fun a' w' h' => ⟨h'.1, wpAnyHL_tree hsel hwt hQ s m _ a' w' hm.1 (inv.set hri hi) hs h'.1 h'.2⟩) h.1⟩
    · exact ⟨hj, wpOp_mono (fun a' w' h' => ⟨h'.1, wpAnyHL_tree hsel hwt hQ t m _ a' w' hm.2 (inv.set hrj hj) ht h'.1 h'.2⟩) h.2⟩
theorem any_of_tree {a : Act} {w : World} {l : List Oper} (n : Nat) (t : Tr) (S : World → Prop) (hB : Region.treeOk .any l.toArray n t = true)
    (hQ : ∀ c a d v w, Q (.panic c) (Act.put a d v) w → Q (.panic c) a w) (hS : S w.drew) (h : wpTr P l.toArray Q S (fun a' w' => wpList P l.toArray Q (l.drop n) a' w') t a w.drew) : wpAny P .any l.toArray Q l.toArray.size (Array.replicate l.toArray.size false) a w.drew := by
  simp only [Region.treeOk, Bool.and_eq_true] at hB
  obtain ⟨⟨⟨hsel, hwt⟩, hlen⟩, hord⟩ := hB
  have hn : n ≤ l.length := by
    simp only [Region.waitB, Bool.or_eq_true, Bool.and_eq_true, decide_eq_true_eq, List.size_toArray] at hwt
    rcases hwt with h | ⟨⟨h, _⟩, _⟩ <;> omega
  have hdl : (l.drop n).length = l.toArray.size - n := by simp
  have inv0 : HeadInv .any l.toArray n (Array.replicate l.toArray.size false) :=
    ⟨by simp, fun j oj _ hl => (by rw [getD_replicate_false] at hl; cases hl), fun t _ ht => getD_in (by simpa using ht) (getD_replicate_false _ _)⟩
  have H := wpAnyHL_tree hsel hwt hQ t n _ a w.drew hlen inv0 hord hS h
  have := wpAny_of_headH (g := l.toArray.size - n) (fun listed a' w' hL => by
    have := wpAny_of_seq (md := .any) (Q' := Q) (l.drop n) n listed a' w' (fun j => by simp [List.getElem?_drop]) (by rw [hdl]; exact hL.1) hL.2
    rwa [hdl] at this) _ _ _ _ H
  rw [show n + (l.toArray.size - n) = l.toArray.size by simp only [List.size_toArray]; omega] at this
  exact this
end
section
variable {P : Program} {n : Fr} {m : Nat} {rr : Option Nat} {ops : Array Oper} {Q : Exit → Act → World → Prop} {S : World → Prop} {Lq : Act → World → Prop} {k : K} {w : World} {o : Oper} {t s : Tr}
def VT (P : Program) (n : Fr) (ops : Array Oper) (Q : Exit → Act → World → Prop) (S : World → Prop) (Lq : Act → World → Prop) (t : Tr) (k : K) (w : World) : Prop := ∀ a, Fits n k a → wpTr P ops Q S Lq t a w
theorem VC.drawsT {id : Nat} {l : List Oper} (m : Nat) (t : Tr) (S : World → World → Prop) (hm : P.follows .mixedOrders = true) (hB : Region.treeOk .any l.toArray m t = true) (hS : ∀ w1, w1 = w.drew → S w1 w1)
    (h : ∀ w1, w1 = w.drew → VT P n l.toArray (NoPanic Q) (S w1) (fun a' w' => wpList P l.toArray (NoPanic Q) (l.drop m) a' w') t k w1) : VC (r := none) P n (.region id l.toArray true) Q k w :=
  fun a ha => wpIn_none.2 <| wp_region_noPanic (wp_region_any hm (any_of_tree m t (S w.drew) hB (fun _ _ _ _ _ h => h) (hS _ rfl) (h _ rfl a ha)))
theorem VC.drawsTR {id : Nat} {l : List Oper} (m : Nat) (t : Tr) (S : World → World → Prop) (hm : P.follows .mixedOrders = true) (hd : l.all notDef = true) (hB : Region.treeOk .any l.toArray m t = true) (hS : ∀ w1, w1 = w.drew → S w1 w1)
    (h : ∀ w1, w1 = w.drew → VT P n l.toArray (NoPO Q) (S w1) (fun a' w' => wpList P l.toArray (NoPO Q) (l.drop m) a' w') t k w1) : VC (r := rr) P n (.region id l.toArray true) Q k w :=
  fun a ha => wpIn_region_any hm (any_fw (by simpa using hd) _ _ a _ (any_of_tree m t (S w.drew) hB (fun _ _ _ _ _ h => h) (hS _ rfl) (h _ rfl a ha)))
theorem VT.two {i j : Nat} (h1 : VT P n ops Q S Lq (.wk i s) k w) (h2 : VT P n ops Q S Lq (.wk j t) k w) : VT P n ops Q S Lq (.two i s j t) k w := fun a ha => ⟨h1 a ha, h2 a ha⟩
theorem VT.mv {i d : Nat} {v : Value} (hr : ∀ w', S w' → Rn P n k w' o v) (ho : ops[i]? = some o) (hd : o.dst = some d) (hg : guardOk ops k o.guard = some true) (hn : Nat.blt d n.sz = true)
    (h : VT P n ops Q S Lq t ((d, v) :: k) w) : VT P n ops Q S Lq (.mv i t) k w := fun a ha =>
  ⟨o, v, ho, .inl ⟨guardOk_wanted hg ha, fun w' hw' => hr w' hw' a ha⟩, by rw [hd]; exact h _ (ha.put hn v)⟩
theorem VT.wk {i d : Nat} {R : Value → World → Prop} (hw : Wk P n k w o R) (ho : ops[i]? = some o) (hd : o.dst = some d) (hg : guardOk ops k o.guard = some true) (hn : Nat.blt d n.sz = true)
    (h : ∀ v w', R v w' → S w' ∧ VT P n ops Q S Lq t ((d, v) :: k) w') : VT P n ops Q S Lq (.wk i t) k w := by
  intro a ha
  simp only [wpTr, wpOp, ho]
  rw [guardOk_wanted hg ha]
  simp only [if_true]
  left
  refine hw a Q _ ha fun v w' hR => ?_
  rw [hd]
  exact ⟨(h v w' hR).1, (h v w' hR).2 _ (ha.put hn v)⟩
theorem VT.wk0 {i : Nat} {R : Value → World → Prop} (hw : Wk P n k w o R) (ho : ops[i]? = some o) (hd : o.dst = none) (hg : guardOk ops k o.guard = some true)
    (h : ∀ v w', R v w' → S w' ∧ VT P n ops Q S Lq t k w') : VT P n ops Q S Lq (.wk i t) k w := by
  intro a ha
  simp only [wpTr, wpOp, ho]
  rw [guardOk_wanted hg ha]
  simp only [if_true]
  left
  refine hw a Q _ ha fun v w' hR => ?_
  rw [hd]
  exact ⟨(h v w' hR).1, (h v w' hR).2 _ ha⟩
theorem VT.late {i d : Nat} {v : Value} (hr : Rn P n k w o v) (ho : ops[i]? = some o) (hd : o.dst = some d) (hg : guardOk ops k o.guard = some true) (hn : Nat.blt d n.sz = true) (hS : S w)
    (h : VT P n ops Q S Lq t ((d, v) :: k) w) : VT P n ops Q S Lq (.wk i t) k w :=
  VT.wk (R := fun u w' => u = v ∧ w' = w) (Wk.of_run fun a ha => ⟨v, w, hr a ha, rfl, rfl⟩) ho hd hg hn (by rintro u w' ⟨rfl, rfl⟩; exact ⟨hS, h⟩)
theorem VT.done {l : List Oper} {m : Nat} (h : VO P n ops Q (l.drop m) k w) : VT P n ops Q S (fun a' w' => wpList P ops Q (l.drop m) a' w') .nil k w := fun a ha => h a ha
def CutPost (n : Fr) {σ : Type} (kf : σ → K) (J : σ → World → Prop) (a' : Act) (w' : World) : Prop := ∃ s, J s w' ∧ Fits n (kf s) a'
theorem VC.cut {x y : Code} {σ : Type} (kf : σ → K) (J : σ → World → Prop) (h1 : VC (r := rr) P n x (Exit.then (CutPost n kf J) Q) k w) (h2 : ∀ s w, J s w → VC (r := rr) P n y Q (kf s) w) : VC (r := rr) P n (.seq x y) Q k w := by
  intro a ha
  refine wpIn_seq (wpIn_mono (h1 a ha) fun e a' w' hq => ?_)
  cases e <;> first | exact hq | skip
  obtain ⟨s, hJ, hf⟩ := hq
  exact h2 s w' hJ a' hf
theorem VQ.cut {σ : Type} {kf : σ → K} {J : σ → World → Prop} (s : σ) (hJ : J s w) (hk : kall k (kf s)) : VQ n (Exit.then (CutPost n kf J) Q) .normal k w := fun _ ha => ⟨s, hJ, ha.less hk⟩
end
end Go.Tm
