/- Lemmas of this claim, joined by program. Walks of functions: compile, deep: the recursion. Conditions: each lemma names its own. -/
import Derived.Test.YtpfglkohcfjelaaGreatDoorJ05
set_option linter.all false
namespace Go.Tm
open Go.RowKit Go.Proofs Go.Proofs.Tryz
theorem build217w15 {ps : List (Nat × Value)} {cs : Array Value} (h : Instr.fill (fun i => ([(0, 1), (1, 1), (2, 1)] : List (Nat × Nat))[i]?) #[.int .i64 0, .int .i64 0, .int .i64 0] ps = some cs) (w : World) : (Instr.build 217 ps.toArray).run prog w = .ok (.agg cs) w := by
 simp [Instr.build, runUnderlying217, ζ217, ς3, Value.cells, h]
theorem bld217_0_1_2w15 {v0 v1 v2 : Value} (h : [v0, v1, v2].all Value.oneCell' = true) : BLD prog 217 [(0, v0), (1, v1), (2, v2)] #[v0, v1, v2] := build217w15 (fill1 _ _ _ h rfl)
set_option maxHeartbeats 2000000 in
set_option maxRecDepth 100000 in
theorem deepTimes (o a e : Ord) (hab : o.kids = [a, e]) (hk3 : o.kind = 3) (hA : DeepOk a) (hB : DeepOk e) (ga : GO a) (ge : GO e) (la : 2 ≤ a.len) (le : 2 ≤ e.len) (hae : a.len * e.len ≤ 16384) (sla : a.len = sl a) (sle : e.len = sl e) (q r : Nat) (x : Inst) (b : Bld) (A : Option Addr) (c lo hi : Nat) (w : World) (kd : RdK (In lo hi) w A o.kids) (hh : hi ≤ w.heap.size) (hq2 : q < lo ∨ hi ≤ q) (hr2 : r ≤ lo ∨ hi < r) (hq : 24 ≤ q) (hr : r = 0 ∨ 24 < r) (bb : BB w q r b) (ok : BdOk b) (hf : b.full = false) (hx : XOk x (sl o)) (st : StT w) :
  Calls prog 226 #[Kh q, ordV o A c, instV x] w (Ret (fun v w' => ∃ r', v = .tuple #[] ∧ BB w' q r' (timesM (deepM a) (deepM e) (decide (a.kind = 2)) a.len e.len x b) ∧ (r' = r ∨ w.heap.size < r') ∧ Ch (QR q r) w w')) := by
 have ha : o.kids[0]? = some a := by rw [hab]; rfl
 have he : o.kids[1]? = some e := by rw [hab]; rfl
 have hkl : o.kids.length = 2 := by rw [hab]; rfl
 have lb := bb.lt
 have hxx : XOk x (a.len * e.len) := by rw [show a.len * e.len = sl o by simp [sl, hk3, hab]]; exact hx
 have okb := ok.bd; have hfb := full_false hf; have hxd := hxx.d0; have hxl := hxx.dl; have hxf := ok.f1; have hxs := hxx.s0; have hxj := hxx.j1
 have hab0 : 0 ≤ a.len * e.len := Int.mul_nonneg (by omega) (by omega)
 have lab := len_bd a; have leb := len_bd e
 have okr1 := ok.region (n := a.len * e.len) (by omega) (by omega)
 have okr2 := okr1.region (n := a.len) (by omega) (by simp only [Bld.region]; omega)
 have kA := deepM_keeps ga; have kB := deepM_keeps ge
 refine Ku func226 O ntmps226 O (Kb (Km (Cp O) O ?_))
 intro p1 w1 b4 c1 e1 z1
 refine Km (Cp O) O ?_
 intro p2 w2 b5 c2 e2 z2
 refine Wy ?_
 have b4_2 := b4.keep c2
 refine Om (Qz ι53 ς53 O O (b4_2.all' O)) O ?_
 have kd_2 := kd.keep (c1.trans c2)
 refine Oq (Qi call260 O (c_size o a e _ _ _ _ _ kd_2 (by omega) hab)) O ?_
 rintro _ w3 ⟨rfl, c3⟩
 have z3 := c3.size
 refine Wu O O (Om (Qu O O) O (Om (Qu O O) O (Om (Qu O O) O (Ww O O (Ww O O (Ww O O (Qf ?_)))))))
 refine Qa (Kb (Wu O O (Wu O O ?_)))
 refine Om (Cy O O) O ?_
 refine Ww O O (Wy (Om (Qh υ217 O ς3 O O O) O ?_))
 have b5_3 := b5.keep c3
 refine Om (Qg ι3 O (b5_3.cell O)) O (Ww O O (Ww O O (Wz (Kb ?_))))
 refine Wu O O (Om (Rn.not_if O) O (Ka (Qj O (fun hc1 => ?_) (fun hc1 => ?_))))
 ·
  refine Qb (Wu O O (Wu O O ?_))
  have bb_3 := bb.keep (c1.trans (c2.trans c3))
  refine Oq (Qi κ172 O (bb_region _ _ b _ _ bb_3 ok)) O ?_
  rintro _ w4 ⟨rfl, bb4, c4⟩
  have z4 := c4.size
  refine Wu O O (Wu O O (Oq (Qi κ172 O (bb_region _ _ (b.region (a.len * e.len)) _ _ bb4 okr1)) O ?_))
  rintro _ w5 ⟨rfl, bb5, c5⟩
  have z5 := c5.size
  refine Ww O O (Ww O O (Wz (Kb (Wu O O ?_))))
  refine Wu O O (Ka (Qt ?_))
  have b4_3 := b4_2.keep c3
  have b4_4 := b4_3.to c4
  have b4_5 := b4_4.to c5
  have b5_4 := b5_3.to c4
  have b5_5 := b5_4.to c5
  have kd_3 := kd_2.keep c3
  have kd_4 := kd_3.to c4
  have kd_5 := kd_4.to c5
  have st_3 := st.keep (c1.trans (c2.trans c3))
  have st_4 := st_3.to c4
  have st_5 := st_4.to c5
  have CH_3 := (Ch.refl (QR q r) w).and (c1.trans (c2.trans c3))
  have CH_4 : Ch (QR q r) w w4 := CH_3.then c4
  have CH_5 : Ch (QR q r) w w5 := CH_4.then c5
  refine Kf (σ := Nat) (fun j => [(0, Kh q), (4, Kh p1), (5, Kh p2), (6, Kg a.len), (7, Kg e.len), (9, Kg (a.len * e.len)), (8, .bool (decide (a.kind = 2))), (10, Kg b.fr), (11, Kg (b.fr + a.len * e.len)), (33, Kg a.len), (34, Kg j)]) (fun j w' => ∃ r', (j : Int) ≤ a.len ∧ (r' = r ∨ w2.heap.size < r') ∧ w5.heap.size ≤ w'.heap.size ∧ Bk w' p1 #[Kg o.kind, Kg o.n, .slice A o.kids.length c] 53 ∧ Bk w' p2 #[Kg x.src, Kg x.jump, Kg x.dst] 217 ∧ BB w' q r' (((List.range j).foldl (timesJ (deepM e) x a.len e.len b.fr) ((b.region (a.len * e.len)).region a.len))) ∧ RdK (In lo hi) w' A o.kids ∧ StT w' ∧ Ch (QR q r) w w') (fun j => a.len.toNat - j) 0 ?_ ?_
  · exact ⟨r, (by omega), (by omega), (Nat.le_refl _), b4_5, b5_5, bb5, kd_5, st_5, CH_5⟩
  rintro j w6 ⟨r', hj, hr76, hsz6, b4_6, b5_6, bb_6, kd_6, st_6, CH_6⟩
  have lbr := bb_6.lt; have lb5 := b5_6.lt; have zc := CH_6.size
  have hok := foldl_keeps (fun d j h => timesJ_keeps kB x a.len e.len (b.fr) d j h) (List.range j) _ (show BdOk ((b.region (a.len * e.len)).region a.len) by first | exact ok | exact okr2)
  refine Kb (Om (Co O O) O (Wz (Qj O (fun hc2 => ?_) (fun hc2 => ?_))))
  ·
   refine Qn (Qa (Qe (Qt (Kb (Wu O O (Ww O O ?_))))))
   refine Wz ?_
   obtain ⟨kB1, kc, kb, ks⟩ := kd_6.kid he
   have hin := xok_inner hxx la le hae (j := j) (t := b.fr)
   have hinj := hin.2.1; have hina := hin.2.2.1; have hinb := hin.2.2.2.1; have hins := hin.2.2.2.2.2.2.1
   refine Kj 23 [0, 2, 4, 6, 8, 10, 12, 14, 16, 18, 20, 22, 24, 26, 28, 30, 32, 34, 36, 38, 40, 42, 45] (QR q r') ?_
   intro w7 c7 z7
   have b4_7 := b4_6.keep c7
   have b5_7 := b5_6.keep c7
   have kb_7 := kb.keep c7
   refine Wv O O (Ws (Qh υ53 O ς51 O O O) O (Wt (fun hS => Qg ι51 O ((b4_7.to hS).cell O)) O ?_))
   have kd_7 := kd_6.keep c7
   refine Ws (Qs υ51 ς53 O O (kd_7.ne (by omega))) O ?_
   refine Wt (fun hS => Qz ι53 ς53 O O (kb_7.to hS).1) O ?_
   refine Ws (Qh υ217 O ς3 O O O) O (Wt (fun hS => Qg ι3 O ((b5_7.to hS).cell O)) O (Wv O O (Ws (Qh υ217 O ς3 O O O) O (Wt (fun hS => Qg ι3 O ((b5_7.to hS).cell O)) O ?_))))
   refine Ws (Cy O O) O ?_
   refine Ws (Cd O O) O ?_
   refine Ws (Qh υ217 O ς3 O O O) O (Wt (fun hS => Qg ι3 O ((b5_7.to hS).cell O)) O (Wv O O ?_))
   refine Ws (Cy O O) O ?_
   refine Wv O O (Wv O O (Wv O O ?_))
   refine Ws (Cy O O) O ?_
   refine Ws (Cd O O) O ?_
   refine Ws (Ct O (bld217_0_1_2w15 O)) O ?_
   have ks_7 := ks.keep c7
   have bb_7 := bb_6.keep c7
   have st_7 := st_6.keep c7
   refine Hq (Qi κ173 O (hB _ _ _ _ _ _ (⟨x.src + j * x.jump, x.jump * a.len, b.fr + j * e.len⟩) (((List.range j).foldl (timesJ (deepM e) x a.len e.len b.fr) ((b.region (a.len * e.len)).region a.len))) _ ks_7 (by omega) (by omega) (by omega) (by omega) (by omega) bb_7 (hok.ok) (by rw [← sle]; exact hin.1) st_7)) O ?_
   rintro _ w8 ⟨r8, rfl, bb8, y8, c8⟩
   have lb8 := bb8.lt
   have z8 := c8.size
   have RD_8 : Ch (QR q r') w7 w8 := (Ch.refl (QR q r') w7).then c8
   refine ⟨RD_8, ?_⟩
   refine Cj (Qf (Ca (Qa (Kb (Wu O O (Om (Rb O O) O ?_))))))
   refine Ka (Qj O (fun hc3 => ?_) (fun hc3 => ?_))
   ·
    refine Qb (Wu O O (Wu O O (Wu O O (Wu O O ?_))))
    refine Om (Cy O O) O ?_
    refine Om (Cd O O) O ?_
    refine Wu O O (Wu O O (Wu O O (Oq (Qi call261 O (c_twist _ _ _ _ _)) O ?_)))
    rintro _ w9 ⟨rfl, c9⟩
    have z9 := c9.size
    have bb_9 := bb8.keep c9
    have st_8 := st_7.to c8
    have st_9 := st_8.keep c9
    refine Oq (Qi κ222 O (bb_add _ _ ((deepM e ⟨x.src + j * x.jump, x.jump * a.len, b.fr + j * e.len⟩ ((List.range j).foldl (timesJ (deepM e) x a.len e.len b.fr) ((b.region (a.len * e.len)).region a.len)))) (twistS (b.fr + j * e.len) e.len (a.len * e.len) j) _ bb_9 ((kB _ _ hok.ok).ok) st_9 (by simp only [twistS]; omega))) O ?_
    rintro _ w10 ⟨r10, rfl, bb10, y10, c10⟩
    have lb10 := bb10.lt
    have z10 := c10.size
    refine Qf (Ql (Qa (Qb ?_)))
    refine Om (Cd O O) O ?_
    refine Wu O O (Qf ?_)
    refine Ke (j + 1) ?_
    have b4_8 := b4_7.to c8
    have b4_9 := b4_8.keep c9
    have b4_10 := b4_9.to c10
    have b5_8 := b5_7.to c8
    have b5_9 := b5_8.keep c9
    have b5_10 := b5_9.to c10
    have kd_8 := kd_7.to c8
    have kd_9 := kd_8.keep c9
    have kd_10 := kd_9.to c10
    have st_10 := st_9.to c10
    have CH_7 := CH_6.and c7
    have CH_8 : Ch (QR q r) w w8 := CH_7.then c8
    have CH_9 := CH_8.and c9
    have CH_10 : Ch (QR q r) w w10 := CH_9.then c10
    exact ⟨r10, (by omega), (by omega), (by omega), b4_10, b5_10, (by rw [List.range_succ, List.foldl_append]; show BB _ _ _ (timesJ _ _ _ _ _ _ _); unfold timesJ; simp only; first | (rw [if_pos (by omega)]; exact bb10) | (rw [if_neg (by omega)]; exact bb10)), kd_10, st_10, CH_10⟩
   refine Qn (Ql (Qa (Qb ?_)))
   refine Om (Cd O O) O ?_
   refine Wu O O (Qf ?_)
   refine Ke (j + 1) ?_
   have b4_8 := b4_7.to c8
   have b5_8 := b5_7.to c8
   have kd_8 := kd_7.to c8
   have st_8 := st_7.to c8
   have CH_7 := CH_6.and c7
   have CH_8 : Ch (QR q r) w w8 := CH_7.then c8
   exact ⟨r8, (by omega), (by omega), (by omega), b4_8, b5_8, (by rw [List.range_succ, List.foldl_append]; show BB _ _ _ (timesJ _ _ _ _ _ _ _); unfold timesJ; simp only; first | (rw [if_pos (by omega)]; exact bb8) | (rw [if_neg (by omega)]; exact bb8)), kd_8, st_8, CH_8⟩
  refine Cn (Qk (Qk (Qy (Qa (Qe (Qe ?_))))))
  have hjA : j = a.len.toNat := by omega
  subst hjA
  have hokA := hok
  refine Qb (Wu O O (Ka (Qj O (fun hc4 => ?_) (fun hc4 => ?_))))
  · omega
  refine Qn (Qa (Kb (Wu O O (Wu O O (Ka ?_)))))
  refine Qt (Kf (σ := Nat) (fun j => [(0, Kh q), (4, Kh p1), (5, Kh p2), (6, Kg a.len), (7, Kg e.len), (9, Kg (a.len * e.len)), (10, Kg b.fr), (11, Kg (b.fr + a.len * e.len)), (83, Kg e.len), (84, Kg j)]) (fun j w' => ∃ r', (j : Int) ≤ e.len ∧ (r' = r ∨ w2.heap.size < r') ∧ w6.heap.size ≤ w'.heap.size ∧ Bk w' p1 #[Kg o.kind, Kg o.n, .slice A o.kids.length c] 53 ∧ Bk w' p2 #[Kg x.src, Kg x.jump, Kg x.dst] 217 ∧ BB w' q r' (((List.range j).foldl (timesK (deepM a) x a.len e.len b.fr (b.fr + a.len * e.len)) ((List.range a.len.toNat).foldl (timesJ (deepM e) x a.len e.len b.fr) ((b.region (a.len * e.len)).region a.len)))) ∧ RdK (In lo hi) w' A o.kids ∧ StT w' ∧ Ch (QR q r) w w') (fun j => e.len.toNat - j) 0 ?_ ?_)
  · exact ⟨r', (by omega), (by omega), (Nat.le_refl _), b4_6, b5_6, bb_6, kd_6, st_6, CH_6⟩
  rintro j w11 ⟨r', hj, hr711, hsz11, b4_11, b5_11, bb_11, kd_11, st_11, CH_11⟩
  have lbr := bb_11.lt; have lb5 := b5_11.lt; have zc := CH_11.size
  have hokK := hokA.trans (foldl_keeps (fun d j h => timesK_keeps kA x a.len e.len b.fr (b.fr + a.len * e.len) d j h) (List.range j) _ hokA.ok)
  refine Kb (Om (Co O O) O (Wz (Qj O (fun hc5 => ?_) (fun hc5 => ?_))))
  ·
   refine Qn (Qa (Qe (Qt (Kb (Wu O O (Ww O O ?_))))))
   refine Wz ?_
   obtain ⟨kA1, kc, ka, kr⟩ := kd_11.kid ha
   have hou := xok_outer (k := j) (t := b.fr) (z := b.fr + a.len * e.len) la le hae
   refine Qb (Wu O O (Om (Qh υ53 O ς51 O O O) O (Om (Qg ι51 O (b4_11.cell O)) O (Om (Qs υ51 ς53 O O (kd_11.ne (by omega))) O (Om (Qz ι53 ς53 O O ka.1) O (Wu O O (Wu O O ?_)))))))
   refine Om (Cd O O) O ?_
   refine Wu O O (Wu O O (Om (Ct O (bld217_0_1_2w15 O)) O ?_))
   refine Oq (Qi κ173 O (hA _ _ _ _ _ _ (⟨b.fr + j, e.len, b.fr + a.len * e.len⟩) (((List.range j).foldl (timesK (deepM a) x a.len e.len b.fr (b.fr + a.len * e.len)) ((List.range a.len.toNat).foldl (timesJ (deepM e) x a.len e.len b.fr) ((b.region (a.len * e.len)).region a.len)))) _ kr (by omega) (by omega) (by omega) (by omega) (by omega) bb_11 (hokK.ok) (by rw [← sla]; exact hou) st_11)) O ?_
   rintro _ w12 ⟨r12, rfl, bb12, y12, c12⟩
   have lb12 := bb12.lt
   have z12 := c12.size
   refine Ka (Qb (Wu O O (Om (Qh υ217 O ς3 O O O) O ?_)))
   have b5_12 := b5_11.to c12
   refine Om (Qg ι3 O (b5_12.cell O)) O (Wu O O ?_)
   refine Om (Cd O O) O ?_
   refine Wu O O (Wu O O (Wu O O (Oq (Qi call262 O (c_scatter _ _ _ _ _)) O ?_)))
   rintro _ w13 ⟨rfl, c13⟩
   have z13 := c13.size
   have bb_13 := bb12.keep c13
   have st_12 := st_11.to c12
   have st_13 := st_12.keep c13
   refine Oq (Qi κ222 O (bb_add _ _ ((deepM a ⟨b.fr + j, e.len, b.fr + a.len * e.len⟩ ((List.range j).foldl (timesK (deepM a) x a.len e.len b.fr (b.fr + a.len * e.len)) ((List.range a.len.toNat).foldl (timesJ (deepM e) x a.len e.len b.fr) ((b.region (a.len * e.len)).region a.len))))) (scatterS (x.dst + j) (b.fr + a.len * e.len) e.len a.len) _ bb_13 ((kA _ _ hokK.ok).ok) st_13 (by simp only [scatterS]; omega))) O ?_
   rintro _ w14 ⟨r14, rfl, bb14, y14, c14⟩
   have lb14 := bb14.lt
   have z14 := c14.size
   refine Qf (Ql (Qa (Qb ?_)))
   refine Om (Cd O O) O ?_
   refine Wu O O (Qf ?_)
   refine Ke (j + 1) ?_
   have b4_12 := b4_11.to c12
   have b4_13 := b4_12.keep c13
   have b4_14 := b4_13.to c14
   have b5_13 := b5_12.keep c13
   have b5_14 := b5_13.to c14
   have kd_12 := kd_11.to c12
   have kd_13 := kd_12.keep c13
   have kd_14 := kd_13.to c14
   have st_14 := st_13.to c14
   have CH_12 : Ch (QR q r) w w12 := CH_11.then c12
   have CH_13 := CH_12.and c13
   have CH_14 : Ch (QR q r) w w14 := CH_13.then c14
   exact ⟨r14, (by omega), (by omega), (by omega), b4_14, b5_14, (by rw [List.range_succ, List.foldl_append]; exact bb14), kd_14, st_14, CH_14⟩
  refine Cn (Qk (Qk (Qy (Rp O (Kx ?_)))))
  have hjK : j = e.len.toNat := by omega
  subst hjK
  exact ⟨_, O, by unfold timesM; rw [if_neg (by simp; omega)]; exact bb_11, by omega, CH_11⟩
 refine Qn (Qa (Qe (Kb (Wu O O (Wu O O (Qf ?_))))))
 refine Qa (Qt ?_)
 have b4_3 := b4_2.keep c3
 have bb_3 := bb.keep (c1.trans (c2.trans c3))
 have kd_3 := kd_2.keep c3
 have st_3 := st.keep (c1.trans (c2.trans c3))
 have CH_3 := (Ch.refl (QR q r) w).and (c1.trans (c2.trans c3))
 refine Kf (σ := Nat) (fun j => [(0, Kh q), (4, Kh p1), (5, Kh p2), (6, Kg a.len), (7, Kg e.len), (9, Kg (a.len * e.len)), (8, .bool (decide (a.kind = 2))), (10, Kg x.dst), (11, Kg 0), (33, Kg a.len), (34, Kg j)]) (fun j w' => ∃ r', (j : Int) ≤ a.len ∧ (r' = r ∨ w2.heap.size < r') ∧ w3.heap.size ≤ w'.heap.size ∧ Bk w' p1 #[Kg o.kind, Kg o.n, .slice A o.kids.length c] 53 ∧ Bk w' p2 #[Kg x.src, Kg x.jump, Kg x.dst] 217 ∧ BB w' q r' (((List.range j).foldl (timesJ (deepM e) x a.len e.len x.dst) (b))) ∧ RdK (In lo hi) w' A o.kids ∧ StT w' ∧ Ch (QR q r) w w') (fun j => a.len.toNat - j) 0 ?_ ?_
 · exact ⟨r, (by omega), (by omega), (Nat.le_refl _), b4_3, b5_3, bb_3, kd_3, st_3, CH_3⟩
 rintro j w15 ⟨r', hj, hr715, hsz15, b4_15, b5_15, bb_15, kd_15, st_15, CH_15⟩
 have lbr := bb_15.lt; have lb5 := b5_15.lt; have zc := CH_15.size
 have hok := foldl_keeps (fun d j h => timesJ_keeps kB x a.len e.len (x.dst) d j h) (List.range j) _ (show BdOk (b) by first | exact ok | exact okr2)
 refine Kb (Om (Co O O) O (Wz (Qj O (fun hc6 => ?_) (fun hc6 => ?_))))
 ·
  refine Qn (Qa (Qe (Qt (Kb (Wu O O (Ww O O ?_))))))
  refine Wz ?_
  obtain ⟨kB1, kc, kb, ks⟩ := kd_15.kid he
  have hin := xok_inner hxx la le hae (j := j) (t := x.dst)
  have hinj := hin.2.1; have hina := hin.2.2.1; have hinb := hin.2.2.2.1; have hins := hin.2.2.2.2.2.2.1
  refine Kj 23 [0, 2, 4, 6, 8, 10, 12, 14, 16, 18, 20, 22, 24, 26, 28, 30, 32, 34, 36, 38, 40, 42, 45] (QR q r') ?_
  intro w16 c16 z16
  have b4_16 := b4_15.keep c16
  have b5_16 := b5_15.keep c16
  have kb_16 := kb.keep c16
  refine Wv O O (Ws (Qh υ53 O ς51 O O O) O (Wt (fun hS => Qg ι51 O ((b4_16.to hS).cell O)) O ?_))
  have kd_16 := kd_15.keep c16
  refine Ws (Qs υ51 ς53 O O (kd_16.ne (by omega))) O ?_
  refine Wt (fun hS => Qz ι53 ς53 O O (kb_16.to hS).1) O ?_
  refine Ws (Qh υ217 O ς3 O O O) O (Wt (fun hS => Qg ι3 O ((b5_16.to hS).cell O)) O (Wv O O (Ws (Qh υ217 O ς3 O O O) O (Wt (fun hS => Qg ι3 O ((b5_16.to hS).cell O)) O ?_))))
  refine Ws (Cy O O) O ?_
  refine Ws (Cd O O) O ?_
  refine Ws (Qh υ217 O ς3 O O O) O (Wt (fun hS => Qg ι3 O ((b5_16.to hS).cell O)) O (Wv O O ?_))
  refine Ws (Cy O O) O ?_
  refine Wv O O (Wv O O (Wv O O ?_))
  refine Ws (Cy O O) O ?_
  refine Ws (Cd O O) O ?_
  refine Ws (Ct O (bld217_0_1_2w15 O)) O ?_
  have ks_16 := ks.keep c16
  have bb_16 := bb_15.keep c16
  have st_16 := st_15.keep c16
  refine Hq (Qi κ173 O (hB _ _ _ _ _ _ (⟨x.src + j * x.jump, x.jump * a.len, x.dst + j * e.len⟩) (((List.range j).foldl (timesJ (deepM e) x a.len e.len x.dst) (b))) _ ks_16 (by omega) (by omega) (by omega) (by omega) (by omega) bb_16 (hok.ok) (by rw [← sle]; exact hin.1) st_16)) O ?_
  rintro _ w17 ⟨r17, rfl, bb17, y17, c17⟩
  have lb17 := bb17.lt
  have z17 := c17.size
  have RD_17 : Ch (QR q r') w16 w17 := (Ch.refl (QR q r') w16).then c17
  refine ⟨RD_17, ?_⟩
  refine Cj (Qf (Ca (Qa (Kb (Wu O O (Om (Rb O O) O ?_))))))
  refine Ka (Qj O (fun hc7 => ?_) (fun hc7 => ?_))
  ·
   refine Qb (Wu O O (Wu O O (Wu O O (Wu O O ?_))))
   refine Om (Cy O O) O ?_
   refine Om (Cd O O) O ?_
   refine Wu O O (Wu O O (Wu O O (Oq (Qi call261 O (c_twist _ _ _ _ _)) O ?_)))
   rintro _ w18 ⟨rfl, c18⟩
   have z18 := c18.size
   have bb_18 := bb17.keep c18
   have st_17 := st_16.to c17
   have st_18 := st_17.keep c18
   refine Oq (Qi κ222 O (bb_add _ _ ((deepM e ⟨x.src + j * x.jump, x.jump * a.len, x.dst + j * e.len⟩ ((List.range j).foldl (timesJ (deepM e) x a.len e.len x.dst) (b)))) (twistS (x.dst + j * e.len) e.len (a.len * e.len) j) _ bb_18 ((kB _ _ hok.ok).ok) st_18 (by simp only [twistS]; omega))) O ?_
   rintro _ w19 ⟨r19, rfl, bb19, y19, c19⟩
   have lb19 := bb19.lt
   have z19 := c19.size
   refine Qf (Ql (Qa (Qb ?_)))
   refine Om (Cd O O) O ?_
   refine Wu O O (Qf ?_)
   refine Ke (j + 1) ?_
   have b4_17 := b4_16.to c17
   have b4_18 := b4_17.keep c18
   have b4_19 := b4_18.to c19
   have b5_17 := b5_16.to c17
   have b5_18 := b5_17.keep c18
   have b5_19 := b5_18.to c19
   have kd_17 := kd_16.to c17
   have kd_18 := kd_17.keep c18
   have kd_19 := kd_18.to c19
   have st_19 := st_18.to c19
   have CH_16 := CH_15.and c16
   have CH_17 : Ch (QR q r) w w17 := CH_16.then c17
   have CH_18 := CH_17.and c18
   have CH_19 : Ch (QR q r) w w19 := CH_18.then c19
   exact ⟨r19, (by omega), (by omega), (by omega), b4_19, b5_19, (by rw [List.range_succ, List.foldl_append]; show BB _ _ _ (timesJ _ _ _ _ _ _ _); unfold timesJ; simp only; first | (rw [if_pos (by omega)]; exact bb19) | (rw [if_neg (by omega)]; exact bb19)), kd_19, st_19, CH_19⟩
  refine Qn (Ql (Qa (Qb ?_)))
  refine Om (Cd O O) O ?_
  refine Wu O O (Qf ?_)
  refine Ke (j + 1) ?_
  have b4_17 := b4_16.to c17
  have b5_17 := b5_16.to c17
  have kd_17 := kd_16.to c17
  have st_17 := st_16.to c17
  have CH_16 := CH_15.and c16
  have CH_17 : Ch (QR q r) w w17 := CH_16.then c17
  exact ⟨r17, (by omega), (by omega), (by omega), b4_17, b5_17, (by rw [List.range_succ, List.foldl_append]; show BB _ _ _ (timesJ _ _ _ _ _ _ _); unfold timesJ; simp only; first | (rw [if_pos (by omega)]; exact bb17) | (rw [if_neg (by omega)]; exact bb17)), kd_17, st_17, CH_17⟩
 refine Cn (Qk (Qk (Qy (Qa (Qe (Qe ?_))))))
 have hjA : j = a.len.toNat := by omega
 subst hjA
 have hokA := hok
 refine Qb (Wu O O (Ka (Qj O (fun hc8 => ?_) (fun hc8 => ?_))))
 ·
  refine Kb (Wu O O (Om (Qh υ217 O ς3 O O O) O (Om (Qg ι3 O (b5_15.cell O)) O (Wu O O (Wu O O (Wu O O ?_))))))
  refine Oq (Qi call225 O (c_fly _ _ _ _ _)) O ?_
  rintro _ w20 ⟨rfl, c20⟩
  have z20 := c20.size
  have bb_20 := bb_15.keep c20
  have st_20 := st_15.keep c20
  refine Oq (Qi κ222 O (bb_add _ _ (((List.range a.len.toNat).foldl (timesJ (deepM e) x a.len e.len x.dst) (b))) (flyS x.dst e.len e.len a.len) _ bb_20 (hokA.ok) st_20 (by simp only [flyS]; omega))) O ?_
  rintro _ w21 ⟨r21, rfl, bb21, y21, c21⟩
  have lb21 := bb21.lt
  have z21 := c21.size
  refine Ka (Qp (Qw (VQ.ret0 O (Kx ?_))))
  have CH_20 := CH_15.and c20
  have CH_21 : Ch (QR q r) w w21 := CH_20.then c21
  exact ⟨_, O, by unfold timesM; rw [if_pos (by simp; omega)]; exact bb21, by omega, CH_21⟩
 omega
end Go.Tm
