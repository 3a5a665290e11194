/- Lemmas of this claim, joined by program. Walks of functions: compile, deep: Bluestein. Conditions: each lemma names its own. -/
import Derived.Test.YtpfglkohcfjelaaGreatDoorJ06
set_option linter.all false
namespace Go.Tm
open Go.RowKit Go.Proofs Go.Proofs.Tryz
theorem first_n {W : Blu} {x : Inst} (h : 0 ≤ W.n ∧ W.n ≤ 16384 ∧ 0 ≤ W.m ∧ W.m ≤ 16384) {i : Nat} {s : Stp} (hs : (W.first x)[i]? = some s) : -1000000000 ≤ s.n ∧ s.n ≤ 1000000000 := by
 have := List.mem_of_getElem? hs
 simp only [Blu.first, List.mem_cons, List.not_mem_nil, or_false] at this
 rcases this with rfl | rfl | rfl <;> simp only [gatherS, zeroS, chirpS] <;> omega
theorem second_n {W : Blu} (h : 0 ≤ W.n ∧ W.n ≤ 16384 ∧ 0 ≤ W.m ∧ W.m ≤ 16384) {i : Nat} {s : Stp} (hs : (W.second)[i]? = some s) : -1000000000 ≤ s.n ∧ s.n ≤ 1000000000 := by
 have := List.mem_of_getElem? hs
 simp only [Blu.second, List.mem_cons, List.not_mem_nil, or_false] at this
 rcases this with rfl | rfl <;> simp only [tmsS, conjS] <;> omega
theorem last_n {W : Blu} {x : Inst} (h : 0 ≤ W.n ∧ W.n ≤ 16384 ∧ 0 ≤ W.m ∧ W.m ≤ 16384) {i : Nat} {s : Stp} (hs : (W.last x)[i]? = some s) : -1000000000 ≤ s.n ∧ s.n ≤ 1000000000 := by
 have := List.mem_of_getElem? hs
 simp only [Blu.last, List.mem_cons, List.not_mem_nil, or_false] at this
 rcases this with rfl | rfl | rfl | rfl <;> simp only [conjS, overS, gatherS, chirpS] <;> omega
theorem adds_take {b : Bld} {L : List Stp} {i : Nat} {s : Stp} (h : L[i]? = some s) : b.adds (L.take (i + 1)) = (b.adds (L.take i)).add s := by
 rw [List.take_add_one, h, ← adds_snoc]; rfl
theorem adds_all {b : Bld} {L : List Stp} {i : Nat} (h : L.length ≤ i) : b.adds (L.take i) = b.adds L := by rw [List.take_of_length_le h]
theorem build217w16 {ps : List (Nat × Value)} {cs : Array Value} (h : Instr.fill (fun i => ([(0, 1), (1, 1), (2, 1)] : List (Nat × Nat))[i]?) #[.int .i64 0, .int .i64 0, .int .i64 0] ps = some cs) (w : World) : (Instr.build 217 ps.toArray).run prog w = .ok (.agg cs) w := by
 simp [Instr.build, runUnderlying217, ζ217, ς3, Value.cells, h]
theorem bld217_0_1_2w16 {v0 v1 v2 : Value} (h : [v0, v1, v2].all Value.oneCell' = true) : BLD prog 217 [(0, v0), (1, v1), (2, v2)] #[v0, v1, v2] := build217w16 (fill1 _ _ _ h rfl)
set_option maxHeartbeats 2000000 in
set_option maxRecDepth 100000 in
theorem deepBlue (o a : Ord) (hab : o.kids = [a]) (hk4 : o.kind = 4) (hA : DeepOk a) (ga : GO a) (hn2 : 2 ≤ o.n) (hn3 : o.n ≤ 16384) (sla : a.len = sl a) (q r : Nat) (x : Inst) (b : Bld) (A : Option Addr) (c lo hi : Nat) (w : World) (kd : RdK (In lo hi) w A o.kids) (hh : hi ≤ w.heap.size) (hq2 : q < lo ∨ hi ≤ q) (hr2 : r ≤ lo ∨ hi < r) (hq : 24 ≤ q) (hr : r = 0 ∨ 24 < r) (bb : BB w q r b) (ok : BdOk b) (hf : b.full = false) (hx : XOk x (sl o)) (st : StT w) :
  Calls prog 227 #[Kh q, ordV o A c, instV x] w (Ret (fun v w' => ∃ r', v = .tuple #[] ∧ BB w' q r' (blueM (deepM a) o.n a.len x b) ∧ (r' = r ∨ w.heap.size < r') ∧ Ch (QR q r) w w')) := by
 have ha : o.kids[0]? = some a := by rw [hab]; rfl
 have hkl : o.kids.length = 1 := by rw [hab]; rfl
 have lb := bb.lt
 have okb := ok.bd; have hfb := full_false hf; have hxf := ok.f1
 have lab := len_bd a
 have ok1 := ok.region (n := a.len) (by omega) (by omega)
 have ok2 := ok1.region (n := a.len) (by omega) (by simp only [Bld.region]; omega)
 have ok3 := ok2.region (n := a.len) (by omega) (by simp only [Bld.region]; omega)
 have okr4 := ok3.region (n := a.len) (by omega) (by simp only [Bld.region]; omega)
 have kA := deepM_keeps ga
 have okc1 := okr4.adds ((Blu.of o.n a.len b.fr).first x)
 have okc2 := (kA ⟨(Blu.of o.n a.len b.fr).u, 1, (Blu.of o.n a.len b.fr).p⟩ _ okc1).ok
 have okc2f := okc2.add (Blu.of o.n a.len b.fr).fill
 have okc3 := (kA ⟨(Blu.of o.n a.len b.fr).v, 1, (Blu.of o.n a.len b.fr).q⟩ _ okc2f).ok
 have okc3s := okc3.adds (Blu.of o.n a.len b.fr).second
 have okc4 := (kA ⟨(Blu.of o.n a.len b.fr).p, 1, (Blu.of o.n a.len b.fr).u⟩ _ okc3s).ok
 refine Ku func227 O ntmps227 O (Kb (Km (Cp O) O ?_))
 intro p1 w1 b4 c1 e1 z1
 refine Km (Cp O) O ?_
 intro p2 w2 b5 c2 e2 z2
 refine Wy (Wu O O ?_)
 have b4_2 := b4.keep c2
 refine Om (Qz ι53 ς53 O O (b4_2.all' O)) O ?_
 have kd_2 := kd.keep (c1.trans c2)
 have bb_2 := bb.keep (c1.trans c2)
 refine Oq (Qi call263 O (b_blue _ _ b o a _ _ _ _ _ kd_2 (by omega) hab bb_2 ok (by omega) (by omega))) O ?_
 rintro _ w3 ⟨rfl, bb3, c3⟩
 have z3 := c3.size
 refine Km (Ck ζ275) O ?_
 intro p4 w4 b6 c4 e4 z4
 refine Ks (Cl ς275 O O O O b6) O ?_
 intro w5 c5 z5 b6_5
 refine Wz (Kb (Om (Qz ι275 ς275 O O (b6_5.all' O)) O ?_))
 have b5_3 := b5.to c3
 have cc_3_5 : Ch No w3 w5 := (Ch.then (E := No) c4 c5)
 have b5_5 := b5_3.keep cc_3_5
 refine Om (Qz ι217 ς217 O O (b5_5.all' O)) O ?_
 refine Oq (Qi call264 O (bl_first (Blu.of o.n a.len b.fr) x _ (by simp only [Blu.of]; omega))) O ?_
 rintro _ w6 ⟨fA6, fc6, rfl, fs6, c6⟩
 have z6 := c6.size
 refine Om (Cs υ96 O) O (Wu O O (Ka (Qt ?_)))
 have b4_3 := b4_2.to c3
 have cc_3_6 : Ch No w3 w6 := ((Ch.then (E := No) c4 c5).and c6)
 have b4_6 := b4_3.keep cc_3_6
 have b5_6 := b5_5.keep c6
 have b6_6 := b6_5.keep c6
 have bb_6 := bb3.keep cc_3_6
 have kd_3 := kd_2.to c3
 have kd_6 := kd_3.keep cc_3_6
 have st_2 := st.keep (c1.trans c2)
 have st_3 := st_2.to c3
 have st_6 := st_3.keep cc_3_6
 have CH_2 := (Ch.refl (QR q r) w).and (c1.trans c2)
 have CH_3 : Ch (QR q r) w w3 := CH_2.then c3
 have CH_6 := CH_3.and cc_3_6
 refine Kf (σ := Nat) (fun i => [(0, Kh q), (4, Kh p1), (5, Kh p2), (6, Kh p4), (18, .slice fA6 3 fc6), (19, Kg 3), (20, Kg i)]) (fun i w' => ∃ r', i ≤ 3 ∧ (r' = r ∨ w6.heap.size < r') ∧ w6.heap.size ≤ w'.heap.size ∧ Bk w' p1 #[Kg o.kind, Kg o.n, .slice A o.kids.length c] 53 ∧ Bk w' p2 #[Kg x.src, Kg x.jump, Kg x.dst] 217 ∧ Bk w' p4 #[Kg (Blu.of o.n a.len b.fr).n, Kg (Blu.of o.n a.len b.fr).m, Kg (Blu.of o.n a.len b.fr).u, Kg (Blu.of o.n a.len b.fr).v, Kg (Blu.of o.n a.len b.fr).p, Kg (Blu.of o.n a.len b.fr).q] 275 ∧ BB w' q r' (((((b.region a.len).region a.len).region a.len).region a.len).adds (((Blu.of o.n a.len b.fr).first x).take i)) ∧ SlR (In w5.heap.size w6.heap.size) w' fA6 3 7 (flatS ((Blu.of o.n a.len b.fr).first x)) ∧ RdK (In lo hi) w' A o.kids ∧ StT w' ∧ Ch (QR q r) w w') (fun i => 3 - i) 0 ?_ ?_
 · exact ⟨r, (by omega), (by omega), (Nat.le_refl _), b4_6, b5_6, b6_6, bb_6, fs6, kd_6, st_6, CH_6⟩
 rintro i w7 ⟨r', hik, hr77, hsz7, b4_7, b5_7, b6_7, bb_7, fs_7, kd_7, st_7, CH_7⟩
 have lbr := bb_7.lt; have lb5 := b5_7.lt; have lb6 := b6_7.lt; have zc := CH_7.size
 have hok0 := BdOk.adds okr4 (((Blu.of o.n a.len b.fr).first x).take i)
 refine Kb (Om (Co O O) O (Wz (Qj O (fun hc1 => ?_) (fun hc1 => ?_))))
 ·
  refine Qn (Qa (Qe (Qt (Qe ?_))))
  obtain ⟨s, hs⟩ : ∃ s, ((Blu.of o.n a.len b.fr).first x)[i]? = some s := ⟨_, List.getElem?_eq_getElem (show i < ((Blu.of o.n a.len b.fr).first x).length by simp only [Blu.first, Blu.second, Blu.last, List.length_cons, List.length_nil]; omega)⟩
  have ke := sl_step fs_7 rfl hs
  refine Qb (Om (Qs υ96 ς135 O O (fs_7.ne (by omega))) O (Om (Qz ι135 ς135 O O ke.1) O (Km (Ck ζ135) O ?_)))
  intro p8 w8 b8 c8 e8 z8
  refine Ks (Cl ς135 O O O O b8) O ?_
  intro w9 c9 z9 b8_9
  refine Ka (Qb (Wu O O (Om (Qz ι135 ς135 O O (b8_9.all' O)) O ?_)))
  have cc_7_9 : Ch No w7 w9 := (Ch.then (E := No) c8 c9)
  have bb_9 := bb_7.keep cc_7_9
  have st_9 := st_7.keep cc_7_9
  refine Oq (Qi κ222 O (bb_add _ _ (((((b.region a.len).region a.len).region a.len).region a.len).adds (((Blu.of o.n a.len b.fr).first x).take i)) s _ bb_9 hok0 st_9 (first_n (by simp only [Blu.of]; omega) hs))) O ?_
  rintro _ w10 ⟨r10, rfl, bb10, y10, c10⟩
  have lb10 := bb10.lt
  have z10 := c10.size
  refine Qf (Ql (Qa (Qb ?_)))
  refine Om (Cd O O) O ?_
  refine Wu O O (Qf ?_)
  refine Ke (i + 1) ?_
  have b4_9 := b4_7.keep cc_7_9
  have b4_10 := b4_9.to c10
  have b5_9 := b5_7.keep cc_7_9
  have b5_10 := b5_9.to c10
  have b6_9 := b6_7.keep cc_7_9
  have b6_10 := b6_9.to c10
  have fs_9 := fs_7.keep cc_7_9
  have fs_10 := fs_9.to c10
  have kd_9 := kd_7.keep cc_7_9
  have kd_10 := kd_9.to c10
  have st_10 := st_9.to c10
  have CH_9 := CH_7.and cc_7_9
  have CH_10 : Ch (QR q r) w w10 := CH_9.then c10
  exact ⟨r10, (by omega), (by omega), (by omega), b4_10, b5_10, b6_10, (by rw [adds_take hs]; exact bb10), fs_10, kd_10, st_10, CH_10⟩
 refine Cn (Qk (Qk (Qy (Qa (Qe ?_)))))
 rw [adds_all (by simp only [Blu.first, List.length_cons, List.length_nil]; omega)] at bb_7
 obtain ⟨kA1, kc, ka, kr⟩ := kd_7.kid ha
 refine Kj 11 [0, 2, 4, 6, 8, 10, 12, 14, 16, 18, 21] (QR q r') ?_
 intro w11 c11 z11
 have b4_11 := b4_7.keep c11
 have b5_11 := b5_7.keep c11
 have b6_11 := b6_7.keep c11
 have fs_11 := fs_7.keep c11
 have ka_11 := ka.keep c11
 refine Wv O O (Ws (Qh υ53 O ς51 O O O) O (Wt (fun hS => Qg ι51 O ((b4_11.to hS).cell O)) O ?_))
 have kd_11 := kd_7.keep c11
 refine Ws (Qs υ51 ς53 O O (kd_11.ne (by omega))) O ?_
 refine Wt (fun hS => Qz ι53 ς53 O O (ka_11.to hS).1) O ?_
 refine Ws (Qh υ275 O ς3 O O O) O (Wt (fun hS => Qg ι3 O ((b6_11.to hS).cell O)) O (Ws (Qh υ275 O ς3 O O O) O (Wt (fun hS => Qg ι3 O ((b6_11.to hS).cell O)) O (Ws (Ct O (bld217_0_1_2w16 O)) O ?_))))
 have kr_11 := kr.keep c11
 have bb_11 := bb_7.keep c11
 have st_11 := st_7.keep c11
 refine Hq (Qi κ173 O (hA _ _ _ _ _ _ (⟨(Blu.of o.n a.len b.fr).u, 1, (Blu.of o.n a.len b.fr).p⟩) ((((((b.region a.len).region a.len).region a.len).region a.len).adds ((Blu.of o.n a.len b.fr).first x))) _ kr_11 (by omega) (by omega) (by omega) (by omega) (by omega) bb_11 (okc1) (by rw [← sla]; exact xok_one (by simp only [Blu.of]; omega) (by simp only [Blu.of]; omega) (by omega) (by simp only [Blu.of]; omega) (by simp only [Blu.of]; omega)) st_11)) O ?_
 rintro _ w12 ⟨r12, rfl, bb12, y12, c12⟩
 have lb12 := bb12.lt
 have z12 := c12.size
 have RD_12 : Ch (QR q r') w11 w12 := (Ch.refl (QR q r') w11).then c12
 refine ⟨RD_12, ?_⟩
 refine Cj (Qf (Ca (Qa (Kb (Wu O O ?_)))))
 have b6_12 := b6_11.to c12
 refine Om (Qz ι275 ς275 O O (b6_12.all' O)) O (Oq (Qi call265 O (bl_fill (Blu.of o.n a.len b.fr) _)) O ?_)
 rintro _ w13 ⟨rfl, c13⟩
 have z13 := c13.size
 have bb_13 := bb12.keep c13
 have st_12 := st_11.to c12
 have st_13 := st_12.keep c13
 refine Oq (Qi κ222 O (bb_add _ _ ((deepM a ⟨(Blu.of o.n a.len b.fr).u, 1, (Blu.of o.n a.len b.fr).p⟩ (((((b.region a.len).region a.len).region a.len).region a.len).adds ((Blu.of o.n a.len b.fr).first x)))) (((Blu.of o.n a.len b.fr)).fill) _ bb_13 (okc2) st_13 (by simp only [Blu.fill, fillS, Blu.of]; omega))) O ?_
 rintro _ w14 ⟨r14, rfl, bb14, y14, c14⟩
 have lb14 := bb14.lt
 have z14 := c14.size
 refine Wz ?_
 have kd_12 := kd_11.to c12
 have kd_13 := kd_12.keep c13
 have kd_14 := kd_13.to c14
 obtain ⟨kA1, kc, ka, kr⟩ := kd_14.kid ha
 refine Kj 11 [0, 2, 4, 6, 8, 10, 12, 14, 16, 18, 21] (QR q r14) ?_
 intro w15 c15 z15
 have b4_12 := b4_11.to c12
 have b4_13 := b4_12.keep c13
 have b4_14 := b4_13.to c14
 have b4_15 := b4_14.keep c15
 have b5_12 := b5_11.to c12
 have b5_13 := b5_12.keep c13
 have b5_14 := b5_13.to c14
 have b5_15 := b5_14.keep c15
 have b6_13 := b6_12.keep c13
 have b6_14 := b6_13.to c14
 have b6_15 := b6_14.keep c15
 have fs_12 := fs_11.to c12
 have fs_13 := fs_12.keep c13
 have fs_14 := fs_13.to c14
 have fs_15 := fs_14.keep c15
 have ka_15 := ka.keep c15
 refine Wv O O (Ws (Qh υ53 O ς51 O O O) O (Wt (fun hS => Qg ι51 O ((b4_15.to hS).cell O)) O ?_))
 have kd_15 := kd_14.keep c15
 refine Ws (Qs υ51 ς53 O O (kd_15.ne (by omega))) O ?_
 refine Wt (fun hS => Qz ι53 ς53 O O (ka_15.to hS).1) O ?_
 refine Ws (Qh υ275 O ς3 O O O) O (Wt (fun hS => Qg ι3 O ((b6_15.to hS).cell O)) O (Ws (Qh υ275 O ς3 O O O) O (Wt (fun hS => Qg ι3 O ((b6_15.to hS).cell O)) O (Ws (Ct O (bld217_0_1_2w16 O)) O ?_))))
 have kr_15 := kr.keep c15
 have bb_15 := bb14.keep c15
 have st_14 := st_13.to c14
 have st_15 := st_14.keep c15
 refine Hq (Qi κ173 O (hA _ _ _ _ _ _ (⟨(Blu.of o.n a.len b.fr).v, 1, (Blu.of o.n a.len b.fr).q⟩) (((deepM a ⟨(Blu.of o.n a.len b.fr).u, 1, (Blu.of o.n a.len b.fr).p⟩ (((((b.region a.len).region a.len).region a.len).region a.len).adds ((Blu.of o.n a.len b.fr).first x))).add (Blu.of o.n a.len b.fr).fill)) _ kr_15 (by omega) (by omega) (by omega) (by omega) (by omega) bb_15 (okc2f) (by rw [← sla]; exact xok_one (by simp only [Blu.of]; omega) (by simp only [Blu.of]; omega) (by omega) (by simp only [Blu.of]; omega) (by simp only [Blu.of]; omega)) st_15)) O ?_
 rintro _ w16 ⟨r16, rfl, bb16, y16, c16⟩
 have lb16 := bb16.lt
 have z16 := c16.size
 have RD_16 : Ch (QR q r14) w15 w16 := (Ch.refl (QR q r14) w15).then c16
 refine ⟨RD_16, ?_⟩
 refine Cj (Qf (Ca (Qa (Qe (Kb ?_)))))
 have b6_16 := b6_15.to c16
 refine Om (Qz ι275 ς275 O O (b6_16.all' O)) O ?_
 refine Oq (Qi call266 O (bl_second (Blu.of o.n a.len b.fr) _ (by simp only [Blu.of]; omega))) O ?_
 rintro _ w17 ⟨fA17, fc17, rfl, fs17, c17⟩
 have z17 := c17.size
 refine Om (Cs υ96 O) O (Wu O O (Ka (Qt ?_)))
 have b4_16 := b4_15.to c16
 have b4_17 := b4_16.keep c17
 have b5_16 := b5_15.to c16
 have b5_17 := b5_16.keep c17
 have b6_17 := b6_16.keep c17
 have bb_17 := bb16.keep c17
 have kd_16 := kd_15.to c16
 have kd_17 := kd_16.keep c17
 have st_16 := st_15.to c16
 have st_17 := st_16.keep c17
 have CH_11 := CH_7.and c11
 have CH_12 : Ch (QR q r) w w12 := CH_11.then c12
 have CH_13 := CH_12.and c13
 have CH_14 : Ch (QR q r) w w14 := CH_13.then c14
 have CH_15 := CH_14.and c15
 have CH_16 : Ch (QR q r) w w16 := CH_15.then c16
 have CH_17 := CH_16.and c17
 refine Kf (σ := Nat) (fun i => [(0, Kh q), (4, Kh p1), (5, Kh p2), (6, Kh p4), (55, .slice fA17 2 fc17), (56, Kg 2), (57, Kg i)]) (fun i w' => ∃ r', i ≤ 2 ∧ (r' = r16 ∨ w17.heap.size < r') ∧ w17.heap.size ≤ w'.heap.size ∧ Bk w' p1 #[Kg o.kind, Kg o.n, .slice A o.kids.length c] 53 ∧ Bk w' p2 #[Kg x.src, Kg x.jump, Kg x.dst] 217 ∧ Bk w' p4 #[Kg (Blu.of o.n a.len b.fr).n, Kg (Blu.of o.n a.len b.fr).m, Kg (Blu.of o.n a.len b.fr).u, Kg (Blu.of o.n a.len b.fr).v, Kg (Blu.of o.n a.len b.fr).p, Kg (Blu.of o.n a.len b.fr).q] 275 ∧ BB w' q r' ((deepM a ⟨(Blu.of o.n a.len b.fr).v, 1, (Blu.of o.n a.len b.fr).q⟩ ((deepM a ⟨(Blu.of o.n a.len b.fr).u, 1, (Blu.of o.n a.len b.fr).p⟩ (((((b.region a.len).region a.len).region a.len).region a.len).adds ((Blu.of o.n a.len b.fr).first x))).add (Blu.of o.n a.len b.fr).fill)).adds ((Blu.of o.n a.len b.fr).second.take i)) ∧ SlR (In w16.heap.size w17.heap.size) w' fA17 2 7 (flatS (Blu.of o.n a.len b.fr).second) ∧ RdK (In lo hi) w' A o.kids ∧ StT w' ∧ Ch (QR q r) w w') (fun i => 2 - i) 0 ?_ ?_
 · exact ⟨r16, (by omega), (by omega), (Nat.le_refl _), b4_17, b5_17, b6_17, bb_17, fs17, kd_17, st_17, CH_17⟩
 rintro i w18 ⟨r', hik, hr718, hsz18, b4_18, b5_18, b6_18, bb_18, fs_18, kd_18, st_18, CH_18⟩
 have lbr := bb_18.lt; have lb5 := b5_18.lt; have lb6 := b6_18.lt; have zc := CH_18.size
 have hok2 := BdOk.adds okc3 ((Blu.of o.n a.len b.fr).second.take i)
 refine Kb (Om (Co O O) O (Wz (Qj O (fun hc2 => ?_) (fun hc2 => ?_))))
 ·
  refine Qn (Qa (Qe (Qt (Qe ?_))))
  obtain ⟨s, hs⟩ : ∃ s, (Blu.of o.n a.len b.fr).second[i]? = some s := ⟨_, List.getElem?_eq_getElem (show i < (Blu.of o.n a.len b.fr).second.length by simp only [Blu.first, Blu.second, Blu.last, List.length_cons, List.length_nil]; omega)⟩
  have ke := sl_step fs_18 rfl hs
  refine Qb (Om (Qs υ96 ς135 O O (fs_18.ne (by omega))) O (Om (Qz ι135 ς135 O O ke.1) O (Km (Ck ζ135) O ?_)))
  intro p19 w19 b10 c19 e19 z19
  refine Ks (Cl ς135 O O O O b10) O ?_
  intro w20 c20 z20 b10_20
  refine Ka (Qb (Wu O O (Om (Qz ι135 ς135 O O (b10_20.all' O)) O ?_)))
  have cc_18_20 : Ch No w18 w20 := (Ch.then (E := No) c19 c20)
  have bb_20 := bb_18.keep cc_18_20
  have st_20 := st_18.keep cc_18_20
  refine Oq (Qi κ222 O (bb_add _ _ ((deepM a ⟨(Blu.of o.n a.len b.fr).v, 1, (Blu.of o.n a.len b.fr).q⟩ ((deepM a ⟨(Blu.of o.n a.len b.fr).u, 1, (Blu.of o.n a.len b.fr).p⟩ (((((b.region a.len).region a.len).region a.len).region a.len).adds ((Blu.of o.n a.len b.fr).first x))).add (Blu.of o.n a.len b.fr).fill)).adds ((Blu.of o.n a.len b.fr).second.take i)) s _ bb_20 hok2 st_20 (second_n (by simp only [Blu.of]; omega) hs))) O ?_
  rintro _ w21 ⟨r21, rfl, bb21, y21, c21⟩
  have lb21 := bb21.lt
  have z21 := c21.size
  refine Qf (Ql (Qa (Qb ?_)))
  refine Om (Cd O O) O ?_
  refine Wu O O (Qf ?_)
  refine Ke (i + 1) ?_
  have b4_20 := b4_18.keep cc_18_20
  have b4_21 := b4_20.to c21
  have b5_20 := b5_18.keep cc_18_20
  have b5_21 := b5_20.to c21
  have b6_20 := b6_18.keep cc_18_20
  have b6_21 := b6_20.to c21
  have fs_20 := fs_18.keep cc_18_20
  have fs_21 := fs_20.to c21
  have kd_20 := kd_18.keep cc_18_20
  have kd_21 := kd_20.to c21
  have st_21 := st_20.to c21
  have CH_20 := CH_18.and cc_18_20
  have CH_21 : Ch (QR q r) w w21 := CH_20.then c21
  exact ⟨r21, (by omega), (by omega), (by omega), b4_21, b5_21, b6_21, (by rw [adds_take hs]; exact bb21), fs_21, kd_21, st_21, CH_21⟩
 refine Cn (Qk (Qk (Qy (Qa (Qe ?_)))))
 rw [adds_all (by simp only [Blu.second, List.length_cons, List.length_nil]; omega)] at bb_18
 obtain ⟨kA1, kc, ka, kr⟩ := kd_18.kid ha
 refine Kj 11 [0, 2, 4, 6, 8, 10, 12, 14, 16, 18, 21] (QR q r') ?_
 intro w22 c22 z22
 have b4_22 := b4_18.keep c22
 have b5_22 := b5_18.keep c22
 have b6_22 := b6_18.keep c22
 have fs_22 := fs_18.keep c22
 have ka_22 := ka.keep c22
 refine Wv O O (Ws (Qh υ53 O ς51 O O O) O (Wt (fun hS => Qg ι51 O ((b4_22.to hS).cell O)) O ?_))
 have kd_22 := kd_18.keep c22
 refine Ws (Qs υ51 ς53 O O (kd_22.ne (by omega))) O ?_
 refine Wt (fun hS => Qz ι53 ς53 O O (ka_22.to hS).1) O ?_
 refine Ws (Qh υ275 O ς3 O O O) O (Wt (fun hS => Qg ι3 O ((b6_22.to hS).cell O)) O (Ws (Qh υ275 O ς3 O O O) O (Wt (fun hS => Qg ι3 O ((b6_22.to hS).cell O)) O (Ws (Ct O (bld217_0_1_2w16 O)) O ?_))))
 have kr_22 := kr.keep c22
 have bb_22 := bb_18.keep c22
 have st_22 := st_18.keep c22
 refine Hq (Qi κ173 O (hA _ _ _ _ _ _ (⟨(Blu.of o.n a.len b.fr).p, 1, (Blu.of o.n a.len b.fr).u⟩) (((deepM a ⟨(Blu.of o.n a.len b.fr).v, 1, (Blu.of o.n a.len b.fr).q⟩ ((deepM a ⟨(Blu.of o.n a.len b.fr).u, 1, (Blu.of o.n a.len b.fr).p⟩ (((((b.region a.len).region a.len).region a.len).region a.len).adds ((Blu.of o.n a.len b.fr).first x))).add (Blu.of o.n a.len b.fr).fill)).adds (Blu.of o.n a.len b.fr).second)) _ kr_22 (by omega) (by omega) (by omega) (by omega) (by omega) bb_22 (okc3s) (by rw [← sla]; exact xok_one (by simp only [Blu.of]; omega) (by simp only [Blu.of]; omega) (by omega) (by simp only [Blu.of]; omega) (by simp only [Blu.of]; omega)) st_22)) O ?_
 rintro _ w23 ⟨r23, rfl, bb23, y23, c23⟩
 have lb23 := bb23.lt
 have z23 := c23.size
 have RD_23 : Ch (QR q r') w22 w23 := (Ch.refl (QR q r') w22).then c23
 refine ⟨RD_23, ?_⟩
 refine Cj (Qf (Ca (Qa (Kb ?_))))
 have b6_23 := b6_22.to c23
 refine Om (Qz ι275 ς275 O O (b6_23.all' O)) O ?_
 have b5_23 := b5_22.to c23
 refine Om (Qz ι217 ς217 O O (b5_23.all' O)) O ?_
 refine Oq (Qi call267 O (bl_last (Blu.of o.n a.len b.fr) x _ (by simp only [Blu.of]; omega))) O ?_
 rintro _ w24 ⟨fA24, fc24, rfl, fs24, c24⟩
 have z24 := c24.size
 refine Om (Cs υ96 O) O (Wu O O (Ka (Qt ?_)))
 have b4_23 := b4_22.to c23
 have b4_24 := b4_23.keep c24
 have b5_24 := b5_23.keep c24
 have b6_24 := b6_23.keep c24
 have bb_24 := bb23.keep c24
 have kd_23 := kd_22.to c23
 have kd_24 := kd_23.keep c24
 have st_23 := st_22.to c23
 have st_24 := st_23.keep c24
 have CH_22 := CH_18.and c22
 have CH_23 : Ch (QR q r) w w23 := CH_22.then c23
 have CH_24 := CH_23.and c24
 refine Kf (σ := Nat) (fun i => [(0, Kh q), (4, Kh p1), (5, Kh p2), (6, Kh p4), (78, .slice fA24 4 fc24), (79, Kg 4), (80, Kg i)]) (fun i w' => ∃ r', i ≤ 4 ∧ (r' = r23 ∨ w24.heap.size < r') ∧ w24.heap.size ≤ w'.heap.size ∧ Bk w' p1 #[Kg o.kind, Kg o.n, .slice A o.kids.length c] 53 ∧ Bk w' p2 #[Kg x.src, Kg x.jump, Kg x.dst] 217 ∧ Bk w' p4 #[Kg (Blu.of o.n a.len b.fr).n, Kg (Blu.of o.n a.len b.fr).m, Kg (Blu.of o.n a.len b.fr).u, Kg (Blu.of o.n a.len b.fr).v, Kg (Blu.of o.n a.len b.fr).p, Kg (Blu.of o.n a.len b.fr).q] 275 ∧ BB w' q r' ((deepM a ⟨(Blu.of o.n a.len b.fr).p, 1, (Blu.of o.n a.len b.fr).u⟩ ((deepM a ⟨(Blu.of o.n a.len b.fr).v, 1, (Blu.of o.n a.len b.fr).q⟩ ((deepM a ⟨(Blu.of o.n a.len b.fr).u, 1, (Blu.of o.n a.len b.fr).p⟩ (((((b.region a.len).region a.len).region a.len).region a.len).adds ((Blu.of o.n a.len b.fr).first x))).add (Blu.of o.n a.len b.fr).fill)).adds (Blu.of o.n a.len b.fr).second)).adds (((Blu.of o.n a.len b.fr).last x).take i)) ∧ SlR (In w23.heap.size w24.heap.size) w' fA24 4 7 (flatS ((Blu.of o.n a.len b.fr).last x)) ∧ RdK (In lo hi) w' A o.kids ∧ StT w' ∧ Ch (QR q r) w w') (fun i => 4 - i) 0 ?_ ?_
 · exact ⟨r23, (by omega), (by omega), (Nat.le_refl _), b4_24, b5_24, b6_24, bb_24, fs24, kd_24, st_24, CH_24⟩
 rintro i w25 ⟨r', hik, hr725, hsz25, b4_25, b5_25, b6_25, bb_25, fs_25, kd_25, st_25, CH_25⟩
 have lbr := bb_25.lt; have lb5 := b5_25.lt; have lb6 := b6_25.lt; have zc := CH_25.size
 have hok4 := BdOk.adds okc4 (((Blu.of o.n a.len b.fr).last x).take i)
 refine Kb (Om (Co O O) O (Wz (Qj O (fun hc3 => ?_) (fun hc3 => ?_))))
 ·
  refine Qn (Qa (Qe (Qt (Qe ?_))))
  obtain ⟨s, hs⟩ : ∃ s, ((Blu.of o.n a.len b.fr).last x)[i]? = some s := ⟨_, List.getElem?_eq_getElem (show i < ((Blu.of o.n a.len b.fr).last x).length by simp only [Blu.first, Blu.second, Blu.last, List.length_cons, List.length_nil]; omega)⟩
  have ke := sl_step fs_25 rfl hs
  refine Qb (Om (Qs υ96 ς135 O O (fs_25.ne (by omega))) O (Om (Qz ι135 ς135 O O ke.1) O (Km (Ck ζ135) O ?_)))
  intro p26 w26 b12 c26 e26 z26
  refine Ks (Cl ς135 O O O O b12) O ?_
  intro w27 c27 z27 b12_27
  refine Ka (Qb (Wu O O (Om (Qz ι135 ς135 O O (b12_27.all' O)) O ?_)))
  have cc_25_27 : Ch No w25 w27 := (Ch.then (E := No) c26 c27)
  have bb_27 := bb_25.keep cc_25_27
  have st_27 := st_25.keep cc_25_27
  refine Oq (Qi κ222 O (bb_add _ _ ((deepM a ⟨(Blu.of o.n a.len b.fr).p, 1, (Blu.of o.n a.len b.fr).u⟩ ((deepM a ⟨(Blu.of o.n a.len b.fr).v, 1, (Blu.of o.n a.len b.fr).q⟩ ((deepM a ⟨(Blu.of o.n a.len b.fr).u, 1, (Blu.of o.n a.len b.fr).p⟩ (((((b.region a.len).region a.len).region a.len).region a.len).adds ((Blu.of o.n a.len b.fr).first x))).add (Blu.of o.n a.len b.fr).fill)).adds (Blu.of o.n a.len b.fr).second)).adds (((Blu.of o.n a.len b.fr).last x).take i)) s _ bb_27 hok4 st_27 (last_n (by simp only [Blu.of]; omega) hs))) O ?_
  rintro _ w28 ⟨r28, rfl, bb28, y28, c28⟩
  have lb28 := bb28.lt
  have z28 := c28.size
  refine Qf (Ql (Qa (Qb ?_)))
  refine Om (Cd O O) O ?_
  refine Wu O O (Qf ?_)
  refine Ke (i + 1) ?_
  have b4_27 := b4_25.keep cc_25_27
  have b4_28 := b4_27.to c28
  have b5_27 := b5_25.keep cc_25_27
  have b5_28 := b5_27.to c28
  have b6_27 := b6_25.keep cc_25_27
  have b6_28 := b6_27.to c28
  have fs_27 := fs_25.keep cc_25_27
  have fs_28 := fs_27.to c28
  have kd_27 := kd_25.keep cc_25_27
  have kd_28 := kd_27.to c28
  have st_28 := st_27.to c28
  have CH_27 := CH_25.and cc_25_27
  have CH_28 : Ch (QR q r) w w28 := CH_27.then c28
  exact ⟨r28, (by omega), (by omega), (by omega), b4_28, b5_28, b6_28, (by rw [adds_take hs]; exact bb28), fs_28, kd_28, st_28, CH_28⟩
 refine Cn (Qk (Qk (Qy (Rp O (Kx ?_)))))
 rw [adds_all (by simp only [Blu.last, List.length_cons, List.length_nil]; omega)] at bb_25
 exact ⟨_, O, bb_25, by omega, CH_25⟩
end Go.Tm
