/- Lemmas of this claim, joined by program. Walks of functions: the cheapest order. The planner's choice, whole. Calls that turn rows of one element type alone, from a block on (the shelf's contracts on rows that a call owns). An order's text, in plain Lean. The contracts of library functions at this program, laid by the tool of the kit Walks of functions: strconv.AppendInt at base 10. Walks of functions: an order's text. Steps of programs, in plain Lean: what form asks, and acts. Conditions: each lemma names its own. -/
import Derived.Test.YtpfglkohcfjelaaGreatDoorJ02
import Derived.Lib.OthersKept
import Derived.Lib.AppendStr
import Derived.Laws.IdiomStrings
import Derived.Test.YtpfglkohcfjelaaGreatDoorJ01
import Derived.Lib.AppendIntMem
import Derived.Lib.ItoaLen
import Derived.Shelf.Strconv.Itoa0
import Derived.Shelf.Strconv.Itoa1
import Derived.Shelf.LaysM
import Derived.Shelf.Strconv.Itoa2
import Derived.Shelf.Strconv.AppendUint10
import Derived.Shelf.Strconv.AppendInt10
import Derived.Shelf.Strconv.AppendIntPublic10
import Derived.Shelf.Slices.Turned
import Derived.Test.YtpfglkohcfjelaaGreatDoorProg
set_option linter.all false
namespace Go.Tm
set_option maxRecDepth 100000
open Go.RowKit Go.Proofs Go.Proofs.Tryz
abbrev SU (base hi : Nat) (U : Nat → Prop) : Nat → Prop := fun x => base ≤ x ∧ x < hi ∧ ¬ U x
def Ent (P : Pol) (S : Nat → Prop) (w : World) (k : Int) (v : Value) : Prop := ∃ r A c, Best P k r ∧ -1 ≤ r.2 ∧ r.2 ≤ 4611686018427387905 ∧ v = .agg (pricedC r A c) ∧ RdK S w A r.1.kids
theorem Ent.to {P : Pol} {S S' D : Nat → Prop} {w w' : World} {k : Int} {v : Value} (h : Ent P S w k v) (c : Ch D w w') (hd : ∀ q, q < w.heap.size → S q → isC w q → ¬ D q) (hs : ∀ q, S q → S' q := by first | exact fun _ _ _ _ => id | (intro q h1 h2 hx h3; omega)) : Ent P S' w' k v := by
 obtain ⟨r, A, c', h1, h2, h3, h4, h5⟩ := h
 exact ⟨r, A, c', h1, h2, h3, h4, (h5.to c hd).weak hs⟩
def MapOk (P : Pol) (U : Nat → Prop) (base mb : Nat) (w : World) : Prop := ∃ mm : List (Int × Value), MpG (Value.int .i64 ·) w mb mm ∧ ∀ x ∈ mm, Ent P (SU base w.heap.size U) w x.1 x.2
theorem MapOk.to {P : Pol} {U D : Nat → Prop} {base mb : Nat} {w w' : World} (h : MapOk P U base mb w) (c : Ch D w w') (hm : ¬ D mb) (hd : ∀ q, q < w.heap.size → SU base w.heap.size U q → isC w q → ¬ D q := by first | exact fun _ _ _ _ => id | (intro q h1 h2 hx h3; omega)) : MapOk P U base mb w' := by
 obtain ⟨mm, h1, h2⟩ := h
 exact ⟨mm, h1.to c hm, fun x hx => (h2 x hx).to c hd fun q hq => ⟨hq.1, Nat.lt_of_lt_of_le hq.2.1 c.size, hq.2.2⟩⟩
theorem MapOk.keep {P : Pol} {U : Nat → Prop} {base mb : Nat} {w w' : World} (h : MapOk P U base mb w) (c : Ch No w w') : MapOk P U base mb w' := h.to c id fun _ _ _ _ => id
theorem MapOk.lt {P : Pol} {U : Nat → Prop} {base mb : Nat} {w : World} (h : MapOk P U base mb w) : mb < w.heap.size := by
 obtain ⟨mm, h1, _⟩ := h
 exact h1.lt
theorem MapOk.more {P : Pol} {U U' : Nat → Prop} {base mb : Nat} {w : World} (h : MapOk P U base mb w) (hU : ∀ x, x < w.heap.size → U' x → U x) : MapOk P U' base mb w := by
 obtain ⟨mm, h1, h2⟩ := h
 exact ⟨mm, h1, fun x hx => (h2 x hx).to (Ch.refl No w) (fun _ _ _ _ => id) fun q hq => ⟨hq.1, hq.2.1, fun hu => hq.2.2 (hU q hq.2.1 hu)⟩⟩
theorem MapOk.put {P : Pol} {U : Nat → Prop} {base mb : Nat} {w w' : World} (c : Ch (Is mb) w w') {mm : List (Int × Value)} {k : Int} {v : Value} (h1 : MpG (Value.int .i64 ·) w' mb (mset1 mm k v)) (h0 : MpG (Value.int .i64 ·) w mb mm) (h2 : ∀ x ∈ mm, Ent P (SU base w.heap.size U) w x.1 x.2) (hv : Ent P (SU base w.heap.size U) w k v) (hb : mb < base) : MapOk P U base mb w' := by
 have hd : ∀ q, q < w.heap.size → SU base w.heap.size U q → isC w q → ¬ Is mb q := fun q _ hq _ e => by have := hq.1; have : q = mb := e; omega
 have hs : ∀ q, SU base w.heap.size U q → SU base w'.heap.size U q := fun q hq => ⟨hq.1, Nat.lt_of_lt_of_le hq.2.1 c.size, hq.2.2⟩
 refine ⟨_, h1, fun x hx => ?_⟩
 rcases mem_mset1 hx with rfl | hx
 · exact hv.to c hd hs
 · exact (h2 x hx).to c hd hs
theorem MapOk.toG {P : Pol} {U : Nat → Prop} {base mb B : Nat} {w w' : World} (g : Gn B w w') (h : MapOk P U base mb w) (hB : mb < B) : MapOk P U base mb w' := h.to g (fun h => by have := h.1; omega) fun _ _ _ hx => notC hx
def CheapOk (P : Pol) (q mb base : Nat) (n : Int) : Prop := ∀ (U : Nat → Prop) (w : World), Chr w q mb P → MapOk P U base mb w → q < base → base ≤ w.heap.size → (∀ x, U x → x < w.heap.size) →
 Calls prog 127 #[Kh q, Kg n] w (Ret fun v w' => Ent P (SU base w'.heap.size U) w' n v ∧ MapOk P U base mb w' ∧ Ch (Is mb) w w')
abbrev UX (U : Nat → Prop) (a b : Nat) : Nat → Prop := fun x => U x ∨ x = a ∨ x = b
theorem fresh_SU {base hi lo hi' a b : Nat} {U : Nat → Prop} (h1 : base ≤ lo) (h2 : hi' ≤ hi) (hU : ∀ x, U x → x < lo) (ha : a < lo := by omega) (hb : b < lo := by omega) : ∀ x, In lo hi' x → SU base hi (UX U a b) x :=
 fun x h => ⟨by omega, by omega, fun hu => by
  rcases hu with hu | hu | hu
  · have := hU x hu; omega
  · omega
  · omega⟩
theorem grow_SU {base hi hi' : Nat} {U : Nat → Prop} (h : hi ≤ hi' := by omega) : ∀ x, SU base hi U x → SU base hi' U x := fun _ hx => ⟨hx.1, Nat.lt_of_lt_of_le hx.2.1 h, hx.2.2⟩
structure CF (P : Pol) (q mb : Nat) (n : Int) (p1 p2 p3 p7 p9 : Nat) (w : World) : Prop where
  b2 : Bk w p1 #[.pointer (some ⟨q, 0, none⟩)] 150
  b3 : Bk w p2 #[.int .i64 n] 3
  b4 : Bk w p3 #[.int .i64 0, .int .i64 0, .slice none 0 0, .int .i64 0] 149
  b8 : Bk w p9 #[.func (.func 153) #[] #[.pointer (some ⟨p7, 0, none⟩)]] 196
  ch : Chr w q mb P
theorem CF.toG {B : Nat} {w w' : World} (g : Gn B w w') {P : Pol} {q mb : Nat} {n : Int} {p1 p2 p3 p7 p9 : Nat} (h : CF P q mb n p1 p2 p3 p7 p9 w) : CF P q mb n p1 p2 p3 p7 p9 w' := ⟨h.b2.toG g, h.b3.toG g, h.b4.toG g, h.b8.toG g, h.ch.toG g⟩
def bestI (P : Pol) (n : Int) (i : Nat) : Ord × Int := ((headsM P n).take i).foldl (fun b o => offerM b o (lcost o.kind o.n)) (.mk 0 0 [], -1)
theorem bestI_succ {P : Pol} {n : Int} {i : Nat} {o : Ord} (h : (headsM P n)[i]? = some o) : bestI P n (i + 1) = offerM (bestI P n i) o (lcost o.kind o.n) := by
 unfold bestI
 rw [List.take_add_one, h]
 simp
theorem bestI_all {P : Pol} {n : Int} : bestI P n (headsM P n).length = best0 P n := by unfold bestI best0; rw [List.take_length]
def bestJ (P : Pol) (n a : Int) (r b : Ord × Int) (i : Nat) : Ord × Int := ((headsM P a).take i).foldl (offerH n a r) b
theorem bestJ_succ {P : Pol} {n a : Int} {r b : Ord × Int} {i : Nat} {o : Ord} (h : (headsM P a)[i]? = some o) : bestJ P n a r b (i + 1) = offerH n a r (bestJ P n a r b i) o := by
 unfold bestJ
 rw [List.take_add_one, h]
 simp
theorem bestJ_all {P : Pol} {n a : Int} {r b : Ord × Int} : bestJ P n a r b (headsM P a).length = (headsM P a).foldl (offerH n a r) b := by unfold bestJ; rw [List.take_length]
theorem offerM_bd {b : Ord × Int} {o : Ord} {c : Int} (h1 : -1 ≤ b.2 ∧ b.2 ≤ 4611686018427387905) (h2 : 0 ≤ c ∧ c ≤ 4611686018427387905) : -1 ≤ (offerM b o c).2 ∧ (offerM b o c).2 ≤ 4611686018427387905 := by
 unfold offerM
 split
 · exact ⟨by simp only; omega, h2.2⟩
 · exact h1
theorem hardM_le {P : Pol} {l : List Int} {n : Int} (h : hardM P l n = true) : n ≤ 8192 := by
 unfold hardM at h
 simp only [Bool.and_eq_true, decide_eq_true_eq] at h
 exact h.2
theorem heads_len (P : Pol) (a : Int) : (headsM P a).length ≤ 2 := by
 unfold headsM
 rw [List.length_append]
 split <;> split <;> simp
theorem Ent.of {P : Pol} {S : Nat → Prop} {w : World} {k : Int} {r : Ord × Int} {A : Option Addr} {c p : Nat} {t : TypeId} (_ : Bk w p (pricedC r A c) t) (h1 : Best P k r) (h2 : -1 ≤ r.2 ∧ r.2 ≤ 4611686018427387905) (h3 : RdK S w A r.1.kids) : Ent P S w k (.agg (pricedC r A c)) := ⟨r, A, c, h1, h2.1, h2.2, rfl, h3⟩
theorem build149w8 {ps : List (Nat × Value)} {cs : Array Value} (h : Instr.fill (fun i => ([(0, 3), (3, 1)] : List (Nat × Nat))[i]?) #[.int .i64 0, .int .i64 0, .slice none 0 0, .int .i64 0] ps = some cs) (w : World) : (Instr.build 149 ps.toArray).run prog w = .ok (.agg cs) w := by
 simp [Instr.build, runUnderlying149, ζ149, ς3, ς53, Value.cells, h]
theorem bld149_1w8 {v1 : Value} (h : [v1].all Value.oneCell' = true) : BLD prog 149 [(1, v1)] #[.int .i64 0, .int .i64 0, .slice none 0 0, v1] := build149w8 (fill1 _ _ _ h rfl)
theorem cheapest_hit (P : Pol) (q mb base : Nat) (n : Int) (hn : 1 ≤ n) (hn2 : n ≤ 16384) (U : Nat → Prop) (w : World) (ch : Chr w q mb P) (mk0 : MapOk P U base mb w) (hq : q < base) (hb : base ≤ w.heap.size) (hU : ∀ x, U x → x < w.heap.size) (mm : List (Int × Value)) (mp : MpG (Value.int .i64 ·) w mb mm) (r : Ord × Int) (A : Option Addr) (c : Nat) (hf : mfind mm n = some (.agg (pricedC r A c))) (hr1 : Best P n r) (hr2 : -1 ≤ r.2) (hr3 : r.2 ≤ 4611686018427387905) (rd : RdK (SU base w.heap.size U) w A r.1.kids) :
  Calls prog 127 #[Kh q, Kg n] w (Ret (fun v w' => Ent P (SU base w'.heap.size U) w' n v ∧ MapOk P U base mb w' ∧ Ch (Is mb) w w')) := by
 have lq := ch.lt; have lm := mk0.lt
 obtain ⟨FA, fc, S, bq, sl, hS, hfl, hqm⟩ := id ch
 refine Kv func127 O ntmps127 O (Kb (Km (Cp O) O ?_))
 intro p1 w1 b2 c1 e1 z1
 refine Km (Cp O) O ?_
 intro p2 w2 b3 c2 e2 z2
 refine Km (Ck ζ149) O ?_
 intro p3 w3 b4 c3 e3 z3
 refine Wz (Qe (Kj 11 [0, 2, 4, 6, 8, 10, 12, 14, 16, 19, 21] (No) ?_))
 intro w4 c4 z4
 have bq_4 := bq.keep (c1.trans (c2.trans (c3.trans c4)))
 have sl_4 := sl.keep (c1.trans (c2.trans (c3.trans c4)))
 have mp_4 := mp.keep (c1.trans (c2.trans (c3.trans c4)))
 have b2_4 := b2.keep (c2.trans (c3.trans c4))
 have b3_4 := b3.keep (c3.trans c4)
 have b4_4 := b4.keep c4
 refine Wt (fun hS => Qg ι150 O ((b2_4.keep hS).cell O)) O (Ws (Qq O) O (Ws (Qh υ194 O ς192 O O O) O (Wt (fun hS => Qg ι192 O ((bq_4.keep hS).cell O)) O (Wt (fun hS => Qg ι3 O ((b3_4.keep hS).cell O)) O (Wt (fun hS => Rn.lookup_some υ192 (KeyK.int υ3) O O (mp_4.keep hS) hf) O (Wv O O (Ws (Qu O O) O ?_)))))))
 refine Ws (Qu O O) O (Ko (Ck ζ149) O ?_)
 intro p5 w5 b5 c5 e5 z5
 have RD_5 := (Ch.refl (No) w4).and c5
 refine ⟨RD_5, ?_⟩
 refine Kt (Cl ς149 O O O O b5) O ?_
 intro w6 c6 z6 b5_6
 have RD_6 : Ch (No) w4 w6 := RD_5.then c6
 refine ⟨RD_6, ?_⟩
 refine Cj (Ww O O (Qf (Ca (Qa (Kb (Wu O O ?_))))))
 refine Ka (Rd O (Kb (Om (Qz ι149 ς149 O O (b5_6.all' O)) O ?_)))
 have cc_4_6 : Ch No w4 w6 := (Ch.then (E := No) c5 c6)
 have b4_6 := b4_4.keep cc_4_6
 refine Ks (Cl ς149 O O O O b4_6) O ?_
 intro w7 c7 z7 b4_7
 refine Ka (Qp (Qw (VQ.toM (Rl O O ι149 ς149 O (b4_7.all' O) (Kx ?_)))))
 have cc_0_7 : Ch No w w7 := (Ch.then (E := No) (Ch.then (E := No) ((((c1.and c2).and c3).and c4).and c5) c6) c7)
 have CH_7 := (Ch.refl (Is mb) w).and cc_0_7
 have zz := CH_7.size
 have rd_7 := rd.keep cc_0_7
 have mk_7 := mk0.keep cc_0_7
 exact ⟨⟨r, A, c, hr1, hr2, hr3, O, rd_7.weak fun x h => ⟨h.1, by omega, h.2.2⟩⟩, mk_7, CH_7⟩
set_option maxHeartbeats 4000000 in
theorem cheapest_miss (P : Pol) (q mb base : Nat) (n : Int) (hn : 1 ≤ n) (hn2 : n ≤ 16384) (U : Nat → Prop) (w : World) (ch : Chr w q mb P) (mk0 : MapOk P U base mb w) (hq : q < base) (hb : base ≤ w.heap.size) (hU : ∀ x, U x → x < w.heap.size) (mm : List (Int × Value)) (mp : MpG (Value.int .i64 ·) w mb mm) (hf : mfind mm n = none) (ih1 : ∀ a : Int, 2 ≤ a → a < n → n % a = 0 → CheapOk P q mb base (n / a)) (ih2 : hardM P (facs n) n = true → CheapOk P q mb base (up2 (2 * n - 1))) :
  Calls prog 127 #[Kh q, Kg n] w (Ret (fun v w' => Ent P (SU base w'.heap.size U) w' n v ∧ MapOk P U base mb w' ∧ Ch (Is mb) w w')) := by
 have lq := ch.lt; have lm := mk0.lt; have hhl := heads_len P n
 obtain ⟨FA, fc, S, bq, sl, hS, hfl, hqm⟩ := id ch
 refine Kv func127 O ntmps127 O (Kb (Km (Cp O) O ?_))
 intro p1 w1 b2 c1 e1 z1
 refine Km (Cp O) O ?_
 intro p2 w2 b3 c2 e2 z2
 refine Km (Ck ζ149) O ?_
 intro p3 w3 b4 c3 e3 z3
 refine Wz (Qe (Kj 11 [0, 2, 4, 6, 8, 10, 12, 14, 16, 19, 21] (No) ?_))
 intro w4 c4 z4
 have bq_4 := bq.keep (c1.trans (c2.trans (c3.trans c4)))
 have sl_4 := sl.keep (c1.trans (c2.trans (c3.trans c4)))
 have mp_4 := mp.keep (c1.trans (c2.trans (c3.trans c4)))
 have b2_4 := b2.keep (c2.trans (c3.trans c4))
 have b3_4 := b3.keep (c3.trans c4)
 have b4_4 := b4.keep c4
 refine Wt (fun hS => Qg ι150 O ((b2_4.keep hS).cell O)) O (Ws (Qq O) O (Ws (Qh υ194 O ς192 O O O) O (Wt (fun hS => Qg ι192 O ((bq_4.keep hS).cell O)) O (Wt (fun hS => Qg ι3 O ((b3_4.keep hS).cell O)) O (Wt (fun hS => Rn.lookup_none υ192 (KeyK.int υ3) ζ149 O O (mp_4.keep hS) hf) O (Wv O O (Ws (Qu O O) O ?_)))))))
 refine Ws (Qu O O) O (Ko (Ck ζ149) O ?_)
 intro p5 w5 b5 c5 e5 z5
 have RD_5 := (Ch.refl (No) w4).and c5
 refine ⟨RD_5, ?_⟩
 refine Kt (Cl ς149 O O O O b5) O ?_
 intro w6 c6 z6 b5_6
 have RD_6 : Ch (No) w4 w6 := RD_5.then c6
 refine ⟨RD_6, ?_⟩
 refine Cj (Ww O O (Qf (Ca (Qa (Kb (Wu O O ?_))))))
 refine Ka (Cc O (Qn (Qa (Kb (Om (Ct O (bld149_1w8 O)) O ?_)))))
 refine Km (Ck ζ149) O ?_
 intro p7 w7 b7 c7 e7 z7
 refine Ks (Cl ς149 O O O O b7) O ?_
 intro w8 c8 z8 b7_8
 refine Wy (Om (Rn.func O O) O (Km (Ck zeroValue196) O ?_))
 intro p9 w9 b8 c9 e9 z9
 refine Ks (Rk sizeOf196 O O O O b8 O) O ?_
 intro w10 c10 z10 b8_10
 refine Wz (Qe ?_)
 have mk0' : MapOk P (UX U p3 p7) base mb w := mk0.more (fun x hx hu => by rcases hu with hu | hu | hu; exact hu; omega; omega)
 refine Qb ?_
 have cc_4_10 : Ch No w4 w10 := (Ch.then (E := No) ((Ch.then (E := No) ((Ch.then (E := No) c5 c6).and c7) c8).and c9) c10)
 have b2_10 := b2_4.keep cc_4_10
 refine Om (Qg ι150 O (b2_10.cell O)) O ?_
 have b3_10 := b3_4.keep cc_4_10
 refine Om (Qg ι3 O (b3_10.cell O)) O ?_
 have cc_0_10 : Ch No w w10 := (Ch.then (E := No) ((Ch.then (E := No) ((Ch.then (E := No) ((((c1.and c2).and c3).and c4).and c5) c6).and c7) c8).and c9) c10)
 have ch_10 := ch.keep cc_0_10
 refine Oq (Qi call154 O (chooser_heads _ _ _ _ _ ch_10)) O ?_
 rintro _ w11 ⟨hA11, hk11, rfl, hd11, c11⟩
 have z11 := c11.size
 refine Om (Cs υ51 O) O (Wu O O (Ka (Qt ?_)))
 have cc_8_11 : Ch No w8 w11 := ((Ch.then (E := No) c9 c10).and c11)
 have b7_11 := b7_8.keep cc_8_11
 have b2_11 := b2_10.keep c11
 have b3_11 := b3_10.keep c11
 have cc_4_11 : Ch No w4 w11 := ((Ch.then (E := No) ((Ch.then (E := No) ((Ch.then (E := No) c5 c6).and c7) c8).and c9) c10).and c11)
 have b4_11 := b4_4.keep cc_4_11
 have b8_11 := b8_10.keep c11
 have ch_11 := ch_10.keep c11
 have cc_0_11 : Ch No w w11 := ((Ch.then (E := No) ((Ch.then (E := No) ((Ch.then (E := No) ((((c1.and c2).and c3).and c4).and c5) c6).and c7) c8).and c9) c10).and c11)
 have mk2_11 := mk0'.keep cc_0_11
 have CH_11 := (Ch.refl (Is mb) w).and cc_0_11
 refine Kf (σ := Nat) (fun i => [(2, Kh p1), (3, Kh p2), (4, Kh p3), (7, Kh p7), (8, Kh p9), (34, .slice hA11 (headsM P n).length hk11), (35, Kg (headsM P n).length), (36, Kg i)]) (fun i w' => i ≤ (headsM P n).length ∧ (-1 ≤ (bestI P n i).2 ∧ (bestI P n i).2 ≤ 4611686018427387905) ∧ (∃ B e, Bk w' p7 (pricedC (bestI P n i) B e) 149 ∧ RdK (SU base w'.heap.size (UX U p3 p7)) w' B (bestI P n i).1.kids) ∧ CF P q mb n p1 p2 p3 p7 p9 w' ∧ MapOk P (UX U p3 p7) base mb w' ∧ RdK (In w10.heap.size w11.heap.size) w' hA11 (headsM P n) ∧ w11.heap.size ≤ w'.heap.size ∧ Ch (Is mb) w w') (fun i => (headsM P n).length - i) 0 ?_ ?_
 · exact ⟨Nat.zero_le _, by constructor <;> simp [bestI], ⟨_, _, b7_11, RdK.nil _ _⟩, ⟨b2_11, b3_11, b4_11, b8_11, ch_11⟩, mk2_11, hd11, Nat.le_refl _, CH_11⟩
 rintro i w12 ⟨i1, ibd, ⟨B, e, b7_12, kb_12⟩, cf, mk2_12, hd_12, hsz, CH_12⟩
 have b2_12 := cf.b2; have b3_12 := cf.b3; have b4_12 := cf.b4; have b8_12 := cf.b8; have ch_12 := cf.ch
 refine Kb (Om (Co O O) O (Wz (Qj O (fun hc1 => ?_) (fun hc1 => ?_))))
 ·
  refine Qn (Qa (Qe (Qt (Qe ?_))))
  obtain ⟨ko, hko⟩ : ∃ ko, (headsM P n)[i]? = some ko := ⟨_, List.getElem?_eq_getElem (by omega)⟩
  obtain ⟨kA, kc, ka, kr⟩ := hd_12.kid hko
  obtain ⟨h1k, h2k, h3k⟩ := mem_heads (List.mem_of_getElem? hko)
  obtain ⟨kk, kn, kks⟩ := ko
  simp only [Ord.kind, Ord.n, Ord.kids] at h1k h2k h3k
  subst h3k
  subst kn
  have hlc := lcost_bd (k := kk) (n := n)
  refine Qb (Om (Qs υ51 ς53 O O (hd_12.ne (by omega))) O (Om (Qz ι53 ς53 O O ka.1) O (Km (Ck ζ53) O ?_)))
  intro p13 w13 b10 c13 e13 z13
  refine Ks (Cl ς53 O O O O b10) O ?_
  intro w14 c14 z14 b10_14
  refine Ka (Kj 5 [0, 2, 4, 7, 9] (Is p7) ?_)
  intro w15 c15 z15
  have cc_12_15 : Ch No w12 w15 := ((Ch.then (E := No) c13 c14).and c15)
  have b2_15 := b2_12.keep cc_12_15
  have b3_15 := b3_12.keep cc_12_15
  have b4_15 := b4_12.keep cc_12_15
  have b7_15 := b7_12.keep cc_12_15
  have b8_15 := b8_12.keep cc_12_15
  have ka_15 := ka.keep cc_12_15
  have b10_15 := b10_14.keep c15
  refine Wt (fun hS => Qg isAgg196 O ((b8_15.to hS).cell O)) O (Wt (fun hS => Qz ι53 ς53 O O ((b10_15.to hS).all' O)) O (Wt (fun hS => Qz ι53 ς53 O O ((b10_15.to hS).all' O)) O (Hq (Qi call155 O (planner_cost kk n _ _ _ h1k)) O ?_)))
  rintro _ w16 ⟨rfl, c16⟩
  have z16 := c16.size
  have RD_16 := (Ch.refl (Is p7) w15).and c16
  refine ⟨RD_16, ?_⟩
  have b7_16 := b7_15.keep c16
  have cc_12_16 : Ch No w12 w16 := (((Ch.then (E := No) c13 c14).and c15).and c16)
  have kr_16 := kr.keep cc_12_16
  have kb_16 := kb_12.keep cc_12_16
  refine Hq (Wk.callv call153 O O (by rfl) (offer (.mk kk n []) (lcost kk n) _ _ (bestI P n i) B e p7 (SU base w16.heap.size (UX U p3 p7)) _ b7_16 ((kr_16).weak (fresh_SU (by omega) (by omega) (fun y h => by have := hU y h; omega))) ((kb_16).weak (grow_SU)) (fun h => h.2.2 (.inr (.inr O))))) O ?_
  rintro _ w17 ⟨rfl, ⟨B17, e17x, b7_17, kb_17⟩, c17⟩
  have z17 := c17.size
  have RD_17 : Ch (Is p7) w15 w17 := RD_16.then c17
  refine ⟨RD_17, ?_⟩
  refine Cj (Qf (Ca (Ql (Qa (Qb ?_)))))
  refine Om (Cd O O) O ?_
  refine Wu O O (Qf ?_)
  refine Ke (i + 1) ?_
  have hbs := bestI_succ hko
  have b2_16 := b2_15.keep c16
  have b2_17 := b2_16.to c17
  have b3_16 := b3_15.keep c16
  have b3_17 := b3_16.to c17
  have b4_16 := b4_15.keep c16
  have b4_17 := b4_16.to c17
  have b8_16 := b8_15.keep c16
  have b8_17 := b8_16.to c17
  have ch_16 := ch_12.keep cc_12_16
  have ch_17 := ch_16.to c17 (by first | exact fun _ _ _ _ => id | (intro x h1 h2 hx h3; omega))
  have mk2_16 := mk2_12.keep cc_12_16
  have mk2_17 := mk2_16.to c17 (by first | exact id | omega) (by first | exact fun _ _ _ _ => id | (intro x h1 h2 hx h3; omega) | (intro x h1 h2 hx h3; exact h2.2.2 (.inr (by omega))))
  have hd_16 := hd_12.keep cc_12_16
  have hd_17 := hd_16.to c17
  have CH_16 := CH_12.and cc_12_16
  have CH_17 : Ch (Is mb) w w17 := CH_16.then c17
  refine ⟨by omega, ?_, ⟨_, _, by rw [hbs]; exact b7_17, by rw [hbs]; exact (kb_17).weak (grow_SU)⟩, ⟨b2_17, b3_17, b4_17, b8_17, ch_17⟩, mk2_17, hd_17, by omega, CH_17⟩
  rw [hbs]; exact offerM_bd ibd (by exact ⟨hlc.1, Int.le_trans hlc.2 (by decide)⟩)
 refine Cn (Qk (Qk (Qy (Qa (Qe (Kb ?_))))))
 refine Om (Qg ι3 O (b3_12.cell O)) O (Oq (Qi call156 O (primes_Divisors _ _)) O ?_)
 rintro _ w18 ⟨pd, rfl, hpd, hpd2, c18⟩
 have z18 := c18.size
 refine Ka (Qt ?_)
 have hi' : i = (headsM P n).length := by omega
 subst hi'
 rw [bestI_all] at ibd b7_12 kb_12
 have hpl := hpd.lt
 refine VC.rangeFunc O call192 (divisors_stops n pd _ (by omega) (by omega) hpd) (fun h h' => KpB.trans h h') (KpB.putObj (B := w18.heap.size) (by omega)) (Below.refl _ _) O O (fun pre W => ∃ b B e, GoB P n (pre.map (·.1)) b ∧ (-1 ≤ b.2 ∧ b.2 ≤ 4611686018427387905) ∧ Bk W p7 (pricedC b B e) 149 ∧ RdK (SU base W.heap.size (UX U p3 p7)) W B b.1.kids ∧ CF P q mb n p1 p2 p3 p7 p9 W ∧ MapOk P (UX U p3 p7) base mb W ∧ Ch (Is mb) w W ∧ w18.heap.size ≤ W.heap.size) (fun _ _ _ => False) ?_ (fun _ _ _ _ _ h => h.elim) ?_ ?_ ?_ (fun _ _ _ _ _ _ h => h.elim)
 ·
  rintro s A2 W2 row ⟨b, B2, e2x, i1, i2, i3, i4, i5, i6, i7, i8⟩ hg hr
  have g := Gn.of hg hr
  exact ⟨b, B2, e2x, i1, i2, i3.toG g, (i4.toG g).weak (grow_SU g.size), i5.toG g, MapOk.toG g i6 (by omega), i7.toG g (by omega), Nat.le_trans i8 g.size⟩
 ·
  have b7_18 := b7_12.keep c18
  have kb_18 := kb_12.keep c18
  have b2_18 := b2_12.keep c18
  have b3_18 := b3_12.keep c18
  have b4_18 := b4_12.keep c18
  have b8_18 := b8_12.keep c18
  have ch_18 := ch_12.keep c18
  have mk2_18 := mk2_12.keep c18
  have CH_18 := CH_12.and c18
  exact ⟨best0 P n, _, _, GoB.nil P n, ibd, b7_18, (kb_18).weak (grow_SU), ⟨b2_18, b3_18, b4_18, b8_18, ch_18⟩, mk2_18, CH_18, Nat.le_refl _⟩
 ·
  rintro l pre x w19 ⟨b, B, e, hgo, hbd, b7_19, kb_19, cf, mk2_19, CH_19, hsz2⟩ hlen
  have b2_19 := cf.b2; have b3_19 := cf.b3; have b4_19 := cf.b4; have b8_19 := cf.b8; have ch_19 := cf.ch
  have hx1 := x.2.1; have hx2 := x.2.2.1; have hhl2 := heads_len P x.1
  have hqd := divE_ok (n := n) (d := x.1) hn x.2.1 x.2.2.2
  refine Qt (Qe (Qe (We O (Wu O O (Om (Co O O) O (Wu O O ?_))))))
  refine Cz (b := _) 4 51 55 O (fun hc2 Jhc2 => by
    refine Oy O (Oy O (Oy O (Om (Qr O O) O ?_)))
    exact (Qo O (Qo O (Qo O Jhc2)))) (fun hc2 Jhc2 => by
    try simp only [bX] at hc2
    refine Wu O O (Om (Qg ι3 O (b3_19.cell O)) O (Om (Cg O O) O (Om (Qm O O) O ?_)))
    exact (Qo O (Qo O (Qo O Jhc2)))) ?_
  refine Qf (Wo (Qa (Cq O (fun hc3 => ?_) (fun hc3 => ?_))))
  ·
   try simp only [bX] at hc3
   refine Cn (Qk (Qy ?_))
   refine VQ.roundF (Ch.refl (fun y => y = mb ∨ y = p7) w19) (fun y hy => by rcases hy with hy | hy <;> omega) (KpB.of (Ch.refl (fun y => y = mb ∨ y = p7) w19) (by intro hy; rcases hy with hy | hy <;> omega)) ?_
   exact ⟨b, B, e, by rw [List.map_append]; exact hgo.skip (.inl hc3), hbd, b7_19, (kb_19).weak (grow_SU), ⟨b2_19, b3_19, b4_19, b8_19, ch_19⟩, mk2_19, CH_19, by omega⟩
  try simp only [bX] at hc3
  refine Qn (Qa (Qe (We O (Om (Qg ι150 O (b2_19.cell O)) O (Wu O O (Oq (Qi call154 O (chooser_heads _ _ _ _ _ ch_19)) O ?_))))))
  rintro _ w20 ⟨hA20, hk20, rfl, hd20, c20⟩
  have z20 := c20.size
  refine Ww O O (Qf (Wo (Qa (Qe (Qe (We O (Wu O O ?_)))))))
  refine Om (Cs υ51 O) O (Om (Cg O O) O (Qf (Wo (Qa (Qj O (fun hc4 => ?_) (fun hc4 => ?_))))))
  ·
   refine Cn (Qk (Qy ?_))
   have CR_20 := (Ch.refl (fun y => y = mb ∨ y = p7) w19).and c20
   refine VQ.roundF CR_20 (fun y hy => by rcases hy with hy | hy <;> omega) (KpB.of CR_20 (by intro hy; rcases hy with hy | hy <;> omega)) ?_
   have b7_20 := b7_19.keep c20
   have kb_20 := kb_19.keep c20
   have b2_20 := b2_19.keep c20
   have b3_20 := b3_19.keep c20
   have b4_20 := b4_19.keep c20
   have b8_20 := b8_19.keep c20
   have ch_20 := ch_19.keep c20
   have mk2_20 := mk2_19.keep c20
   have CH_20 := CH_19.and c20
   exact ⟨b, B, e, by rw [List.map_append]; exact hgo.skip (.inr (show headsM P x.1 = [] from List.eq_nil_of_length_eq_zero (by omega))), hbd, b7_20, (kb_20).weak (grow_SU), ⟨b2_20, b3_20, b4_20, b8_20, ch_20⟩, mk2_20, CH_20, by omega⟩
  refine Qn (Qa (VC.cut (σ := Nat) (fun pb => [(2, Kh p1), (3, Kh p2), (4, Kh p3), (7, Kh p7), (8, Kh p9), (11, Kg x.1), (12, .slice hA20 (headsM P x.1).length hk20), (13, Kh pb)]) (fun pb w' => ∃ r rA rc, (Best P (n / x.1) r ∧ -1 ≤ r.2 ∧ r.2 ≤ 4611686018427387905) ∧ w20.heap.size ≤ pb ∧ Bk w' pb (pricedC r rA rc) 149 ∧ RdK (SU base w'.heap.size (UX U p3 p7)) w' rA r.1.kids ∧ Bk w' p7 (pricedC b B e) 149 ∧ RdK (SU base w'.heap.size (UX U p3 p7)) w' B b.1.kids ∧ CF P q mb n p1 p2 p3 p7 p9 w' ∧ MapOk P (UX U p3 p7) base mb w' ∧ w20.heap.size ≤ w'.heap.size ∧ Ch (Is mb) w w' ∧ RdK (In w19.heap.size w20.heap.size) w' hA20 (headsM P x.1) ∧ Ch (fun y => y = mb ∨ y = p7) w19 w') ?_ ?_))
  ·
   obtain ⟨WB, hWB⟩ : ∃ WB, WB = w20.heap.size := ⟨_, rfl⟩
   have mk2_20 := mk2_19.keep c20
   have mkF := (mk2_20).more (U' := fun y => UX U p3 p7 y ∨ WB ≤ y) (fun y hy hu => by rcases hu with hu | hu; exact hu; omega)
   refine VC.drawsTR 6 (.mv 0 (.mv 1 (.mv 2 (.mv 3 (.two 4 (.wk 5 .nil) 5 (.wk 4 .nil)))))) (fun w1 w' => Ch (Is mb) w1 w') mixed O (by kernel_rfl) (fun _ _ => Ch.refl _ _) ?_
   intro w21 D21
   have c21 := Ch.of_drew D21; have z21 := c21.size
   have b2_21 := b2_19.keep (c20.trans c21)
   have b3_21 := b3_19.keep (c20.trans c21)
   have b4_21 := b4_19.keep (c20.trans c21)
   have b8_21 := b8_19.keep (c20.trans c21)
   have b7_21 := b7_19.keep (c20.trans c21)
   refine Rc (fun w' hS => Qg ι150 O ((b2_21.to hS).cell O)) O O O O (Rc (fun w' hS => Qg ι3 O ((b3_21.to hS).cell O)) O O O O (Rc (fun w' hS => Qc O) O O O O (Rc (fun w' hS => Wc O O (by omega) (by omega) (by omega)) O O O O (Wl ?_ ?_))))
   ·
    have ch_21 := ch_19.keep (c20.trans c21)
    have mkF_21 := mkF.keep c21
    refine Rs (Qi call127 O (ih1 x.1 (by omega) (by omega) x.2.2.2 (fun y => UX U p3 p7 y ∨ (WB ≤ y ∧ y < w21.heap.size)) _ ch_21 ((mkF_21).more (fun y hy hu => hu.imp id (fun h => h.1))) hq (by omega) (fun y hy => by rcases hy with (hy | hy | hy) | hy; (have := hU y hy; omega); omega; omega; omega))) O O O O ?_
    rintro _ w22 ⟨⟨r, rA, rc, hr1, hr2, hr3, rfl, rk⟩, mkn, c22⟩
    have z22 := c22.size
    have RD_22 : Ch (Is mb) w21 w22 := (Ch.refl (Is mb) w21).then c22
    refine ⟨RD_22, ?_⟩
    refine Rs (Ck ζ149) O O O O ?_
    rintro _ w23 ⟨p23, rfl, N23⟩
    have c23 := N23.ch
    have e23 := N23.p; have z23 := N23.size
    have b13 := Bk.new N23
    have RD_23 := RD_22.and c23
    refine ⟨RD_23, ?_⟩
    refine Rr (Ks (Cl ς149 O O O O b13) O ?_)
    intro w24 c24 z24 b13_24
    refine Qf (Wo (Rt p23 ?_ ⟨O, O, O, O, O, O, O, O, trivial⟩))
    have cc_22_24 : Ch No w22 w24 := (Ch.then (E := No) c23 c24)
    have rk_24 := rk.keep cc_22_24
    have b7_22 := b7_21.to c22
    have b7_24 := b7_22.keep cc_22_24
    have kb_21 := kb_19.keep (c20.trans c21)
    have kb_22 := kb_21.to c22 (by first | exact fun _ _ _ _ => id | (intro x h1 h2 hx h3; omega) | (intro x h1 h2 hx h3; exact h2.2.2 (.inr (by omega))))
    have kb_24 := kb_22.keep cc_22_24
    have b2_22 := b2_21.to c22
    have b2_24 := b2_22.keep cc_22_24
    have b3_22 := b3_21.to c22
    have b3_24 := b3_22.keep cc_22_24
    have b4_22 := b4_21.to c22
    have b4_24 := b4_22.keep cc_22_24
    have b8_22 := b8_21.to c22
    have b8_24 := b8_22.keep cc_22_24
    have ch_22 := ch_21.to c22 (by first | exact fun _ _ _ _ => id | (intro x h1 h2 hx h3; omega))
    have ch_24 := ch_22.keep cc_22_24
    have mkn_24 := mkn.keep cc_22_24
    have CH_21 := CH_19.and (c20.trans c21)
    have CH_22 : Ch (Is mb) w w22 := CH_21.then c22
    have CH_24 := CH_22.and cc_22_24
    have hd_21 := hd20.keep c21
    have hd_22 := hd_21.to c22
    have hd_24 := hd_22.keep cc_22_24
    have CR_21 := (Ch.refl (fun y => y = mb ∨ y = p7) w19).and (c20.trans c21)
    have CR_22 : Ch (fun y => y = mb ∨ y = p7) w19 w22 := CR_21.then c22
    have CR_24 := CR_22.and cc_22_24
    exact ⟨r, rA, rc, ⟨hr1, hr2, hr3⟩, by omega, b13_24, (rk_24).weak (fun y h => ⟨h.1, by omega, fun hu => h.2.2 (.inl hu)⟩), b7_24, (kb_24).weak (grow_SU), ⟨b2_24, b3_24, b4_24, b8_24, ch_24⟩, (mkn_24).more (fun y _ hu => .inl hu), by omega, CH_24, hd_24, CR_24⟩
   refine Rs (Ck ζ149) O O O O ?_
   rintro _ w25 ⟨p25, rfl, N25⟩
   have c25 := N25.ch
   have e25 := N25.p; have z25 := N25.size
   have b13 := Bk.new N25
   have RD_25 := (Ch.refl (Is mb) w21).and c25
   refine ⟨RD_25, ?_⟩
   have ch_25 := ch_19.keep (c20.trans (c21.trans c25))
   have mkF_25 := mkF.keep (c21.trans c25)
   refine Rs (Qi call127 O (ih1 x.1 (by omega) (by omega) x.2.2.2 (fun y => UX U p3 p7 y ∨ (WB ≤ y ∧ y < w25.heap.size)) _ ch_25 ((mkF_25).more (fun y hy hu => hu.imp id (fun h => h.1))) hq (by omega) (fun y hy => by rcases hy with (hy | hy | hy) | hy; (have := hU y hy; omega); omega; omega; omega))) O O O O ?_
   rintro _ w26 ⟨⟨r, rA, rc, hr1, hr2, hr3, rfl, rk⟩, mkn, c26⟩
   have z26 := c26.size
   have RD_26 : Ch (Is mb) w21 w26 := RD_25.then c26
   refine ⟨RD_26, ?_⟩
   refine Rr ?_
   have b13_26 := b13.to c26
   refine Ks (Cl ς149 O O O O b13_26) O ?_
   intro w27 c27 z27 b13_27
   refine Qf (Wo (Rt p25 ?_ ⟨O, O, O, O, O, O, O, O, trivial⟩))
   have rk_27 := rk.to c27 (by first | exact fun _ _ _ _ => id | (intro x h1 h2 hx h3; omega) | (intro x h1 h2 hx h3; exact h2.2.2 (.inr (by omega))))
   have b7_25 := b7_21.keep c25
   have b7_26 := b7_25.to c26
   have b7_27 := b7_26.to c27
   have kb_25 := kb_19.keep (c20.trans (c21.trans c25))
   have kb_26 := kb_25.to c26 (by first | exact fun _ _ _ _ => id | (intro x h1 h2 hx h3; omega) | (intro x h1 h2 hx h3; exact h2.2.2 (.inr (by omega))))
   have kb_27 := kb_26.to c27 (by first | exact fun _ _ _ _ => id | (intro x h1 h2 hx h3; omega) | (intro x h1 h2 hx h3; exact h2.2.2 (.inr (by omega))))
   have b2_25 := b2_21.keep c25
   have b2_26 := b2_25.to c26
   have b2_27 := b2_26.to c27
   have b3_25 := b3_21.keep c25
   have b3_26 := b3_25.to c26
   have b3_27 := b3_26.to c27
   have b4_25 := b4_21.keep c25
   have b4_26 := b4_25.to c26
   have b4_27 := b4_26.to c27
   have b8_25 := b8_21.keep c25
   have b8_26 := b8_25.to c26
   have b8_27 := b8_26.to c27
   have ch_26 := ch_25.to c26 (by first | exact fun _ _ _ _ => id | (intro x h1 h2 hx h3; omega))
   have ch_27 := ch_26.to c27 (by first | exact fun _ _ _ _ => id | (intro x h1 h2 hx h3; omega))
   have mkn_27 := mkn.to c27 (by first | exact id | omega) (by first | exact fun _ _ _ _ => id | (intro x h1 h2 hx h3; omega) | (intro x h1 h2 hx h3; exact h2.2.2 (.inr (by omega))))
   have CH_25 := CH_19.and (c20.trans (c21.trans c25))
   have CH_26 : Ch (Is mb) w w26 := CH_25.then c26
   have CH_27 : Ch (Is mb) w w27 := CH_26.then c27
   have hd_25 := hd20.keep (c21.trans c25)
   have hd_26 := hd_25.to c26
   have hd_27 := hd_26.to c27
   have CR_25 := (Ch.refl (fun y => y = mb ∨ y = p7) w19).and (c20.trans (c21.trans c25))
   have CR_26 : Ch (fun y => y = mb ∨ y = p7) w19 w26 := CR_25.then c26
   have CR_27 : Ch (fun y => y = mb ∨ y = p7) w19 w27 := CR_26.then c27
   exact ⟨r, rA, rc, ⟨hr1, hr2, hr3⟩, by omega, b13_27, (rk_27).weak (fun y h => ⟨h.1, by omega, fun hu => h.2.2 (.inl hu)⟩), b7_27, (kb_27).weak (grow_SU), ⟨b2_27, b3_27, b4_27, b8_27, ch_27⟩, (mkn_27).more (fun y _ hu => .inl hu), by omega, CH_27, hd_27, CR_27⟩
  rintro pb w28 ⟨r, rA, rc, ⟨hr1, hr2, hr3⟩, hpb, b13_28, rk_28, b7_28, kb_28, cf, mk2_28, hszc, CH_28, hd_28, CR_28⟩
  have b2_28 := cf.b2; have b3_28 := cf.b3; have b4_28 := cf.b4; have b8_28 := cf.b8; have ch_28 := cf.ch
  refine Qe (We O (Wu O O (Om (Cs υ51 O) O (Wu O O (Qf (Wo (Qa ?_)))))))
  refine Qt (Kf (σ := Nat) (fun i => [(2, Kh p1), (3, Kh p2), (4, Kh p3), (7, Kh p7), (8, Kh p9), (11, Kg x.1), (13, Kh pb), (67, .slice hA20 (headsM P x.1).length hk20), (68, Kg (headsM P x.1).length), (69, Kg i)]) (fun i w' => i ≤ (headsM P x.1).length ∧ (-1 ≤ (bestJ P n x.1 r b i).2 ∧ (bestJ P n x.1 r b i).2 ≤ 4611686018427387905) ∧ (∃ B e, Bk w' p7 (pricedC (bestJ P n x.1 r b i) B e) 149 ∧ RdK (SU base w'.heap.size (UX U p3 p7)) w' B (bestJ P n x.1 r b i).1.kids) ∧ Bk w' pb (pricedC r rA rc) 149 ∧ RdK (SU base w'.heap.size (UX U p3 p7)) w' rA r.1.kids ∧ CF P q mb n p1 p2 p3 p7 p9 w' ∧ MapOk P (UX U p3 p7) base mb w' ∧ RdK (In w19.heap.size w20.heap.size) w' hA20 (headsM P x.1) ∧ w28.heap.size ≤ w'.heap.size ∧ Ch (Is mb) w w' ∧ Ch (fun y => y = mb ∨ y = p7) w19 w') (fun i => (headsM P x.1).length - i) 0 ?_ ?_)
  · exact ⟨Nat.zero_le _, hbd, ⟨_, _, b7_28, (kb_28).weak (grow_SU)⟩, b13_28, (rk_28).weak (grow_SU), ⟨b2_28, b3_28, b4_28, b8_28, ch_28⟩, mk2_28, hd_28, Nat.le_refl _, CH_28, CR_28⟩
  rintro i w29 ⟨i1, ibd, ⟨B, e, b7_29, kb_29⟩, b13_29, rk_29, cf, mk2_29, hd_29, hsz3, CH_29, CR_29⟩
  have b2_29 := cf.b2; have b3_29 := cf.b3; have b4_29 := cf.b4; have b8_29 := cf.b8; have ch_29 := cf.ch
  refine Qe (We O (Om (Co O O) O (Qf (Wo (Qa (Qe (Qj O (fun hc5 => ?_) (fun hc5 => ?_))))))))
  ·
   refine Qn (Qa (Qe (Qt (Qe ?_))))
   obtain ⟨ko, hko⟩ : ∃ ko, (headsM P x.1)[i]? = some ko := ⟨_, List.getElem?_eq_getElem (by omega)⟩
   obtain ⟨kA, kc, ka, kr⟩ := hd_29.kid hko
   obtain ⟨h1k, h2k, h3k⟩ := mem_heads (List.mem_of_getElem? hko)
   obtain ⟨kk, kn, kks⟩ := ko
   simp only [Ord.kind, Ord.n, Ord.kids] at h1k h2k h3k
   subst h3k
   subst kn
   have hlc := lcost_bd (k := kk) (n := x.1)
   refine We O (Om (Qs υ51 ς53 O O (hd_29.ne (by omega))) O (Om (Qz ι53 ς53 O O ka.1) O (Km (Ck ζ53) O ?_)))
   intro p30 w30 b15 c30 e30 z30
   refine Ks (Cl ς53 O O O O b15) O ?_
   intro w31 c31 z31 b15_31
   refine Qf (Wo (Qa (Qe (We O (Om (Qh υ149 O ς3 O O O) O ?_)))))
   have cc_29_31 : Ch No w29 w31 := (Ch.then (E := No) c30 c31)
   have b13_31 := b13_29.keep cc_29_31
   refine Om (Qg ι3 O (b13_31.cell O)) O (Om (Ry O O) O (Qf (Wo (Qa (Qj O (fun hc6 => ?_) (fun hc6 => ?_))))))
   ·
    refine VC.drawsR 18 [(0, true), (1, true), (2, true), (3, true), (5, true), (6, true), (7, true), (8, true), (9, true), (11, true), (12, true), (13, true), (14, true), (15, true), (4, false), (10, false), (16, false), (17, false)] (fun w1 w' => Ch (Is p7) w1 w') mixed O (by kernel_rfl) (fun _ _ => Ch.refl _ _) ?_
    intro w32 D32
    have c32 := Ch.of_drew D32; have z32 := c32.size
    have cc_29_32 : Ch No w29 w32 := ((Ch.then (E := No) c30 c31).and c32)
    have b2_32 := b2_29.keep cc_29_32
    have b3_32 := b3_29.keep cc_29_32
    have b4_32 := b4_29.keep cc_29_32
    have b8_32 := b8_29.keep cc_29_32
    have b7_32 := b7_29.keep cc_29_32
    have b13_32 := b13_31.keep c32
    have ka_32 := ka.keep cc_29_32
    have b15_32 := b15_31.keep c32
    refine Wt (fun hS => Qg isAgg196 O ((b8_32.to hS).cell O)) O (Wt (fun hS => Qz ι53 ς53 O O ((b15_32.to hS).all' O)) O (Ws (Qh υ149 O ς53 O O O) O (Wt (fun hS => Qz ι53 ς53 O O ((b13_32.to hS).part 3 O)) O (Wv O O (Wt (fun hS => Qg ι3 O ((b3_32.to hS).cell O)) O (Wv O O (Ws (Wc O O (by omega) (by omega) (by omega)) O ?_)))))))
    refine Wt (fun hS => Qz ι53 ς53 O O ((b15_32.to hS).all' O)) O (Ws (Qh υ149 O ς3 O O O) O (Wt (fun hS => Qg ι3 O ((b13_32.to hS).cell O)) O (Ws (Qh υ53 O ς3 O O O) O (Wt (fun hS => Qg ι3 O ((b15_32.to hS).cell O)) O (Ws (Cg O O) O ?_)))))
    have kr_32 := kr.keep cc_29_32
    have rk_32 := rk_29.keep cc_29_32
    refine Hq (Qi call157 O (order_Times (.mk kk x.1 []) r.1 _ _ _ _ 0 _ 0 _ _ ((kr_32).weak (fun y h => ⟨Nat.zero_le _, by omega⟩)) (Nat.le_refl _) ((rk_32).weak (fun y h => ⟨Nat.zero_le _, by omega⟩)) (Nat.le_refl _))) O ?_
    rintro _ w33 ⟨nA33, nc33, rfl, kn33, c33⟩
    have z33 := c33.size
    have RD_33 := (Ch.refl (Is p7) w32).and c33
    refine ⟨RD_33, ?_⟩
    refine Hq (Qi call155 O (planner_cost kk x.1 _ _ _ h1k)) O ?_
    rintro _ w34 ⟨rfl, c34⟩
    have z34 := c34.size
    have RD_34 := RD_33.and c34
    refine ⟨RD_34, ?_⟩
    refine Hq (Qi call158 O (planner_timesCost x.1 (n / x.1) (lcost kk x.1) r.2 (decide (kk = 2)) _)) O ?_
    rintro _ w35 ⟨rfl, c35⟩
    have z35 := c35.size
    have RD_35 := RD_34.and c35
    refine ⟨RD_35, ?_⟩
    have b7_35 := b7_32.keep (c33.trans (c34.trans c35))
    have kn_35 := kn33.keep (c34.trans c35)
    have cc_29_35 : Ch No w29 w35 := (((((Ch.then (E := No) c30 c31).and c32).and c33).and c34).and c35)
    have kb_35 := kb_29.keep cc_29_35
    refine Hq (Wk.callv call153 O O (by rfl) (offer (.mk 3 0 [.mk kk x.1 [], r.1]) (timesC x.1 (n / x.1) (lcost kk x.1) r.2 (decide (kk = 2))) _ _ (bestJ P n x.1 r b i) B e p7 (SU base w35.heap.size (UX U p3 p7)) _ b7_35 ((kn_35).weak (fresh_SU (by omega) (by omega) (fun y h => by have := hU y h; omega))) ((kb_35).weak (grow_SU)) (fun h => h.2.2 (.inr (.inr O))))) O ?_
    rintro _ w36 ⟨rfl, ⟨B36, e36x, b7_36, kb_36⟩, c36⟩
    have z36 := c36.size
    have RD_36 : Ch (Is p7) w32 w36 := RD_35.then c36
    refine ⟨RD_36, ?_⟩
    refine Cj (Qf (Wo (Ql (Qa (We O ?_)))))
    refine Om (Cd O O) O ?_
    refine Wu O O (Qf (Wo ?_))
    refine Ke (i + 1) ?_
    have hbs := bestJ_succ (n := n) (r := r) (b := b) hko
    have hbo : offerH n x.1 r (bestJ P n x.1 r b i) (.mk kk x.1 []) = offerM (bestJ P n x.1 r b i) (.mk 3 0 [.mk kk x.1 [], r.1]) (timesC x.1 (n / x.1) (lcost kk x.1) r.2 (decide (kk = 2))) := by unfold offerH; rw [if_pos hc6]; rfl
    rw [hbo] at hbs
    have b13_35 := b13_32.keep (c33.trans (c34.trans c35))
    have b13_36 := b13_35.to c36
    have rk_35 := rk_32.keep (c33.trans (c34.trans c35))
    have rk_36 := rk_35.to c36 (by first | exact fun _ _ _ _ => id | (intro x h1 h2 hx h3; omega) | (intro x h1 h2 hx h3; exact h2.2.2 (.inr (by omega))))
    have b2_35 := b2_32.keep (c33.trans (c34.trans c35))
    have b2_36 := b2_35.to c36
    have b3_35 := b3_32.keep (c33.trans (c34.trans c35))
    have b3_36 := b3_35.to c36
    have b4_35 := b4_32.keep (c33.trans (c34.trans c35))
    have b4_36 := b4_35.to c36
    have b8_35 := b8_32.keep (c33.trans (c34.trans c35))
    have b8_36 := b8_35.to c36
    have ch_35 := ch_29.keep cc_29_35
    have ch_36 := ch_35.to c36 (by first | exact fun _ _ _ _ => id | (intro x h1 h2 hx h3; omega))
    have mk2_35 := mk2_29.keep cc_29_35
    have mk2_36 := mk2_35.to c36 (by first | exact id | omega) (by first | exact fun _ _ _ _ => id | (intro x h1 h2 hx h3; omega) | (intro x h1 h2 hx h3; exact h2.2.2 (.inr (by omega))))
    have hd_35 := hd_29.keep cc_29_35
    have hd_36 := hd_35.to c36
    have CH_35 := CH_29.and cc_29_35
    have CH_36 : Ch (Is mb) w w36 := CH_35.then c36
    have CR_35 := CR_29.and cc_29_35
    have CR_36 : Ch (fun y => y = mb ∨ y = p7) w19 w36 := CR_35.then c36
    refine ⟨by omega, ?_, ⟨_, _, by rw [hbs]; exact b7_36, by rw [hbs]; exact (kb_36).weak (grow_SU)⟩, b13_36, (rk_36).weak (grow_SU), ⟨b2_36, b3_36, b4_36, b8_36, ch_36⟩, mk2_36, hd_36, by omega, CH_36, CR_36⟩
    rw [hbs]; exact offerM_bd ibd (timesC_bd)
   refine Qn (Ql (Qa (We O ?_)))
   refine Om (Cd O O) O ?_
   refine Wu O O (Qf (Wo ?_))
   refine Ke (i + 1) ?_
   have hbs := bestJ_succ (n := n) (r := r) (b := b) hko
   have hbo : offerH n x.1 r (bestJ P n x.1 r b i) (.mk kk x.1 []) = (bestJ P n x.1 r b i) := by unfold offerH; rw [if_neg hc6]
   rw [hbo] at hbs
   have b7_31 := b7_29.keep cc_29_31
   have kb_31 := kb_29.keep cc_29_31
   have rk_31 := rk_29.keep cc_29_31
   have b2_31 := b2_29.keep cc_29_31
   have b3_31 := b3_29.keep cc_29_31
   have b4_31 := b4_29.keep cc_29_31
   have b8_31 := b8_29.keep cc_29_31
   have ch_31 := ch_29.keep cc_29_31
   have mk2_31 := mk2_29.keep cc_29_31
   have hd_31 := hd_29.keep cc_29_31
   have CH_31 := CH_29.and cc_29_31
   have CR_31 := CR_29.and cc_29_31
   refine ⟨by omega, by rw [hbs]; exact ibd, ⟨_, _, by rw [hbs]; exact b7_31, by rw [hbs]; exact (kb_31).weak (grow_SU)⟩, b13_31, (rk_31).weak (grow_SU), ⟨b2_31, b3_31, b4_31, b8_31, ch_31⟩, mk2_31, hd_31, by omega, CH_31, CR_31⟩
  refine Cn (Qk (Qk (Qy (Ql ?_))))
  have hi9 : i = (headsM P x.1).length := by omega
  subst hi9
  rw [bestJ_all] at ibd b7_29 kb_29
  refine VQ.roundF CR_29 (fun y hy => by rcases hy with hy | hy <;> omega) (KpB.of CR_29 (by intro hy; rcases hy with hy | hy <;> omega)) ?_
  exact ⟨_, B, e, by rw [List.map_append]; exact hgo.step (show ¬ (x.1 < 2 ∨ x.1 = n) from by omega) hr1, ibd, b7_29, (kb_29).weak (grow_SU), ⟨b2_29, b3_29, b4_29, b8_29, ch_29⟩, mk2_29, CH_29, by omega⟩
 rintro D xs w37 hD hS ⟨b, B, e, hgo, hbd, b7_37, kb_37, cf, mk2_37, CH_37, hsz2⟩ hK
 have df_37 : Df w37 D := ⟨hK⟩
 have b2_37 := cf.b2; have b3_37 := cf.b3; have b4_37 := cf.b4; have b8_37 := cf.b8; have ch_37 := cf.ch
 obtain ⟨ee, hE, hxs⟩ := hS
 rw [hxs, isq_eq hE hn2] at hgo
 refine Ql (Qa (Qe (Kb (Om (Qg ι150 O (b2_37.cell O)) O (Om (Qg ι3 O (b3_37.cell O)) O (Oq (Qi call159 O (chooser_hard _ _ _ _ _ ch_37 (by omega) (by omega))) O ?_))))))
 rintro _ w38 ⟨rfl, c38⟩
 have z38 := c38.size
 refine Ka (Cq O (fun hc7 => ?_) (fun hc7 => ?_))
 ·
  try simp only [bX] at hc7
  have h8 := hardM_le hc7
  have hu2 := up2_le (x := 2 * n - 1) (j := 14)
  simp only [Int.reducePow] at hu2
  have hu3 := up2_pos (x := 2 * n - 1)
  refine Kb ?_
  have b3_38 := b3_37.keep c38
  refine Om (Qg ι3 O (b3_38.cell O)) O (Oq (Qi call160 O (chirp_Size _ _ (by omega) (by omega))) O ?_)
  rintro _ _ ⟨rfl, rfl⟩
  refine Wu O O (Om (Qu O O) O (Om (Qu O O) O (Ww O O (Ww O O (Wz ?_)))))
  refine Qb (Wu O O (Om (Wa υ28 O) O (Ka (Rd O (VC.cut (σ := Nat) (fun pb => [(2, Kh p1), (3, Kh p2), (4, Kh p3), (7, Kh p7), (8, Kh p9), (16, Kg (up2 (2 * n - 1))), (18, Kh pb)]) (fun pb w' => ∃ r2 rA2 rc2, (Best P (up2 (2 * n - 1)) r2 ∧ -1 ≤ r2.2 ∧ r2.2 ≤ 4611686018427387905) ∧ w38.heap.size ≤ pb ∧ Bk w' pb (pricedC r2 rA2 rc2) 149 ∧ RdK (SU base w'.heap.size (UX U p3 p7)) w' rA2 r2.1.kids ∧ Bk w' p7 (pricedC b B e) 149 ∧ RdK (SU base w'.heap.size (UX U p3 p7)) w' B b.1.kids ∧ CF P q mb n p1 p2 p3 p7 p9 w' ∧ MapOk P (UX U p3 p7) base mb w' ∧ w38.heap.size ≤ w'.heap.size ∧ Ch (Is mb) w w' ∧ Df w' D) ?_ ?_)))))
  ·
   obtain ⟨WB, hWB⟩ : ∃ WB, WB = w38.heap.size := ⟨_, rfl⟩
   have mk2_38 := mk2_37.keep c38
   have mkF := (mk2_38).more (U' := fun y => UX U p3 p7 y ∨ WB ≤ y) (fun y hy hu => by rcases hu with hu | hu; exact hu; omega)
   refine Qb ?_
   have b2_38 := b2_37.keep c38
   refine Om (Qg ι150 O (b2_38.cell O)) O (Wu O O ?_)
   have ch_38 := ch_37.keep c38
   refine Oq (Qi call127 O (ih2 hc7 (fun y => UX U p3 p7 y ∨ (WB ≤ y ∧ y < w38.heap.size)) _ ch_38 ((mkF).more (fun y hy hu => hu.imp id (fun h => h.1))) hq (by omega) (fun y hy => by rcases hy with (hy | hy | hy) | hy; (have := hU y hy; omega); omega; omega; omega))) O ?_
   rintro _ w39 ⟨⟨r2, rA2, rc2, hs1, hs2, hs3, rfl, rk2⟩, mkn2, c39⟩
   have z39 := c39.size
   refine Km (Ck ζ149) O ?_
   intro p40 w40 b18 c40 e40 z40
   refine Ks (Cl ς149 O O O O b18) O ?_
   intro w41 c41 z41 b18_41
   refine Qf (Rt p40 ?_ ⟨O, O, O, O, O, O, O, trivial⟩)
   have cc_39_41 : Ch No w39 w41 := (Ch.then (E := No) c40 c41)
   have rk2_41 := rk2.keep cc_39_41
   have b7_38 := b7_37.keep c38
   have b7_39 := b7_38.to c39
   have b7_41 := b7_39.keep cc_39_41
   have kb_38 := kb_37.keep c38
   have kb_39 := kb_38.to c39 (by first | exact fun _ _ _ _ => id | (intro x h1 h2 hx h3; omega) | (intro x h1 h2 hx h3; exact h2.2.2 (.inr (by omega))))
   have kb_41 := kb_39.keep cc_39_41
   have b2_39 := b2_38.to c39
   have b2_41 := b2_39.keep cc_39_41
   have b3_39 := b3_38.to c39
   have b3_41 := b3_39.keep cc_39_41
   have b4_38 := b4_37.keep c38
   have b4_39 := b4_38.to c39
   have b4_41 := b4_39.keep cc_39_41
   have b8_38 := b8_37.keep c38
   have b8_39 := b8_38.to c39
   have b8_41 := b8_39.keep cc_39_41
   have ch_39 := ch_38.to c39 (by first | exact fun _ _ _ _ => id | (intro x h1 h2 hx h3; omega))
   have ch_41 := ch_39.keep cc_39_41
   have mkn_41 := mkn2.keep cc_39_41
   have CH_38 := CH_37.and c38
   have CH_39 : Ch (Is mb) w w39 := CH_38.then c39
   have CH_41 := CH_39.and cc_39_41
   have df_38 := df_37.keep c38
   have df_39 := df_38.to c39
   have df_41 := df_39.keep cc_39_41
   exact ⟨r2, rA2, rc2, ⟨hs1, hs2, hs3⟩, by omega, b18_41, (rk2_41).weak (fun y h => ⟨h.1, by omega, fun hu => h.2.2 (.inl hu)⟩), b7_41, (kb_41).weak (grow_SU), ⟨b2_41, b3_41, b4_41, b8_41, ch_41⟩, (mkn_41).more (fun y _ hu => .inl hu), by omega, CH_41, df_41⟩
  rintro pb w42 ⟨r2, rA2, rc2, ⟨hs1, hs2, hs3⟩, hpb, b18_42, rk2_42, b7_42, kb_42, cf, mk2_42, hszc, CH_42, df_42⟩
  have b2_42 := cf.b2; have b3_42 := cf.b3; have b4_42 := cf.b4; have b8_42 := cf.b8; have ch_42 := cf.ch
  refine Kj 11 [0, 2, 4, 6, 10, 12, 14, 16, 9, 19, 21] (Is p7) ?_
  intro w43 c43 z43
  have b2_43 := b2_42.keep c43
  have b3_43 := b3_42.keep c43
  have b4_43 := b4_42.keep c43
  have b8_43 := b8_42.keep c43
  have b7_43 := b7_42.keep c43
  have b18_43 := b18_42.keep c43
  refine Wt (fun hS => Qg isAgg196 O ((b8_43.to hS).cell O)) O (Wt (fun hS => Qg ι3 O ((b3_43.to hS).cell O)) O (Ws (Qh υ149 O ς53 O O O) O (Wt (fun hS => Qz ι53 ς53 O O ((b18_43.to hS).part 3 O)) O (Wt (fun hS => Qg ι3 O ((b3_43.to hS).cell O)) O (Wv O O (Ws (Qh υ149 O ς3 O O O) O (Wt (fun hS => Qg ι3 O ((b18_43.to hS).cell O)) O ?_)))))))
  have rk2_43 := rk2_42.keep c43
  refine Hq (Qi call161 O (order_Blue n r2.1 _ _ 0 _ _ ((rk2_43).weak (fun y h => ⟨Nat.zero_le _, by omega⟩)) (Nat.le_refl _))) O ?_
  rintro _ w44 ⟨nA44, nc44, rfl, kn44, c44⟩
  have z44 := c44.size
  have RD_44 := (Ch.refl (Is p7) w43).and c44
  refine ⟨RD_44, ?_⟩
  refine Hq (Qi call162 O (planner_blueCost _ _ _ _)) O ?_
  rintro _ w45 ⟨rfl, c45⟩
  have z45 := c45.size
  have RD_45 := RD_44.and c45
  refine ⟨RD_45, ?_⟩
  have b7_45 := b7_43.keep (c44.trans c45)
  have kn_45 := kn44.keep c45
  have kb_45 := kb_42.keep (c43.trans (c44.trans c45))
  refine Hq (Wk.callv call153 O O (by rfl) (offer (.mk 4 n [r2.1]) (blueC n (up2 (2 * n - 1)) r2.2) _ _ b B e p7 (SU base w45.heap.size (UX U p3 p7)) _ b7_45 ((kn_45).weak (fresh_SU (by omega) (by omega) (fun y h => by have := hU y h; omega))) ((kb_45).weak (grow_SU)) (fun h => h.2.2 (.inr (.inr O))))) O ?_
  rintro _ w46 ⟨rfl, ⟨B46, e46x, b7_46, kb_46⟩, c46⟩
  have z46 := c46.size
  have RD_46 : Ch (Is p7) w43 w46 := RD_45.then c46
  refine ⟨RD_46, ?_⟩
  refine Cj (Qf ?_)
  have hbest := hgo.hard hc7 hs1
  have hbf := offerM_bd (o := .mk 4 n [r2.1]) hbd (blueC_bd (n := n) (m := up2 (2 * n - 1)) (cm := r2.2))
  refine Ca (Qa (Qe ?_))
  have ch_45 := ch_42.keep (c43.trans (c44.trans c45))
  have ch_46 := ch_45.to c46 (by first | exact fun _ _ _ _ => id | (intro x h1 h2 hx h3; omega))
  obtain ⟨FA2, fc2, S2, bq2, sl2, hS2, hfl2, hqm2⟩ := ch_46.ex
  have hv28 := Ent.of b7_46 hbest hbf ((kb_46).weak (grow_SU (hi' := w46.heap.size)))
  have mk2_45 := mk2_42.keep (c43.trans (c44.trans c45))
  have mk2_46 := mk2_45.to c46 (by first | exact id | omega) (by first | exact fun _ _ _ _ => id | (intro x h1 h2 hx h3; omega) | (intro x h1 h2 hx h3; exact h2.2.2 (.inr (by omega))))
  obtain ⟨mm2, mp2, hm2⟩ := mk2_46
  refine Kj 6 [0, 2, 4, 6, 8, 10] (No) ?_
  intro w47 c47 z47
  have b2_45 := b2_43.keep (c44.trans c45)
  have b2_46 := b2_45.to c46
  have b2_47 := b2_46.keep c47
  have b3_45 := b3_43.keep (c44.trans c45)
  have b3_46 := b3_45.to c46
  have b3_47 := b3_46.keep c47
  have b4_45 := b4_43.keep (c44.trans c45)
  have b4_46 := b4_45.to c46
  have b4_47 := b4_46.keep c47
  have b8_45 := b8_43.keep (c44.trans c45)
  have b8_46 := b8_45.to c46
  have b8_47 := b8_46.keep c47
  have b7_47 := b7_46.keep c47
  have b18_45 := b18_43.keep (c44.trans c45)
  have b18_46 := b18_45.to c46
  have b18_47 := b18_46.keep c47
  have bq_47 := bq2.keep c47
  have mp_47 := mp2.keep c47
  refine Wt (fun hS => Qg ι150 O ((b2_47.keep hS).cell O)) O (Ws (Qq O) O (Ws (Qh υ194 O ς192 O O O) O (Wt (fun hS => Qg ι192 O ((bq_47.keep hS).cell O)) O (Wt (fun hS => Qg ι3 O ((b3_47.keep hS).cell O)) O (Wt (fun hS => Qz ι149 ς149 O O ((b7_47.keep hS).all' O)) O (Cj (Oz (Wk.mapPut υ192 (KeyK.int υ3) O O O mp_47) O ?_)))))))
  rintro _ w48 ⟨c48, zs48, mpn⟩
  have z48 := c48.size
  have C28_47 := (Ch.refl (Is mb) w46).and c47
  have C28_48 : Ch (Is mb) w46 w48 := C28_47.then c48
  have mk3 := MapOk.put C28_48 mpn mp2 hm2 hv28 (by omega)
  refine Qf (Ca (Qa (Kb ?_)))
  have b7_48 := b7_47.to c48
  refine Om (Qz ι149 ς149 O O (b7_48.all' O)) O ?_
  have b4_48 := b4_47.to c48
  refine Ks (Cl ς149 O O O O b4_48) O ?_
  intro w49 c49 z49 b4_49
  refine Ka (Qp ?_)
  have df_45 := df_42.keep (c43.trans (c44.trans c45))
  have df_46 := df_45.to c46
  have df_47 := df_46.keep c47
  have df_48 := df_47.to c48
  have df_49 := df_48.to c49
  refine VQ.dropD df_49.blk ?_
  intro w50 W50
  have g50 : Gn w18.heap.size w49 w50 := by rw [W50]; exact Gn.put df_49.blk hD
  have z50 := g50.size
  refine VQ.toM ?_
  have b4_50 := b4_49.toG g50
  refine Rl O O ι149 ς149 O (b4_50.all' O) (Kx ?_)
  have CH_45 := CH_42.and (c43.trans (c44.trans c45))
  have CH_46 : Ch (Is mb) w w46 := CH_45.then c46
  have CH_47 := CH_46.and c47
  have CH_48 : Ch (Is mb) w w48 := CH_47.then c48
  have CH_49 : Ch (Is mb) w w49 := CH_48.then c49
  have CH_50 := CH_49.toG g50 (by omega)
  have zz9 := CH_50.size
  have kb_47 := kb_46.keep c47
  have kb_48 := kb_47.to c48 (by first | exact fun _ _ _ _ => id | (intro x h1 h2 hx h3; omega) | (intro x h1 h2 hx h3; exact h2.2.2 (.inr (by omega))))
  have kb_49 := kb_48.to c49 (by first | exact fun _ _ _ _ => id | (intro x h1 h2 hx h3; omega) | (intro x h1 h2 hx h3; exact h2.2.2 (.inr (by omega))))
  have kb_50 := kb_49.toG g50
  have mk2_49 := mk3.to c49 (by first | exact id | omega) (by first | exact fun _ _ _ _ => id | (intro x h1 h2 hx h3; omega) | (intro x h1 h2 hx h3; exact h2.2.2 (.inr (by omega))))
  have mk2_50 := mk2_49.toG g50 (by omega)
  exact ⟨⟨_, _, _, hbest, hbf.1, hbf.2, O, (kb_50).weak (fun x h => ⟨h.1, by omega, fun hu => h.2.2 (.inl hu)⟩)⟩, (mk2_50).more (fun x _ hu => .inl hu), CH_50⟩
 try simp only [bX] at hc7
 have hbest := hgo.plain hc7
 have hbf := hbd
 refine Qn (Qa (Qe ?_))
 have ch_38 := ch_37.keep c38
 obtain ⟨FA2, fc2, S2, bq2, sl2, hS2, hfl2, hqm2⟩ := ch_38.ex
 have b7_38 := b7_37.keep c38
 have kb_38 := kb_37.keep c38
 have hv28 := Ent.of b7_38 hbest hbf ((kb_38).weak (grow_SU (hi' := w38.heap.size)))
 have mk2_38 := mk2_37.keep c38
 obtain ⟨mm2, mp2, hm2⟩ := mk2_38
 refine Kj 6 [0, 2, 4, 6, 8, 10] (No) ?_
 intro w51 c51 z51
 have b2_51 := b2_37.keep (c38.trans c51)
 have b3_51 := b3_37.keep (c38.trans c51)
 have b4_51 := b4_37.keep (c38.trans c51)
 have b8_51 := b8_37.keep (c38.trans c51)
 have b7_51 := b7_38.keep c51
 have bq_51 := bq2.keep c51
 have mp_51 := mp2.keep c51
 refine Wt (fun hS => Qg ι150 O ((b2_51.keep hS).cell O)) O (Ws (Qq O) O (Ws (Qh υ194 O ς192 O O O) O (Wt (fun hS => Qg ι192 O ((bq_51.keep hS).cell O)) O (Wt (fun hS => Qg ι3 O ((b3_51.keep hS).cell O)) O (Wt (fun hS => Qz ι149 ς149 O O ((b7_51.keep hS).all' O)) O (Cj (Oz (Wk.mapPut υ192 (KeyK.int υ3) O O O mp_51) O ?_)))))))
 rintro _ w52 ⟨c52, zs52, mpn⟩
 have z52 := c52.size
 have C28_51 := (Ch.refl (Is mb) w38).and c51
 have C28_52 : Ch (Is mb) w38 w52 := C28_51.then c52
 have mk3 := MapOk.put C28_52 mpn mp2 hm2 hv28 (by omega)
 refine Qf (Ca (Qa (Kb ?_)))
 have b7_52 := b7_51.to c52
 refine Om (Qz ι149 ς149 O O (b7_52.all' O)) O ?_
 have b4_52 := b4_51.to c52
 refine Ks (Cl ς149 O O O O b4_52) O ?_
 intro w53 c53 z53 b4_53
 refine Ka (Qp ?_)
 have df_51 := df_37.keep (c38.trans c51)
 have df_52 := df_51.to c52
 have df_53 := df_52.to c53
 refine VQ.dropD df_53.blk ?_
 intro w54 W54
 have g54 : Gn w18.heap.size w53 w54 := by rw [W54]; exact Gn.put df_53.blk hD
 have z54 := g54.size
 refine VQ.toM ?_
 have b4_54 := b4_53.toG g54
 refine Rl O O ι149 ς149 O (b4_54.all' O) (Kx ?_)
 have CH_51 := CH_37.and (c38.trans c51)
 have CH_52 : Ch (Is mb) w w52 := CH_51.then c52
 have CH_53 : Ch (Is mb) w w53 := CH_52.then c53
 have CH_54 := CH_53.toG g54 (by omega)
 have zz9 := CH_54.size
 have kb_51 := kb_38.keep c51
 have kb_52 := kb_51.to c52 (by first | exact fun _ _ _ _ => id | (intro x h1 h2 hx h3; omega) | (intro x h1 h2 hx h3; exact h2.2.2 (.inr (by omega))))
 have kb_53 := kb_52.to c53 (by first | exact fun _ _ _ _ => id | (intro x h1 h2 hx h3; omega) | (intro x h1 h2 hx h3; exact h2.2.2 (.inr (by omega))))
 have kb_54 := kb_53.toG g54
 have mk2_53 := mk3.to c53 (by first | exact id | omega) (by first | exact fun _ _ _ _ => id | (intro x h1 h2 hx h3; omega) | (intro x h1 h2 hx h3; exact h2.2.2 (.inr (by omega))))
 have mk2_54 := mk2_53.toG g54 (by omega)
 exact ⟨⟨_, _, _, hbest, hbf.1, hbf.2, O, (kb_54).weak (fun x h => ⟨h.1, by omega, fun hu => h.2.2 (.inl hu)⟩)⟩, (mk2_54).more (fun x _ hu => .inl hu), CH_54⟩
end Go.Tm
namespace Go.Tm
open Go.RowKit Go.Proofs Go.Proofs.Tryz
open Classical in
noncomputable def mu (n : Int) : Nat := if ∃ j : Nat, n = 2 ^ j then n.toNat else n.toNat + 20000
theorem mfind_mem {m : List (Int × Value)} {k : Int} {v : Value} (h : mfind m k = some v) : (k, v) ∈ m := by
 unfold mfind at h
 cases hf : m.find? (fun x => k == x.1) with
 | none => rw [hf] at h; cases h
 | some x =>
  rw [hf] at h
  injection h with h
  have h1 := List.mem_of_find?_eq_some hf
  have h2 := List.find?_some hf
  have h3 : k = x.1 := by simpa using h2
  subst h
  subst h3
  exact h1
theorem cheap_all (P : Pol) (hp : 2 ≤ P.prime) (q mb base : Nat) : ∀ (m : Nat) (n : Int), 1 ≤ n → n ≤ 16384 → mu n < m → CheapOk P q mb base n := by
 intro m
 induction m with
 | zero => intro n _ _ h; omega
 | succ m ih =>
  intro n hn hn2 hmu U w ch mk hq hb hU
  obtain ⟨mm, mp, hmm⟩ := id mk
  cases hf : mfind mm n with
  | none =>
   refine cheapest_miss P q mb base n hn hn2 U w ch mk hq hb hU mm mp hf ?_ ?_
   ·
    intro a ha han hd
    have h1 := divE_ok hn (show 1 ≤ a by omega) hd
    have h2 : n / a * a = n := Int.ediv_mul_cancel (Int.dvd_of_emod_eq_zero hd)
    have h3 : n / a < n := by
     have := Int.mul_le_mul_of_nonneg_left ha (show 0 ≤ n / a by omega)
     omega
    refine ih _ h1.1 (by omega) ?_
    unfold mu at hmu ⊢
    by_cases hp2 : ∃ j : Nat, n = 2 ^ j
    ·
     rw [if_pos hp2] at hmu
     rw [if_pos (pow2_quo hn (by omega) hd hp2)]
     omega
    ·
     rw [if_neg hp2] at hmu
     split <;> omega
   ·
    intro hh
    have h8 := hardM_le hh
    have hu := up2_spec (x := 2 * n - 1)
    have hu2 := up2_le (x := 2 * n - 1) (j := 14)
    simp only [Int.reducePow] at hu2
    have hu3 := up2_pos (x := 2 * n - 1)
    refine ih _ hu3 (by omega) ?_
    unfold mu at hmu ⊢
    rw [if_pos hu.1]
    by_cases hp2 : ∃ j : Nat, n = 2 ^ j
    ·
     rw [hard_pow2 hp hn2 hp2] at hh
     cases hh
    ·
     rw [if_neg hp2] at hmu
     omega
  | some v =>
   obtain ⟨r, A, c, h1, h2, h3, h4, h5⟩ := hmm _ (mfind_mem hf)
   simp only at h4 h1
   subst h4
   exact cheapest_hit P q mb base n hn hn2 U w ch mk hq hb hU mm mp r A c hf h1 h2 h3 h5
theorem cheap_ok (P : Pol) (hp : 2 ≤ P.prime) (q mb base : Nat) (n : Int) (hn : 1 ≤ n) (hn2 : n ≤ 16384) : CheapOk P q mb base n := cheap_all P hp q mb base _ n hn hn2 (Nat.lt_succ_self _)
set_option maxRecDepth 100000 in
theorem planner_Choose (P : Pol) (hp : PolOk P) (hl : P.flies.length ≤ 100) (n : Int) (hn : 1 ≤ n) (hn2 : n ≤ 4096) (FA : Option Addr) (fc lo hi : Nat) (w : World) (sl : SlR (In lo hi) w FA P.flies.length 1 (P.flies.map (.int .i64 ·))) (hh : hi ≤ w.heap.size) :
  Calls prog 90 #[Kg n, .agg #[Kg P.direct, .slice FA P.flies.length fc, Kg P.prime]] w (Ret (fun v w' => ∃ r A c, v = .tuple #[ordV r.1 A c, .nilIface] ∧ Best P n r ∧ RdK (In w.heap.size w'.heap.size) w' A r.1.kids ∧ Ch No w w')) := by
 refine Ku func90 O ntmps90 O (Kb (Km (Cp O) O ?_))
 intro p1 w1 b3 c1 e1 z1
 refine Km (Ck ζ53) O ?_
 intro p2 w2 b4 c2 e2 z2
 refine Ww O O (Wz (Kb (Wu O O (Om (Co O O) O ?_))))
 refine Wu O O ?_
 refine Cz (b := _) 3 8 11 O (fun hc1 Jhc1 => by
   refine Oy O (Oy O (Om (Qr O O) O ?_))
   exact (Qo O (Qo O Jhc1))) (fun hc1 Jhc1 => by
   try simp only [bX] at hc1
   refine Wu O O (Om (Rb O O) O (Om (Qm O O) O ?_))
   exact (Qo O (Qo O Jhc1))) ?_
 refine Ka (Cq O (fun hc2 => ?_) (fun hc2 => ?_))
 ·
  try simp only [bX] at hc2
  omega
 try simp only [bX] at hc2
 refine Qn (Qa (Qe (Kb ?_)))
 have b3_2 := b3.keep c2
 refine Om (Qz ι79 ς79 O O (b3_2.all' O)) O ?_
 have sl_2 := sl.keep (c1.trans c2)
 refine Oq (Qi call125 O (planner_Check P _ _ _ _ _ sl_2 (by omega) hp (by omega))) O ?_
 rintro _ w3 ⟨rfl, c3⟩
 have z3 := c3.size
 refine Om (Cr υ28 O) O (Ka (Cc O (Qn (Qa (Kb ?_)))))
 have b3_3 := b3_2.keep c3
 refine Om (Qz ι79 ς79 O O (b3_3.all' O)) O ?_
 have sl_3 := sl_2.keep c3
 refine Oq (Qi call126 O (planner_newChooser P _ _ _ _ _ sl_3 (by omega) (by omega))) O ?_
 rintro _ w4 ⟨q, mb, rfl, ch, mp, hq0, c4⟩
 have z4 := c4.size
 refine Wu O O ?_
 have lq := ch.lt
 refine Oq (Qi call127 O (cheap_ok P hp.2.2.1 q mb w4.heap.size n hn (by omega) (fun y => False) _ ch ⟨[], mp, fun x hx => by cases hx⟩ (by omega) (Nat.le_refl _) (fun y hy => hy.elim))) O ?_
 rintro _ w5 ⟨⟨r, rA, rc, hr1, hr2, hr3, rfl, rk⟩, mkn, c5⟩
 have z5 := c5.size
 refine Om (Rn.fieldV υ149 O ι53 ς53 O) O ?_
 have b4_4 := b4.keep (c3.trans c4)
 have b4_5 := b4_4.to c5
 refine Ks (Cl ς53 O O O O b4_5) O ?_
 intro w6 c6 z6 b4_6
 refine Ww O O (Ka (Qp (VQ.retct O O ι53 ς53 O (b4_6.all' O) O (Kx ?_))))
 have CH_4 := (c1.trans (c2.trans (c3.trans c4)))
 have CH_5 : Ch (No) w w5 := CH_4.then c5
 have CH_6 : Ch (No) w w6 := CH_5.then c6
 have zz := CH_6.size
 have rk_6 := rk.to c6
 exact ⟨r, rA, rc, O, hr1, (rk_6).weak (fun y h => ⟨by omega, by omega⟩), CH_6⟩
end Go.Tm
namespace Go.Tm
open Go.RowKit
abbrev isT (t : TypeId) (w : World) (q : Nat) : Prop := ∃ cs fr, w.heap[q]? = some (.cells cs t fr)
def KT (t : TypeId) (B : Nat) (w w' : World) : Prop := Ch (fun q => B ≤ q ∧ isT t w q) w w'
section
variable {t : TypeId} {B : Nat} {w w' : World} (g : KT t B w w')
include g
end
section
variable {P : Program} {n : Fr} {k : K} {w : World} {d : Option Tmp} {ty : TypeId} {pos : String} {aft : Array Edge} {g : Option (Nat × Bool)}
theorem Wk.appendX {r : Nat} {t u e : TypeId} {x y : Operand} (ht : P.underlying t = some (.slice e)) (hu : P.underlying u = some .string) (hi : Inf P e (.int .u8 0) 1 1)
  {A : Option Addr} {l c : Nat} {cs : List Value} {s : ByteArray} (hex : ev k x = some (.slice A l c)) (hey : ev k y = some (.string s)) (hown : Ow w r e 1 A l c cs) (hbytes : l + s.size ≤ 140737488355328) :
  Wk P n k w { dst := d, op := .call { callee := .builtin .append, args := #[x, y], argTypes := #[t, u] }, type := ty, pos := pos, after := aft, guard := g }
   (fun v w' => ∃ r' A' c', v = .slice A' (l + s.size) c' ∧ Ow w' r' e 1 A' (l + s.size) c' (cs ++ Lib.strCells s) ∧ Ch (At r) w w' ∧ (r' = r ∨ w.heap.size < r')) := by
 obtain ⟨i, hi, hz, hs, hb⟩ := hi
 have key : ∃ r' A' c' w', (Builtin.append_ #[t, u] ty #[.slice A l c, .string s]).run P w = .ok (.slice A' (l + s.size) c') w' ∧ Ow w' r' e 1 A' (l + s.size) c' (cs ++ Lib.strCells s) ∧ Ch (At r) w w' ∧ (r' = r ∨ w.heap.size < r') := by
  obtain ⟨hlen0, hown⟩ := hown
  have hlen : (cs ++ Lib.strCells s).length = (l + s.size) * 1 := by rw [List.length_append, hlen0, Lib.strCells_length]; omega
  have grown : ∀ (old : Nat), old < l + s.size →
    Ow (w.drew.alloc (.cells (cs.toArray ++ (Lib.strCells s).toArray ++ Builtin.zeroCells (Value.int .u8 0).cells (grownCap w (l + s.size) old e - (l + s.size))) e)) (w.heap.size + 1) e 1 (some ⟨w.heap.size, 0, none⟩) (l + s.size) (grownCap w (l + s.size) old e) (cs ++ Lib.strCells s) ∧
    Ch (At r) w (w.drew.alloc (.cells (cs.toArray ++ (Lib.strCells s).toArray ++ Builtin.zeroCells (Value.int .u8 0).cells (grownCap w (l + s.size) old e - (l + s.size))) e)) := by
   intro old ho
   have hge := grownCap_ge w (l + s.size) old e
   have hcm : grownCap w (l + s.size) old e ≤ maxLen := grownCap_le_maxLen w (l + s.size) old e (by simp only [maxLen]; omega)
   refine ⟨⟨hlen, .inr ⟨w.heap.size, _, O, O, heap_alloc_new w.drew _, hge, hcm, ?_, ?_⟩⟩, ⟨O, O, O, by simp, fun q x _ hx => (heap_alloc_old w.drew _ (blk_lt hx)).trans hx⟩⟩
   ·
    have hz1 : (Value.int IntKind.u8 0).cells.size = 1 := rfl
    simp only [Array.size_append, List.size_toArray, size_zeroCells, hz1, hlen0, Lib.strCells_length]
    omega
   ·
    simp only [Array.toList_append, List.append_assoc]
    rw [← List.append_assoc, ← hlen]
    exact List.take_left
  rcases hown with ⟨rfl, rfl, rfl, rfl⟩ | ⟨p, cur, rfl, rfl, hg, hnc, hcm, hcs, htake⟩
  ·
   have hx : cs = [] := List.eq_nil_of_length_eq_zero (by simpa using hlen0)
   subst hx
   by_cases hm : s.size = 0
   ·
    have hn : Lib.strCells s = [] := List.eq_nil_of_length_eq_zero (by rw [Lib.strCells_length]; exact hm)
    refine ⟨0, none, 0, w, ?_, by rw [hm, hn]; exact Ow.nil _ _ _, Ch.refl _ _, .inl O⟩
    have hf := Lib.run_firstCells_string (P := P) w 1 s
    rw [hm] at hf
    simp [Builtin.append_, run_underlying ht, run_underlying hu, sizeOf, typeInfo, hi, hs, Builtin.lenOf, hm, hf]
   ·
    have hr := run_append_nil_string (P := P) w t u ty e i (.int .u8 0) ht hu hi hz s (by omega) (by omega) (by rw [hb]; omega)
    have hgr := grown 0 (by omega)
    simp only [Nat.zero_add, List.nil_append, Array.empty_append] at hgr ⊢
    have e1 : (s.data.map fun b => Value.int .u8 b.toNat) = (Lib.strCells s).toArray := by
     apply Array.ext'
     simp [Lib.strCells]
    rw [e1] at hr
    exact ⟨_, _, _, _, hr, hgr.1, hgr.2, .inr (by omega)⟩
  ·
   by_cases hroom : l + s.size ≤ c
   ·
    have hr := Lib.run_append_room_string (P := P) w t u ty e i ht hu hi hs p l c cur hg s hroom (by omega)
    refine ⟨_, _, _, _, hr, ⟨hlen, .inr ⟨p, _, O, O, setRow_heap w p cur _ e _ hg, hroom, hcm, ?_, ?_⟩⟩, (Sts.of_row O hg).ch.more (fun q _ hq => by rw [hq]), .inl O⟩
    ·
     simp only [List.size_toArray, List.length_append, List.length_take, List.length_drop, Array.length_toList, Lib.strCells_length]
     omega
    ·
     have ht' : cur.toList.take l = cs := by simpa using htake
     rw [ht', ← hlen]
     exact List.take_left
   ·
    have holds : ∀ j u, cs[j]? = some u → w.cell? ((⟨p, 0, none⟩ : Addr).add j) = some u := by
     have := Ow.sl (c := c) ⟨hlen0, .inr ⟨p, cur, rfl, rfl, hg, hnc, hcm, hcs, htake⟩⟩
     exact this.cells _ O
    have hr := Lib.run_append_grow_string (P := P) w t u ty e i (.int .u8 0) ht hu hi hz ⟨p, 0, none⟩ l c cs (by rw [hs]; exact hlen0) holds s (by omega) (by omega) (by rw [hb]; exact growslice_fits (by omega) (by omega))
    have hgr := grown c (by omega)
    exact ⟨_, _, _, _, hr, hgr.1, hgr.2, .inr (by omega)⟩
 refine Rv fun a ha => ?_
 obtain ⟨r', A', c', w', hr, ho, hc, hq⟩ := key
 exact ⟨_, w', by simp [execOp, resolve, invoke, builtin, ha.eval hex, ha.eval hey, hr], r', A', c', O, ho, hc, hq⟩
theorem Rn.bytes_string {S : Nat → Prop} {s t e : TypeId} {x : Operand} {A : Option Addr} {l c : Nat} {bs : List UInt8} (hs : P.underlying s = some (.slice e)) (he : P.underlying e = some (.int .u8)) (hd : P.underlying t = some .string) (hx : ev k x = some (.slice A l c)) (hl : 0 < l) (h : SlR S w A l 1 (bs.map fun b => Value.int .u8 b.toNat)) :
  Rn P n k w { dst := d, op := .convert s t x, type := ty, pos := pos, after := aft, guard := g } (.string ⟨bs.toArray⟩) := by
 obtain ⟨ad, rfl⟩ := h.ne hl
 have hlen : bs.length = l := by have := h.len; simpa using this
 subst hlen
 intro a ha
 have hr := run_convert_bytes_back (P := P) w s t e ad c bs hs he hd (fun j hj => h.cells ad rfl j _ (by simp [hj]))
 simp [execOp, ha.eval hx, hr]
end
end Go.Tm
namespace Go.Tm
open Go.RowKit
def tx : Ord → List UInt8
 | .mk k n ks =>
  if k = 1 then 100 :: Lib.itoa n else if k = 2 then 102 :: Lib.itoa n else if k = 3 then (match ks with
   | [a, b] => [40] ++ tx a ++ [32, 120, 32] ++ tx b ++ [41]
   | _ => []) else (match ks with
   | [a] => [98] ++ Lib.itoa n ++ [40] ++ tx a ++ [41]
   | _ => [])
def okO : Ord → Prop
 | .mk k n ks => 0 ≤ n ∧ n ≤ 16384 ∧ ((k = 1 ∨ k = 2) ∧ ks = [] ∨ k = 3 ∧ (match ks with
   | [a, b] => okO a ∧ okO b
   | _ => False) ∨ k = 4 ∧ (match ks with
   | [a] => okO a
   | _ => False))
theorem okO_n {o : Ord} (h : okO o) : 0 ≤ o.n ∧ o.n ≤ 16384 := by
 obtain ⟨k, n, ks⟩ := o
 unfold okO at h
 exact ⟨h.1, h.2.1⟩
theorem okO_cases {k n : Int} {ks : List Ord} (h : okO (.mk k n ks)) : ((k = 1 ∨ k = 2) ∧ ks = []) ∨ (k = 3 ∧ ∃ a b, ks = [a, b] ∧ okO a ∧ okO b) ∨ (k = 4 ∧ ∃ a, ks = [a] ∧ okO a) := by
 unfold okO at h
 obtain ⟨_, _, h⟩ := h
 rcases h with h | h | h
 · exact .inl h
 ·
  refine .inr (.inl ⟨h.1, ?_⟩)
  obtain ⟨_, h⟩ := h
  split at h
  · exact ⟨_, _, O, h⟩
  · exact h.elim
 ·
  refine .inr (.inr ⟨h.1, ?_⟩)
  obtain ⟨_, h⟩ := h
  split at h
  · exact ⟨_, O, h⟩
  · exact h.elim
theorem okO_three {o : Ord} (h : okO o) (hk : o.kind = 3) : ∃ a b, o.kids[0]? = some a ∧ o.kids[1]? = some b ∧ o.kids = [a, b] ∧ okO a ∧ okO b ∧ tx o = [40] ++ tx a ++ [32, 120, 32] ++ tx b ++ [41] := by
 obtain ⟨k, n, ks⟩ := o
 simp only [Ord.kind] at hk
 subst hk
 rcases okO_cases h with ⟨h, _⟩ | ⟨_, a, b, rfl, ha, hb⟩ | ⟨h, _⟩
 · omega
 · exact ⟨a, b, O, O, O, ha, hb, by simp [tx]⟩
 · omega
theorem okO_four {o : Ord} (h : okO o) (h1 : ¬ o.kind = 1) (h2 : ¬ o.kind = 2) (h3 : ¬ o.kind = 3) : ∃ a, o.kids[0]? = some a ∧ o.kids = [a] ∧ okO a ∧ tx o = [98] ++ Lib.itoa o.n ++ [40] ++ tx a ++ [41] := by
 obtain ⟨k, n, ks⟩ := o
 simp only [Ord.kind] at h1 h2 h3
 rcases okO_cases h with ⟨h, _⟩ | ⟨h, _⟩ | ⟨_, a, rfl, ha⟩
 · omega
 · omega
 · exact ⟨a, O, O, ha, by simp [tx, h1, h2, h3, Ord.n]⟩
theorem tx_one {o : Ord} (h : o.kind = 1) : tx o = 100 :: Lib.itoa o.n := by
 obtain ⟨k, n, ks⟩ := o
 simp only [Ord.kind] at h
 unfold tx
 rw [if_pos h]; rfl
theorem tx_two {o : Ord} (h1 : ¬ o.kind = 1) (h : o.kind = 2) : tx o = 102 :: Lib.itoa o.n := by
 obtain ⟨k, n, ks⟩ := o
 simp only [Ord.kind] at h h1
 unfold tx
 rw [if_neg h1, if_pos h]; rfl
end Go.Tm
namespace Go.Proofs
open Go.Shelf
def Tryz.lays283_ren : Go.Shelf.Ren := ⟨fun | 283 => 286 | n => n, fun | 3 => 3 | 9 => 9 | 4 => 4 | n => n, fun | n => n⟩
theorem Tryz.lays283 : Go.Proofs.Lays.n283 Tryz.prog Tryz.lays283_ren := {
 mixed := by kernel_rfl
 f283 := Tryz.func286.trans (congrArg some (by kernel_rfl))
 t3 := Tryz.underlying3
 a3 := Tryz.isAgg3
 z3 := Tryz.sizeOf3
 v3 := Tryz.zeroValue3
 t4 := Tryz.underlying4
 a4 := Tryz.isAgg4
 z4 := Tryz.sizeOf4
 v4 := Tryz.zeroValue4
 t9 := Tryz.underlying9
 a9 := Tryz.isAgg9
 z9 := Tryz.sizeOf9
 v9 := Tryz.zeroValue9 }
open Go.Lib in
theorem Tryz.internal_strconv_small (i : Nat) (h : i < 100) (w : World) :
  Calls Tryz.prog 286 #[.int .i64 i] w fun e w' => e = .returned (.string ⟨(Lib.decDigits i).toArray⟩) ∧ w' = w := Any.internal_strconv_small Tryz.lays283 i h w
def Tryz.laysM284_ren : Go.Shelf.Ren := ⟨fun | 284 => 287 | 129 => 300 | 317 => 299 | 318 => 301 | n => n, fun | 53 => 74 | 3 => 3 | 212 => 314 | 0 => 0 | 4 => 4 | 46 => 44 | 5 => 5 | 9 => 9 | n => n, fun | 17 => 21 | n => n⟩
theorem Tryz.laysM284 : Go.Proofs.LaysM.n284 Tryz.prog Tryz.laysM284_ren := {
 mixed := by kernel_rfl
 f129 := Tryz.func300.trans (congrArg some (by kernel_rfl))
 f284 := Tryz.func287.trans (congrArg some (by kernel_rfl))
 f317 := Tryz.func299.trans (congrArg some (by kernel_rfl))
 f318 := Tryz.func301.trans (congrArg some (by kernel_rfl))
 t0 := Tryz.underlying0
 a0 := Tryz.isAgg0
 z0 := Tryz.sizeOf0
 v0 := Tryz.zeroValue0
 t3 := Tryz.underlying3
 a3 := Tryz.isAgg3
 z3 := Tryz.sizeOf3
 v3 := Tryz.zeroValue3
 t4 := Tryz.underlying4
 a4 := Tryz.isAgg4
 z4 := Tryz.sizeOf4
 v4 := Tryz.zeroValue4
 t5 := Tryz.underlying5
 a5 := Tryz.isAgg5
 z5 := Tryz.sizeOf5
 v5 := Tryz.zeroValue5
 t9 := Tryz.underlying9
 a9 := Tryz.isAgg9
 z9 := Tryz.sizeOf9
 v9 := Tryz.zeroValue9
 t46 := Tryz.underlying44
 a46 := Tryz.isAgg44
 z46 := Tryz.sizeOf44
 v46 := Tryz.zeroValue44
 t53 := Tryz.underlying74
 a53 := Tryz.isAgg74
 z53 := Tryz.sizeOf74
 v53 := Tryz.zeroValue74
 t212 := Tryz.underlying314
 a212 := Tryz.isAgg314
 z212 := Tryz.sizeOf314
 v212 := Tryz.zeroValue314
 g17 := by kernel_rfl
 i0 := by kernel_rfl
 i3 := by kernel_rfl
 i4 := by kernel_rfl
 i5 := by kernel_rfl
 i9 := by kernel_rfl
 i46 := by kernel_rfl
 i53 := by kernel_rfl
 i212 := by kernel_rfl
 m17 := by kernel_rfl }
open Go.Lib in
theorem Tryz.internal_strconv_numDigits (u : Nat) (h1 : 1 ≤ u) (h2 : u < 18446744073709551616) (w : World) (htab : Lib.TabIs Tryz.prog w "internal/strconv.uint64pow10" .u64 Lib.pow10Tab) :
  Calls Tryz.prog 287 #[.int .u64 u] w fun e w' => e = .returned (.int .i64 (Lib.nDigits u)) ∧ w' = w := Any.internal_strconv_numDigits Tryz.laysM284 u h1 h2 w htab
def Tryz.lays285_ren : Go.Shelf.Ren := ⟨fun | 285 => 288 | n => n, fun | 37 => 172 | 53 => 74 | 3 => 3 | 4 => 4 | 51 => 315 | 9 => 9 | 5 => 5 | 0 => 0 | n => n, fun | n => n⟩
theorem Tryz.lays285 : Go.Proofs.Lays.n285 Tryz.prog Tryz.lays285_ren := {
 mixed := by kernel_rfl
 f285 := Tryz.func288.trans (congrArg some (by kernel_rfl))
 t0 := Tryz.underlying0
 a0 := Tryz.isAgg0
 z0 := Tryz.sizeOf0
 v0 := Tryz.zeroValue0
 t3 := Tryz.underlying3
 a3 := Tryz.isAgg3
 z3 := Tryz.sizeOf3
 v3 := Tryz.zeroValue3
 t4 := Tryz.underlying4
 a4 := Tryz.isAgg4
 z4 := Tryz.sizeOf4
 v4 := Tryz.zeroValue4
 t5 := Tryz.underlying5
 a5 := Tryz.isAgg5
 z5 := Tryz.sizeOf5
 v5 := Tryz.zeroValue5
 t9 := Tryz.underlying9
 a9 := Tryz.isAgg9
 z9 := Tryz.sizeOf9
 v9 := Tryz.zeroValue9
 t37 := Tryz.underlying172
 a37 := Tryz.isAgg172
 z37 := Tryz.sizeOf172
 v37 := Tryz.zeroValue172
 t51 := Tryz.underlying315
 a51 := Tryz.isAgg315
 z51 := Tryz.sizeOf315
 v51 := Tryz.zeroValue315
 t53 := Tryz.underlying74
 a53 := Tryz.isAgg74
 z53 := Tryz.sizeOf74
 v53 := Tryz.zeroValue74 }
open Go.RowKit Go.Sort Go.Lib in
theorem Tryz.internal_strconv_formatBase10 (blk off cap : Nat) (u : Nat) (d : Array UInt8) (w : World) (hH : Holds (fun (b : UInt8) => Value.int .u8 (b.toNat : Int)) w blk off d) (hu : u < 10 ^ d.size) (hu64 : u < 18446744073709551616) (hsz : d.size < 4611686018427387904) :
  Calls Tryz.prog 288 #[.slice (some ⟨blk, off, none⟩) d.size cap, .int .u64 u] w fun e w' =>
   e = .returned (.tuple #[]) ∧ ∃ (n v' : Nat) (dk : Array UInt8), w' = (putRow (fun (b : UInt8) => Value.int .u8 (b.toNat : Int)) w blk off dk).drewN n ∧ FmtInv d.size u 0 v' dk := Any.internal_strconv_formatBase10 Tryz.lays285 blk off cap u d w hH hu hu64 hsz
end Go.Proofs
namespace Go.Tm
set_option maxRecDepth 100000
open Go.RowKit Go.Proofs Go.Proofs.Tryz
theorem slice_cast {A : Option Addr} {l l' c : Nat} (h : l = l') : Value.slice A l c = Value.slice A l' c := by rw [h]
theorem Ow.cast {w : World} {r : Nat} {e : TypeId} {sz : Nat} {A : Option Addr} {l l' c : Nat} {cs cs' : List Value} (h : Ow w r e sz A l c cs) (hl : l = l') (hc : cs = cs') : Ow w r e sz A l' c cs' := by
 subst hl hc
 exact h
theorem fmt10 (p u : Nat) (w : World) (hb : Bk w p Lib.zeros24 298) (hu : 100 ≤ u) (hu64 : u < 18446744073709551616) :
  Calls prog 288 #[.slice (Ki p) (Lib.nDigits u) 24, .int .u64 u] w (Ret fun v w' => v = .tuple #[] ∧ SlR (Is p) w' (Ki p) (Lib.nDigits u) 1 (Lib.byteCells (Lib.decDigits u)) ∧ Ch (Is p) w w') := by
 have hnd : Lib.nDigits u ≤ 20 := by have := Lib.numDigits_eq u (by omega) hu64; split at this <;> omega
 have hH : Go.Sort.Holds (fun (b : UInt8) => Value.int .u8 (b.toNat : Int)) w p 0 (Array.replicate (Lib.nDigits u) 0) := by
  intro j hj
  simp only [Array.size_replicate] at hj
  refine ⟨hb.cell ?_, hb.free⟩
  have hj24 : j < 24 := by omega
  show Lib.zeros24[0 + j]? = _
  rw [Nat.zero_add, Lib.zeros24_at j hj24, getElem!_pos _ j (by simpa using hj)]
  simp
 have h := Tryz.internal_strconv_formatBase10 p 0 24 u (Array.replicate (Lib.nDigits u) 0) w hH (by rw [Array.size_replicate]; exact Lib.lt_pow_nDigits u) hu64 (by rw [Array.size_replicate]; omega)
 rw [Array.size_replicate] at h
 refine h.mono ?_
 rintro e w' ⟨rfl, k, v', dk, rfl, hF⟩
 refine ⟨_, O, O, ⟨?_, fun _ => ⟨_, O⟩, ?_, ?_⟩, ?_⟩
 · rw [Lib.byteCells_length, Lib.decDigits_length, Nat.mul_one]
 ·
  intro ad had j u' hj
  injection had with had
  subst had
  have hjl : j < (Lib.decDigits u).length := by
   have h5 := (List.getElem?_eq_some_iff.1 hj).1
   rwa [Lib.byteCells_length] at h5
  have e5 : (Lib.byteCells (Lib.decDigits u))[j]? = some (Value.int .u8 ((Lib.decDigits u)[j].toNat : Int)) := by simp [Lib.byteCells, hjl]
  rw [e5] at hj
  cases hj
  rw [Lib.row_is_numeral hF j hjl, Lib.add_plain, World.cell?_drewN]
  exact Go.Sort.cell?_putRow (fun (b : UInt8) => Value.int .u8 (b.toNat : Int)) _ p 0 _ dk hH (by rw [hF.size, Array.size_replicate]) j (by rw [hF.size]; rw [Lib.decDigits_length] at hjl; exact hjl)
 ·
  intro ad had
  injection had with had
  subst had
  rfl
 ·
  refine ⟨O, O, O, by simp [Go.Sort.putRow, Go.Sort.mapBlock, World.drewN], fun q x hq hx => ?_⟩
  have hq : ¬ p = q := fun e => hq e.symm
  simp [Go.Sort.putRow, Go.Sort.mapBlock, World.drewN, Array.getElem?_modify, hq, hx]
theorem Rn.sliceArr {P : Program} {n : Fr} {k : K} {w : World} {d : Option Nat} {ty : TypeId} {pos : String} {aft : Array Edge} {g : Option (Nat × Bool)} {t e : TypeId} {m sz : Nat} {x y : Operand} {ad : Addr} {q : IntKind} {h : Int} (ht : P.underlying t = some (.array m e)) (hz : ∀ w, (sizeOf e).run P w = .ok sz w)
  (hx : ev k x = some (.pointer (some ad))) (hy : ev k y = some (.int q h)) (h0 : 0 ≤ h) (h1 : h ≤ m) (hm : m ≠ 0) :
  Rn P n k w { dst := d, op := .slice t x none (some y) none, type := ty, pos := pos, after := aft, guard := g } (.slice (some (ad.add 0)) h.toNat m) :=
 fun a ha => by
  have hal : P.arrayLen t = m := by simp [Program.arrayLen, ht]
  have hel : P.elem t = e := by simp [Program.elem, ht]
  have hr := run_sliceAt_array_h w t ad (by rw [ht, hal, hel]) q h h0 (by rw [hal]; exact h1)
  rw [hal, hel, hz] at hr
  simp [execOp, ha.eval hx, ha.eval hy, hr, slicedAt, Result.andThen, hm]
def TabB (B : Nat) (w : World) : Prop := Lib.TabIs prog w "internal/strconv.uint64pow10" .u64 Lib.pow10Tab ∧ ∀ g, Tryz.prog.globalNamed "internal/strconv.uint64pow10" = some g → g < B
theorem TabB.to {B : Nat} {D : Nat → Prop} {w w' : World} (h : TabB B w) (c : Ch D w w') (hd : ∀ q, q < w.heap.size → q < B → isC w q → ¬ D q := by first | exact fun _ _ _ _ => id | (intro q h1 h2 hx h3; omega)) : TabB B w' := by
 obtain ⟨h, hB⟩ := h
 refine ⟨?_, hB⟩
 unfold Lib.TabIs World.var? at *
 cases hg : Tryz.prog.globalNamed "internal/strconv.uint64pow10" with
 | none => simp [hg] at h
 | some g =>
  simp only [hg, Option.bind_some] at h ⊢
  cases hx : w.heap[g]? with
  | none => rw [hx] at h; simp at h
  | some x =>
   rw [hx] at h
   have hc : isC w g := by
    cases x <;> simp at h
    exact ⟨_, _, _, hx⟩
   rw [c.old _ _ (hd g (blk_lt hx) (hB g hg) hc) hx]
   exact h
theorem TabB.up {B B2 : Nat} {w : World} (h : TabB B w) (hB : B ≤ B2) : TabB B2 w := ⟨h.1, fun g hg => Nat.lt_of_lt_of_le (h.2 g hg) hB⟩
theorem TabB.keep {B : Nat} {w w' : World} (h : TabB B w) (c : Ch No w w') : TabB B w' := h.to c fun _ _ _ _ => id
theorem small10 (u : Nat) (h : u < 100) (w : World) : Calls prog 286 #[Kg u] w (Ret fun v w' => v = .string ⟨(Lib.decDigits u).toArray⟩ ∧ w = w') := by
 refine (Tryz.internal_strconv_small u h w).mono ?_
 rintro e w' ⟨rfl, rfl⟩
 exact ⟨_, O, O, O⟩
theorem digits10 (B u : Nat) (h1 : 1 ≤ u) (h2 : u < 18446744073709551616) (w : World) (h : TabB B w) : Calls prog 287 #[.int .u64 u] w (Ret fun v w' => v = Kg (Lib.nDigits u) ∧ w = w') := by
 refine (Tryz.internal_strconv_numDigits u h1 h2 w h.1).mono ?_
 rintro e w' ⟨rfl, rfl⟩
 exact ⟨_, O, O, O⟩
theorem nd20 {u : Nat} (hu : u < 18446744073709551616) : Lib.nDigits u ≤ 20 := by
 by_cases h : u = 0
 · subst h; rw [Lib.nDigits]; simp
 ·
  have := Lib.numDigits_eq u (by omega) hu
  split at this <;> omega
theorem bytes_one (l : List UInt8) : (Lib.byteCells l).all Value.oneCell' = true := by
 simp [Lib.byteCells, Value.oneCell']
theorem inf5w10 : Inf prog 5 (.int .u8 0) 1 1 := ⟨Tryz.t5, type5, rfl, rfl, rfl⟩
theorem appendUint (Bd u r : Nat) (A : Option Addr) (l c : Nat) (cs : List Value) (w : World) (hu : u < 18446744073709551616) (row : Ow w r 5 1 A l c cs) (hr : r = 0 ∨ Bd < r) (hB : Bd ≤ w.heap.size) (hl : l + 21 ≤ 1000000) (tab : TabB Bd w) :
  Calls prog 258 #[.slice A l c, .int .u64 u, Kg 10] w (Ret (fun v w' => ∃ r' A' c', v = .slice A' (l + (Lib.decDigits u).length) c' ∧ Ow w' r' 5 1 A' (l + (Lib.decDigits u).length) c' (cs ++ Lib.byteCells (Lib.decDigits u)) ∧ Ch (At r) w w' ∧ (r' = r ∨ w.heap.size < r'))) := by
 refine Ku func258 O ntmps258 O ?_
 have hd20 := nd20 hu
 have hdl : (Lib.decDigits u).length = Lib.nDigits u := Lib.decDigits_length u; have yr := row.lt
 refine Kb (Ww O O (Wz (Kb ?_)))
 refine Wu O O (Om (Cg O O) O (Ka (Qj O (fun hc1 => ?_) (fun hc1 => ?_))))
 ·
  refine Qe (Kb (Wu O O (Om (Co O O) O (Ka (Qj O (fun hc2 => ?_) (fun hc2 => ?_))))))
  ·
   refine Kb (Wu O O (Wu O O ?_))
   refine Om (Rn.conv_in υ74 υ3 O (by rw [IntKind.wrap_i64]; omega)) O ?_
   refine Oq (Qi call286 O (small10 _ (by omega) _)) O ?_
   rintro _ _ ⟨rfl, rfl⟩
   refine Oq (Wk.appendX υ172 υ9 inf5w10 O O row (by rw [show ByteArray.size ⟨(Lib.decDigits u).toArray⟩ = (Lib.decDigits u).length from rfl]; omega)) O ?_
   rintro _ w1 ⟨r1, A1, k1, rfl, o1, c1, q1⟩
   have z1 := c1.size
   have y1 := o1.lt
   refine Ww O O (Ka (Qp (Qw (Qw (Qx O O (Kx ?_))))))
   have CH_1 : Ch (At r) w w1 := (Ch.refl (At r) w).then c1
   exact ⟨_, _, _, O, o1, CH_1, by omega⟩
  refine Qn (Qa (Kb (Km (Ck zeroValue298) O ?_)))
  intro p2 w2 b7 c2 e2 z2
  refine Wy (Wu O O ?_)
  have tab_2 := tab.keep c2
  refine Oq (Qi call287 O (digits10 Bd _ (by omega) (by omega) _ tab_2)) O ?_
  rintro _ _ ⟨rfl, rfl⟩
  refine Ww O O (Wy (Wu O O (Om (Rn.sliceArr underlying298 ς5 O O (by omega) (by omega) (by decide)) O (Wu O O ?_))))
  refine Oq (Qi call288 O (fmt10 _ _ _ b7 (by omega) (by omega))) O ?_
  rintro _ w3 ⟨rfl, dg3, c3⟩
  have z3 := c3.size
  refine Wy (Wu O O (Wu O O (Om (Rn.sliceArr underlying298 ς5 O O (by omega) (by omega) (by decide)) O ?_)))
  have row_2 := row.keep c2
  have row_3 := row_2.to c3
  refine Oq (Cm (S := _) υ172 inf5w10 O (by decide) O O row_3 dg3 (bytes_one _) (fun h => by have := Lib.nDigits_pos u; omega) (by omega) (by simp only [maxLen]; omega)) O ?_
  rintro _ w4 ⟨r4, A4, k4, rfl, o4, c4, q4⟩
  have z4 := c4.size
  have y4 := o4.lt
  refine Ww O O (Ka (Qp (Qw (Qx O O (Kx ?_)))))
  rw [hdl]
  have CH_2 := (Ch.refl (At r) w).and c2
  have CH_3 : Ch (At r) w w3 := CH_2.then c3
  have CH_4 : Ch (At r) w w4 := CH_3.then c4
  exact ⟨_, _, _, O, o4, CH_4, by omega⟩
 exact absurd O hc1
theorem appendInt1 (Bd u r : Nat) (A : Option Addr) (l c : Nat) (cs : List Value) (w : World) (hu : u < 9223372036854775808) (row : Ow w r 5 1 A l c cs) (hr : r = 0 ∨ Bd < r) (hB : Bd ≤ w.heap.size) (hl : l + 21 ≤ 1000000) (tab : TabB Bd w) :
  Calls prog 221 #[.slice A l c, Kg u, Kg 10] w (Ret (fun v w' => ∃ r' A' c', v = .slice A' (l + (Lib.decDigits u).length) c' ∧ Ow w' r' 5 1 A' (l + (Lib.decDigits u).length) c' (cs ++ Lib.byteCells (Lib.decDigits u)) ∧ Ch (At r) w w' ∧ (r' = r ∨ w.heap.size < r'))) := by
 refine Ku func221 O ntmps221 O (Kb (Ww O O (Wy ?_)))
 refine Wu O O ?_
 refine Om (Rn.conv_in underlying2 υ74 O (by rw [IntKind.wrap_u64]; omega)) O ?_
 refine Ww O O (Wz (Kb (Wu O O (Om (Co O O) O ?_))))
 refine Ka (Qj O (fun hc1 => ?_) (fun hc1 => ?_))
 · omega
 refine Qn (Qa (Kb (Wu O O (Wu O O (Wu O O (Oq (Qi call258 O (appendUint Bd u _ _ _ _ _ _ (by omega) row (by omega) (by omega) (by omega) tab)) O ?_))))))
 rintro _ w1 ⟨r1, A1, k1, rfl, o1, c1, q1⟩
 have z1 := c1.size
 refine Ww O O (Ka (Qp (Qx O O (Kx ?_))))
 have CH_1 : Ch (At r) w w1 := (Ch.refl (At r) w).then c1
 exact ⟨_, _, _, O, o1, CH_1, by omega⟩
theorem appendInt (Bd u r : Nat) (A : Option Addr) (l c : Nat) (cs : List Value) (w : World) (hu : u < 9223372036854775808) (row : Ow w r 5 1 A l c cs) (hr : r = 0 ∨ Bd < r) (hB : Bd ≤ w.heap.size) (hl : l + 21 ≤ 1000000) (tab : TabB Bd w) :
  Calls prog 171 #[.slice A l c, Kg u, Kg 10] w (Ret (fun v w' => ∃ r' A' c', v = .slice A' (l + (Lib.decDigits u).length) c' ∧ Ow w' r' 5 1 A' (l + (Lib.decDigits u).length) c' (cs ++ Lib.byteCells (Lib.decDigits u)) ∧ Ch (At r) w w' ∧ (r' = r ∨ w.heap.size < r'))) := by
 refine Ku func171 O ntmps171 O (Kb (Ww O O (Wy ?_)))
 refine Wu O O (Wu O O (Wu O O (Oq (Qi call221 O (appendInt1 Bd u _ _ _ _ _ _ (by omega) row (by omega) (by omega) (by omega) tab)) O ?_)))
 rintro _ w1 ⟨r1, A1, k1, rfl, o1, c1, q1⟩
 have z1 := c1.size
 refine Ww O O (Ka (Qp (Qx O O (Kx ?_))))
 have CH_1 : Ch (At r) w w1 := (Ch.refl (At r) w).then c1
 exact ⟨_, _, _, O, o1, CH_1, by omega⟩
end Go.Tm
namespace Go.Tm
set_option maxRecDepth 100000
open Go.RowKit Go.Proofs Go.Proofs.Tryz
theorem appendIntZ (Bd r : Nat) (A : Option Addr) (l c : Nat) (cs : List Value) (i : Int) (w : World) (h0 : 0 ≤ i) (h1 : i ≤ 16384) (hown : Ow w r 5 1 A l c cs) (hr : r = 0 ∨ Bd < r) (hB : Bd ≤ w.heap.size) (hl : l + 21 ≤ 1000000) (ht : TabB Bd w) :
  Calls prog 171 #[.slice A l c, Kg i, Kg 10] w (Ret fun v w' => ∃ r' A' c', v = .slice A' (l + (Lib.itoa i).length) c' ∧ Ow w' r' 5 1 A' (l + (Lib.itoa i).length) c' (cs ++ Lib.byteCells (Lib.itoa i)) ∧ Ch (At r) w w' ∧ (r' = r ∨ w.heap.size < r')) := by
 obtain ⟨u, rfl⟩ := Int.eq_ofNat_of_zero_le h0
 rw [Lib.itoa_nonneg]
 exact appendInt Bd u r A l c cs w (by omega) hown hr hB hl ht
theorem inf5w11 : Inf prog 5 (.int .u8 0) 1 1 := ⟨Tryz.t5, type5, rfl, rfl, rfl⟩
theorem order_Check (o : Ord) (A : Option Addr) (c : Nat) (lo hi : Nat) (w : World) (kd : RdK (In lo hi) w A o.kids) (hh : hi ≤ w.heap.size) (hg : o.len ≠ 0) :
  Calls prog 141 #[ordV o A c] w (Ret (fun v w' => v = .nilIface ∧ Ch No w w')) := by
 refine Ku func141 O ntmps141 O (Kb (Km (Cp O) O ?_))
 intro p1 w1 b1 c1 e1 z1
 refine Ww O O (Wz (Kb (Om (Qz ι53 ς53 O O (b1.all' O)) O ?_)))
 have kd_1 := kd.keep c1
 refine Oq (Qi κ170 O (order_Length o _ _ _ _ _ kd_1)) O ?_
 rintro _ w2 ⟨rfl, c2⟩
 have z2 := c2.size
 refine Om (Cg O O) O (Ka (Qj O (fun hc1 => ?_) (fun hc1 => ?_)))
 · exact absurd hc1 hg
 refine Qn (Qa (Kb (Ww O O (Ka (Qp ?_)))))
 refine Qx O O (Kx ?_)
 have CH_2 := (c1.trans c2)
 exact ⟨O, CH_2⟩
set_option maxHeartbeats 1000000 in
theorem order_text (m : Nat) : ∀ (o : Ord) (A : Option Addr) (c : Nat) (lo hi Bd r : Nat) (XA : Option Addr) (l xc : Nat) (cs : List Value) (w : World) (_ : SizeOf.sizeOf o < m) (_ : RdK (In lo hi) w A o.kids) (_ : hi ≤ Bd) (_ : Bd ≤ w.heap.size) (_ : Ow w r 5 1 XA l xc cs) (_ : r = 0 ∨ Bd < r) (_ : TabB Bd w) (_ : okO o) (_ : l + (tx o).length ≤ 900000), Calls prog 142 #[.slice XA l xc, ordV o A c] w (Ret (fun v w' => ∃ r' A' c', v = .slice A' (l + (tx o).length) c' ∧ Ow w' r' 5 1 A' (l + (tx o).length) c' (cs ++ Lib.byteCells (tx o)) ∧ Ch (At r) w w' ∧ (r' = r ∨ w.heap.size < r'))) := by
 induction m with
 | zero => intros; omega
 | succ m ih =>
 intro o A c lo hi Bd r XA l xc cs w hs kd hh hB row hr tab hg hle
 refine Ku func142 O ntmps142 O ?_
 have hn := okO_n hg; have hk0 := kids_lt o; have yr := row.lt
 refine Kb (Km (Cp O) O ?_)
 intro p1 w1 b3 c1 e1 z1
 refine Ww O O (Wz (Kb (Om (Qh υ53 O ς3 O O O) O (Om (Qg ι3 O (b3.cell O)) O ?_))))
 refine Ka (Qt (Kb (Om (Cg O O) O (Ww O O (Qf ?_)))))
 refine Qa (Qj O (fun hc1 => ?_) (fun hc1 => ?_))
 ·
  have htx := tx_one hc1
  rw [htx] at hle
  simp only [List.length_append, List.length_cons, List.length_nil] at hle
  refine Qe (Kj 6 [0, 6, 8, 3, 5, 11] (At r) ?_)
  intro w2 c2 z2
  have row_2 := row.keep (c1.trans c2)
  have b3_2 := b3.keep c2
  refine Wv O O (Ws (Qh υ53 O ς3 O O O) O (Wt (fun hS => Qg ι3 O ((b3_2.to hS).cell O)) O (Kr 1 1 (Kl υ172 inf5w11 O O) O ?_)))
  intro p3 w3 l10 l10o c3 e3 z3
  have RD_3 := (Ch.refl (At r) w2).and c3
  refine ⟨RD_3, ?_⟩
  have row_3 := row_2.keep c3
  refine Hq (Cm (S := _) υ172 inf5w11 O (by decide) O O row_3 l10 (by rfl) (fun h => by simp at h) (by omega) (by simp only [maxLen]; omega)) O ?_
  rintro _ w4 ⟨r4, A4, k4, rfl, o4, c4, q4⟩
  have z4 := c4.size
  have y4 := o4.lt
  have RD_4 : Ch (At r) w2 w4 := RD_3.then c4
  refine ⟨RD_4, ?_⟩
  have tab_3 := tab.keep (c1.trans (c2.trans c3))
  have tab_4 := tab_3.to c4
  refine Hq (Qi call171 O (appendIntZ Bd _ _ _ _ _ o.n _ hn.1 hn.2 o4 (by omega) (by omega) (by omega) tab_4)) O ?_
  rintro _ w5 ⟨r5, A5, k5, rfl, o5, c5, q5⟩
  have y5 := o5.lt
  have z5 := c5.size
  have RD_5 : Ch (At r) w2 w5 := RD_4.then c5
  refine ⟨RD_5, ?_⟩
  refine Cj (Ww O O (Qf (Ca (Qa (Qp (Cb (Qw ?_)))))))
  refine Qx O O (Kx ?_)
  have CH_3 := (Ch.refl (At r) w).and (c1.trans (c2.trans c3))
  have CH_4 : Ch (At r) w w4 := CH_3.then c4
  have CH_5 : Ch (At r) w w5 := CH_4.then c5
  refine ⟨r5, A5, k5, slice_cast ?_, o5.cast ?_ (by rw [htx]; simp [flat, Value.cells, Lib.byteCells, Lib.strCells]), CH_5, by omega⟩
  all_goals (rw [htx]; simp [ByteArray.size]; omega)
 refine Kb (Om (Cg O O) O (Ww O O (Ka (Qj O (fun hc2 => ?_) (fun hc2 => ?_)))))
 ·
  have htx := tx_two hc1 hc2
  rw [htx] at hle
  simp only [List.length_append, List.length_cons, List.length_nil] at hle
  refine Qe (Kj 6 [0, 6, 8, 3, 5, 11] (At r) ?_)
  intro w6 c6 z6
  have row_6 := row.keep (c1.trans c6)
  have b3_6 := b3.keep c6
  refine Wv O O (Ws (Qh υ53 O ς3 O O O) O (Wt (fun hS => Qg ι3 O ((b3_6.to hS).cell O)) O (Kr 1 1 (Kl υ172 inf5w11 O O) O ?_)))
  intro p7 w7 l18 l18o c7 e7 z7
  have RD_7 := (Ch.refl (At r) w6).and c7
  refine ⟨RD_7, ?_⟩
  have row_7 := row_6.keep c7
  refine Hq (Cm (S := _) υ172 inf5w11 O (by decide) O O row_7 l18 (by rfl) (fun h => by simp at h) (by omega) (by simp only [maxLen]; omega)) O ?_
  rintro _ w8 ⟨r8, A8, k8, rfl, o8, c8, q8⟩
  have z8 := c8.size
  have y8 := o8.lt
  have RD_8 : Ch (At r) w6 w8 := RD_7.then c8
  refine ⟨RD_8, ?_⟩
  have tab_7 := tab.keep (c1.trans (c6.trans c7))
  have tab_8 := tab_7.to c8
  refine Hq (Qi call171 O (appendIntZ Bd _ _ _ _ _ o.n _ hn.1 hn.2 o8 (by omega) (by omega) (by omega) tab_8)) O ?_
  rintro _ w9 ⟨r9, A9, k9, rfl, o9, c9, q9⟩
  have y9 := o9.lt
  have z9 := c9.size
  have RD_9 : Ch (At r) w6 w9 := RD_8.then c9
  refine ⟨RD_9, ?_⟩
  refine Cj (Ww O O (Qf (Ca (Qa (Qp (Cb (Qw ?_)))))))
  refine Qx O O (Kx ?_)
  have CH_7 := (Ch.refl (At r) w).and (c1.trans (c6.trans c7))
  have CH_8 : Ch (At r) w w8 := CH_7.then c8
  have CH_9 : Ch (At r) w w9 := CH_8.then c9
  refine ⟨r9, A9, k9, slice_cast ?_, o9.cast ?_ (by rw [htx]; simp [flat, Value.cells, Lib.byteCells, Lib.strCells]), CH_9, by omega⟩
  all_goals (rw [htx]; simp [ByteArray.size]; omega)
 refine Kb (Om (Cg O O) O (Ww O O (Ka (Qj O (fun hc3 => ?_) (fun hc3 => ?_)))))
 ·
  obtain ⟨a, b, ha, hb, hab, hga, hgb, htx⟩ := okO_three hg hc3
  rw [htx] at hle
  simp only [List.length_append, List.length_cons, List.length_nil] at hle
  have la := kid_lt ha; have lb := kid_lt hb; have hkl : o.kids.length = 2 := by rw [hab]; rfl
  refine Qe ?_
  have kd_1 := kd.keep c1
  obtain ⟨kA, kc, ka, kr⟩ := kd_1.kid ha
  refine Kj 8 [0, 6, 8, 10, 12, 3, 5, 15] (At r) ?_
  intro w10 c10 z10
  have row_10 := row.keep (c1.trans c10)
  have b3_10 := b3.keep c10
  have ka_10 := ka.keep c10
  refine Wv O O (Ws (Qh υ53 O ς51 O O O) O (Wt (fun hS => Qg ι51 O ((b3_10.to hS).cell O)) O ?_))
  have kd_10 := kd_1.keep c10
  refine Ws (Qs υ51 ς53 O O (kd_10.ne (by omega))) O ?_
  refine Wt (fun hS => Qz ι53 ς53 O O (ka_10.to hS).1) O ?_
  refine Kr 1 1 (Kl υ172 inf5w11 O O) O ?_
  intro p11 w11 l26 l26o c11 e11 z11
  have RD_11 := (Ch.refl (At r) w10).and c11
  refine ⟨RD_11, ?_⟩
  have row_11 := row_10.keep c11
  refine Hq (Cm (S := _) υ172 inf5w11 O (by decide) O O row_11 l26 (by rfl) (fun h => by simp at h) (by omega) (by simp only [maxLen]; omega)) O ?_
  rintro _ w12 ⟨r12, A12, k12, rfl, o12, c12, q12⟩
  have z12 := c12.size
  have y12 := o12.lt
  have RD_12 : Ch (At r) w10 w12 := RD_11.then c12
  refine ⟨RD_12, ?_⟩
  have kr_11 := kr.keep (c10.trans c11)
  have kr_12 := kr_11.to c12
  have tab_11 := tab.keep (c1.trans (c10.trans c11))
  have tab_12 := tab_11.to c12
  refine Hq (Qi κ142 O (ih a _ _ _ _ Bd _ _ _ _ _ _ (by omega) kr_12 (by omega) (by omega) o12 (by omega) tab_12 hga (by omega))) O ?_
  rintro _ w13 ⟨r13, A13, k13, rfl, o13, c13, q13⟩
  have y13 := o13.lt
  have z13 := c13.size
  have RD_13 : Ch (At r) w10 w13 := RD_12.then c13
  refine ⟨RD_13, ?_⟩
  refine Cj (Ww O O (Qf (Ca (Qa (Qe ?_)))))
  have kd_11 := kd_10.keep c11
  have kd_12 := kd_11.to c12
  have kd_13 := kd_12.to c13
  obtain ⟨kB, kc2, kb, ks⟩ := kd_13.kid hb
  have hs3 : ByteArray.size { data := #[32, 120, 32] } = 3 := rfl
  refine Kj 7 [0, 4, 6, 8, 10, 3, 13] (At r13) ?_
  intro w14 c14 z14
  have row_14 := o13.keep c14
  have b3_11 := b3_10.keep c11
  have b3_12 := b3_11.to c12
  have b3_13 := b3_12.to c13
  have b3_14 := b3_13.keep c14
  have ka_11 := ka_10.keep c11
  have ka_12 := ka_11.to c12
  have ka_13 := ka_12.to c13
  have ka_14 := ka_13.keep c14
  have l26o_12 := l26o.to c12
  have l26o_13 := l26o_12.to c13
  have l26o_14 := l26o_13.keep c14
  have kb_14 := kb.keep c14
  refine Wv O O (Ws (Qh υ53 O ς51 O O O) O (Wt (fun hS => Qg ι51 O ((b3_14.to hS).cell O)) O ?_))
  have kd_14 := kd_13.keep c14
  refine Ws (Qs υ51 ς53 O O (kd_14.ne (by omega))) O ?_
  refine Wt (fun hS => Qz ι53 ς53 O O (kb_14.to hS).1) O ?_
  refine Hq (Wk.appendX υ172 υ9 inf5w11 O O row_14 (by omega)) O ?_
  rintro _ w15 ⟨r15, A15, k15, rfl, o15, c15, q15⟩
  have z15 := c15.size
  have y15 := o15.lt
  have RD_15 : Ch (At r13) w14 w15 := (Ch.refl (At r13) w14).then c15
  refine ⟨RD_15, ?_⟩
  have ks_14 := ks.keep c14
  have ks_15 := ks_14.to c15
  have tab_13 := tab_12.to c13
  have tab_14 := tab_13.keep c14
  have tab_15 := tab_14.to c15
  refine Hq (Qi κ142 O (ih b _ _ _ _ Bd _ _ _ _ _ _ (by omega) ks_15 (by omega) (by omega) o15 (by omega) tab_15 hgb (by omega))) O ?_
  rintro _ w16 ⟨r16, A16, k16, rfl, o16, c16, q16⟩
  have y16 := o16.lt
  have z16 := c16.size
  have RD_16 : Ch (At r13) w14 w16 := RD_15.then c16
  refine ⟨RD_16, ?_⟩
  refine Cj (Ww O O (Qf (Ca (Qa (Kb (Wu O O ?_))))))
  refine Kq 1 1 (Kl υ172 inf5w11 O O) O ?_
  intro p17 w17 l41 l41o c17 e17 z17
  have row_17 := o16.keep c17
  refine Oq (Cm (S := _) υ172 inf5w11 O (by decide) O O row_17 l41 (by rfl) (fun h => by simp at h) (by omega) (by simp only [maxLen]; omega)) O ?_
  rintro _ w18 ⟨r18, A18, k18, rfl, o18, c18, q18⟩
  have z18 := c18.size
  have y18 := o18.lt
  refine Ww O O (Ka (Qp (Cb (Qw (Qx O O (Kx ?_))))))
  have CH_11 := (Ch.refl (At r) w).and (c1.trans (c10.trans c11))
  have CH_12 : Ch (At r) w w12 := CH_11.then c12
  have CH_13 : Ch (At r) w w13 := CH_12.then c13
  have CH_14 := CH_13.and c14
  have CH_15 : Ch (At r) w w15 := CH_14.then c15
  have CH_16 : Ch (At r) w w16 := CH_15.then c16
  have CH_17 := CH_16.and c17
  have CH_18 : Ch (At r) w w18 := CH_17.then c18
  refine ⟨r18, A18, k18, slice_cast ?_, o18.cast ?_ (by rw [htx]; simp [flat, Value.cells, Lib.byteCells, Lib.strCells]), CH_18, by omega⟩
  all_goals (rw [htx]; simp [ByteArray.size]; omega)
 obtain ⟨a, ha, hab, hga, htx⟩ := okO_four hg hc1 hc2 hc3
 rw [htx] at hle
 simp only [List.length_append, List.length_cons, List.length_nil] at hle
 have la := kid_lt ha; have hkl : o.kids.length = 1 := by rw [hab]; rfl
 refine Qn (Ql (Qa (Qe (Kj 6 [0, 6, 8, 3, 5, 11] (At r) ?_))))
 intro w19 c19 z19
 have row_19 := row.keep (c1.trans c19)
 have b3_19 := b3.keep c19
 refine Wv O O (Ws (Qh υ53 O ς3 O O O) O (Wt (fun hS => Qg ι3 O ((b3_19.to hS).cell O)) O (Kr 1 1 (Kl υ172 inf5w11 O O) O ?_)))
 intro p20 w20 l44 l44o c20 e20 z20
 have RD_20 := (Ch.refl (At r) w19).and c20
 refine ⟨RD_20, ?_⟩
 have row_20 := row_19.keep c20
 refine Hq (Cm (S := _) υ172 inf5w11 O (by decide) O O row_20 l44 (by rfl) (fun h => by simp at h) (by omega) (by simp only [maxLen]; omega)) O ?_
 rintro _ w21 ⟨r21, A21, k21, rfl, o21, c21, q21⟩
 have z21 := c21.size
 have y21 := o21.lt
 have RD_21 : Ch (At r) w19 w21 := RD_20.then c21
 refine ⟨RD_21, ?_⟩
 have tab_20 := tab.keep (c1.trans (c19.trans c20))
 have tab_21 := tab_20.to c21
 refine Hq (Qi call171 O (appendIntZ Bd _ _ _ _ _ o.n _ hn.1 hn.2 o21 (by omega) (by omega) (by omega) tab_21)) O ?_
 rintro _ w22 ⟨r22, A22, k22, rfl, o22, c22, q22⟩
 have y22 := o22.lt
 have z22 := c22.size
 have RD_22 : Ch (At r) w19 w22 := RD_21.then c22
 refine ⟨RD_22, ?_⟩
 refine Cj (Ww O O (Qf (Ca (Qa (Qe ?_)))))
 have kd_20 := kd.keep (c1.trans (c19.trans c20))
 have kd_21 := kd_20.to c21
 have kd_22 := kd_21.to c22
 obtain ⟨kA, kc, ka, kr⟩ := kd_22.kid ha
 refine Wj 10 (.mv 0 (.mv 3 (.mv 4 (.mv 5 (.mv 6 (.two 1 (.two 2 (.two 7 (.wk 8 (.wk 9 .nil)) 8 (.wk 7 (.wk 9 .nil))) 8 (.wk 2 (.wk 7 (.wk 9 .nil)))) 8 (.wk 1 (.wk 2 (.wk 7 (.wk 9 .nil)))))))))) (fun w1 w' => Ch (At r22) w1 w') mixed (by kernel_rfl) (fun _ _ => Ch.refl _ _) ?_
 intro w23 D23
 have c23 := Ch.of_drew D23; have z23 := c23.size
 have row_23 := o22.keep c23
 have b3_20 := b3_19.keep c20
 have b3_21 := b3_20.to c21
 have b3_22 := b3_21.to c22
 have b3_23 := b3_22.keep c23
 have l44o_21 := l44o.to c21
 have l44o_22 := l44o_21.to c22
 have l44o_23 := l44o_22.keep c23
 have ka_23 := ka.keep c23
 refine Rc (fun w' hS => Qc O) O O O O (Rc (fun w' hS => Qh υ53 O ς51 O O O) O O O O (Rc (fun w' hS => Qg ι51 O ((b3_23.to hS).cell O)) O O O O ?_))
 have kd_23 := kd_22.keep c23
 refine Rc (fun w' hS => Qs υ51 ς53 O O (kd_23.ne (by omega))) O O O O ?_
 refine Rc (fun w' hS => Qz ι53 ς53 O O (ka_23.to hS).1) O O O O ?_
 refine Wl ?_ ?_
 ·
  refine Rs (Kl υ172 inf5w11 O O) O O O O ?_
  rintro _ w24 ⟨p24, rfl, N24⟩
  have c24 := N24.ch
  have e24 := N24.p; have z24 := N24.size
  have l50 := SlR.of_new (sz := 1) (l := 1) N24 rfl
  have l50o := Ow.of_new (sz := 1) (l := 1) N24 rfl (by decide)
  have RD_24 := (Ch.refl (At r22) w23).and c24
  refine ⟨RD_24, ?_⟩
  refine Wl ?_ ?_
  ·
   have row_24 := row_23.keep c24
   refine Rs (Cm (S := _) υ172 inf5w11 O (by decide) O O row_24 l50 (by rfl) (fun h => by simp at h) (by omega) (by simp only [maxLen]; omega)) O O O O ?_
   rintro _ w25 ⟨r25, A25, k25, rfl, o25, c25, q25⟩
   have z25 := c25.size
   have y25 := o25.lt
   have RD_25 : Ch (At r22) w23 w25 := RD_24.then c25
   refine ⟨RD_25, ?_⟩
   refine Wl ?_ ?_
   ·
    have kr_24 := kr.keep (c23.trans c24)
    have kr_25 := kr_24.to c25
    have tab_22 := tab_21.to c22
    have tab_24 := tab_22.keep (c23.trans c24)
    have tab_25 := tab_24.to c25
    refine Rs (Qi κ142 O (ih a _ _ _ _ Bd _ _ _ _ _ _ (by omega) kr_25 (by omega) (by omega) o25 (by omega) tab_25 hga (by omega))) O O O O ?_
    rintro _ w26 ⟨r26, A26, k26, rfl, o26, c26, q26⟩
    have y26 := o26.lt
    have z26 := c26.size
    have RD_26 : Ch (At r22) w23 w26 := RD_25.then c26
    refine ⟨RD_26, ?_⟩
    refine Rs (Kl υ172 inf5w11 O O) O O O O ?_
    rintro _ w27 ⟨p27, rfl, N27⟩
    have c27 := N27.ch
    have e27 := N27.p; have z27 := N27.size
    have l57 := SlR.of_new (sz := 1) (l := 1) N27 rfl
    have l57o := Ow.of_new (sz := 1) (l := 1) N27 rfl (by decide)
    have RD_27 := RD_26.and c27
    refine ⟨RD_27, ?_⟩
    have row_27 := o26.keep c27
    refine Rs (Cm (S := _) υ172 inf5w11 O (by decide) O O row_27 l57 (by rfl) (fun h => by simp at h) (by omega) (by simp only [maxLen]; omega)) O O O O ?_
    rintro _ w28 ⟨r28, A28, k28, rfl, o28, c28, q28⟩
    have z28 := c28.size
    have y28 := o28.lt
    have RD_28 : Ch (At r22) w23 w28 := RD_27.then c28
    refine ⟨RD_28, ?_⟩
    refine Rr (Ww O O (Qf (Ca (Qa (Qp (Qx O O (Kx ?_)))))))
    have CH_20 := (Ch.refl (At r) w).and (c1.trans (c19.trans c20))
    have CH_21 : Ch (At r) w w21 := CH_20.then c21
    have CH_22 : Ch (At r) w w22 := CH_21.then c22
    have CH_24 := CH_22.and (c23.trans c24)
    have CH_25 : Ch (At r) w w25 := CH_24.then c25
    have CH_26 : Ch (At r) w w26 := CH_25.then c26
    have CH_27 := CH_26.and c27
    have CH_28 : Ch (At r) w w28 := CH_27.then c28
    refine ⟨r28, A28, k28, slice_cast ?_, o28.cast ?_ (by rw [htx]; simp [flat, Value.cells, Lib.byteCells, Lib.strCells]), CH_28, by omega⟩
    all_goals (rw [htx]; simp [ByteArray.size]; omega)
   refine Rs (Kl υ172 inf5w11 O O) O O O O ?_
   rintro _ w29 ⟨p29, rfl, N29⟩
   have c29 := N29.ch
   have e29 := N29.p; have z29 := N29.size
   have l57 := SlR.of_new (sz := 1) (l := 1) N29 rfl
   have l57o := Ow.of_new (sz := 1) (l := 1) N29 rfl (by decide)
   have RD_29 := RD_25.and c29
   refine ⟨RD_29, ?_⟩
   have kr_24 := kr.keep (c23.trans c24)
   have kr_25 := kr_24.to c25
   have kr_29 := kr_25.keep c29
   have row_29 := o25.keep c29
   have tab_22 := tab_21.to c22
   have tab_24 := tab_22.keep (c23.trans c24)
   have tab_25 := tab_24.to c25
   have tab_29 := tab_25.keep c29
   refine Rs (Qi κ142 O (ih a _ _ _ _ Bd _ _ _ _ _ _ (by omega) kr_29 (by omega) (by omega) row_29 (by omega) tab_29 hga (by omega))) O O O O ?_
   rintro _ w30 ⟨r30, A30, k30, rfl, o30, c30, q30⟩
   have y30 := o30.lt
   have z30 := c30.size
   have RD_30 : Ch (At r22) w23 w30 := RD_29.then c30
   refine ⟨RD_30, ?_⟩
   have l57_30 := l57.to c30
   refine Rs (Cm (S := _) υ172 inf5w11 O (by decide) O O o30 l57_30 (by rfl) (fun h => by simp at h) (by omega) (by simp only [maxLen]; omega)) O O O O ?_
   rintro _ w31 ⟨r31, A31, k31, rfl, o31, c31, q31⟩
   have z31 := c31.size
   have y31 := o31.lt
   have RD_31 : Ch (At r22) w23 w31 := RD_30.then c31
   refine ⟨RD_31, ?_⟩
   refine Rr (Ww O O (Qf (Ca (Qa (Qp (Qx O O (Kx ?_)))))))
   have CH_20 := (Ch.refl (At r) w).and (c1.trans (c19.trans c20))
   have CH_21 : Ch (At r) w w21 := CH_20.then c21
   have CH_22 : Ch (At r) w w22 := CH_21.then c22
   have CH_24 := CH_22.and (c23.trans c24)
   have CH_25 : Ch (At r) w w25 := CH_24.then c25
   have CH_29 := CH_25.and c29
   have CH_30 : Ch (At r) w w30 := CH_29.then c30
   have CH_31 : Ch (At r) w w31 := CH_30.then c31
   refine ⟨r31, A31, k31, slice_cast ?_, o31.cast ?_ (by rw [htx]; simp [flat, Value.cells, Lib.byteCells, Lib.strCells]), CH_31, by omega⟩
   all_goals (rw [htx]; simp [ByteArray.size]; omega)
  refine Rs (Kl υ172 inf5w11 O O) O O O O ?_
  rintro _ w32 ⟨p32, rfl, N32⟩
  have c32 := N32.ch
  have e32 := N32.p; have z32 := N32.size
  have l57 := SlR.of_new (sz := 1) (l := 1) N32 rfl
  have l57o := Ow.of_new (sz := 1) (l := 1) N32 rfl (by decide)
  have RD_32 := RD_24.and c32
  refine ⟨RD_32, ?_⟩
  have row_32 := row_23.keep (c24.trans c32)
  have l50_32 := l50.keep c32
  refine Rs (Cm (S := _) υ172 inf5w11 O (by decide) O O row_32 l50_32 (by rfl) (fun h => by simp at h) (by omega) (by simp only [maxLen]; omega)) O O O O ?_
  rintro _ w33 ⟨r33, A33, k33, rfl, o33, c33, q33⟩
  have z33 := c33.size
  have y33 := o33.lt
  have RD_33 : Ch (At r22) w23 w33 := RD_32.then c33
  refine ⟨RD_33, ?_⟩
  have kr_32 := kr.keep (c23.trans (c24.trans c32))
  have kr_33 := kr_32.to c33
  have tab_22 := tab_21.to c22
  have tab_32 := tab_22.keep (c23.trans (c24.trans c32))
  have tab_33 := tab_32.to c33
  refine Rs (Qi κ142 O (ih a _ _ _ _ Bd _ _ _ _ _ _ (by omega) kr_33 (by omega) (by omega) o33 (by omega) tab_33 hga (by omega))) O O O O ?_
  rintro _ w34 ⟨r34, A34, k34, rfl, o34, c34, q34⟩
  have y34 := o34.lt
  have z34 := c34.size
  have RD_34 : Ch (At r22) w23 w34 := RD_33.then c34
  refine ⟨RD_34, ?_⟩
  have l57_33 := l57.to c33
  have l57_34 := l57_33.to c34
  refine Rs (Cm (S := _) υ172 inf5w11 O (by decide) O O o34 l57_34 (by rfl) (fun h => by simp at h) (by omega) (by simp only [maxLen]; omega)) O O O O ?_
  rintro _ w35 ⟨r35, A35, k35, rfl, o35, c35, q35⟩
  have z35 := c35.size
  have y35 := o35.lt
  have RD_35 : Ch (At r22) w23 w35 := RD_34.then c35
  refine ⟨RD_35, ?_⟩
  refine Rr (Ww O O (Qf (Ca (Qa (Qp (Qx O O (Kx ?_)))))))
  have CH_20 := (Ch.refl (At r) w).and (c1.trans (c19.trans c20))
  have CH_21 : Ch (At r) w w21 := CH_20.then c21
  have CH_22 : Ch (At r) w w22 := CH_21.then c22
  have CH_32 := CH_22.and (c23.trans (c24.trans c32))
  have CH_33 : Ch (At r) w w33 := CH_32.then c33
  have CH_34 : Ch (At r) w w34 := CH_33.then c34
  have CH_35 : Ch (At r) w w35 := CH_34.then c35
  refine ⟨r35, A35, k35, slice_cast ?_, o35.cast ?_ (by rw [htx]; simp [flat, Value.cells, Lib.byteCells, Lib.strCells]), CH_35, by omega⟩
  all_goals (rw [htx]; simp [ByteArray.size]; omega)
 refine Rs (Kl υ172 inf5w11 O O) O O O O ?_
 rintro _ w36 ⟨p36, rfl, N36⟩
 have c36 := N36.ch
 have e36 := N36.p; have z36 := N36.size
 have l57 := SlR.of_new (sz := 1) (l := 1) N36 rfl
 have l57o := Ow.of_new (sz := 1) (l := 1) N36 rfl (by decide)
 have RD_36 := (Ch.refl (At r22) w23).and c36
 refine ⟨RD_36, ?_⟩
 refine Rs (Kl υ172 inf5w11 O O) O O O O ?_
 rintro _ w37 ⟨p37, rfl, N37⟩
 have c37 := N37.ch
 have e37 := N37.p; have z37 := N37.size
 have l50 := SlR.of_new (sz := 1) (l := 1) N37 rfl
 have l50o := Ow.of_new (sz := 1) (l := 1) N37 rfl (by decide)
 have RD_37 := RD_36.and c37
 refine ⟨RD_37, ?_⟩
 have row_37 := row_23.keep (c36.trans c37)
 refine Rs (Cm (S := _) υ172 inf5w11 O (by decide) O O row_37 l50 (by rfl) (fun h => by simp at h) (by omega) (by simp only [maxLen]; omega)) O O O O ?_
 rintro _ w38 ⟨r38, A38, k38, rfl, o38, c38, q38⟩
 have z38 := c38.size
 have y38 := o38.lt
 have RD_38 : Ch (At r22) w23 w38 := RD_37.then c38
 refine ⟨RD_38, ?_⟩
 have kr_37 := kr.keep (c23.trans (c36.trans c37))
 have kr_38 := kr_37.to c38
 have tab_22 := tab_21.to c22
 have tab_37 := tab_22.keep (c23.trans (c36.trans c37))
 have tab_38 := tab_37.to c38
 refine Rs (Qi κ142 O (ih a _ _ _ _ Bd _ _ _ _ _ _ (by omega) kr_38 (by omega) (by omega) o38 (by omega) tab_38 hga (by omega))) O O O O ?_
 rintro _ w39 ⟨r39, A39, k39, rfl, o39, c39, q39⟩
 have y39 := o39.lt
 have z39 := c39.size
 have RD_39 : Ch (At r22) w23 w39 := RD_38.then c39
 refine ⟨RD_39, ?_⟩
 have l57_37 := l57.keep c37
 have l57_38 := l57_37.to c38
 have l57_39 := l57_38.to c39
 refine Rs (Cm (S := _) υ172 inf5w11 O (by decide) O O o39 l57_39 (by rfl) (fun h => by simp at h) (by omega) (by simp only [maxLen]; omega)) O O O O ?_
 rintro _ w40 ⟨r40, A40, k40, rfl, o40, c40, q40⟩
 have z40 := c40.size
 have y40 := o40.lt
 have RD_40 : Ch (At r22) w23 w40 := RD_39.then c40
 refine ⟨RD_40, ?_⟩
 refine Rr (Ww O O (Qf (Ca (Qa (Qp (Qx O O (Kx ?_)))))))
 have CH_20 := (Ch.refl (At r) w).and (c1.trans (c19.trans c20))
 have CH_21 : Ch (At r) w w21 := CH_20.then c21
 have CH_22 : Ch (At r) w w22 := CH_21.then c22
 have CH_37 := CH_22.and (c23.trans (c36.trans c37))
 have CH_38 : Ch (At r) w w38 := CH_37.then c38
 have CH_39 : Ch (At r) w w39 := CH_38.then c39
 have CH_40 : Ch (At r) w w40 := CH_39.then c40
 refine ⟨r40, A40, k40, slice_cast ?_, o40.cast ?_ (by rw [htx]; simp [flat, Value.cells, Lib.byteCells, Lib.strCells]), CH_40, by omega⟩
 all_goals (rw [htx]; simp [ByteArray.size]; omega)
theorem order_Text (o : Ord) (A : Option Addr) (c : Nat) (lo hi : Nat) (w : World) (kd : RdK (In lo hi) w A o.kids) (hh : hi ≤ w.heap.size) (hg : okO o) (hg0 : o.len ≠ 0) (hx : 0 < (tx o).length) (hle : (tx o).length ≤ 900000) (tab : TabB w.heap.size w) :
  Calls prog 106 #[ordV o A c] w (Ret (fun v w' => v = .tuple #[.string ⟨(tx o).toArray⟩, .nilIface] ∧ Ch No w w')) := by
 refine Ku func106 O ntmps106 O (Kb (Km (Cp O) O ?_))
 intro p1 w1 b1 c1 e1 z1
 refine Ww O O (Ww O O (Wz (Kb (Om (Qz ι53 ς53 O O (b1.all' O)) O ?_))))
 have kd_1 := kd.keep c1
 refine Oq (Qi call141 O (order_Check _ _ _ _ _ _ kd_1 (by omega) hg0)) O ?_
 rintro _ w2 ⟨rfl, c2⟩
 have z2 := c2.size
 refine Ww O O (Wy (Wu O O (Om (Cr υ28 O) O (Qf ?_))))
 refine Qa (Cc O (Qn (Qa (Kb ?_))))
 have b1_2 := b1.keep c2
 refine Om (Qz ι53 ς53 O O (b1_2.all' O)) O ?_
 have kd_2 := kd_1.keep c2
 have tab_2 := tab.keep (c1.trans c2)
 refine Oq (Qi κ142 O (order_text _ _ _ _ _ _ w.heap.size _ _ _ _ _ _ (Nat.lt_succ_self _) kd_2 (by omega) (by omega) (Ow.nil _ _ _) (.inl O) tab_2 hg (by omega))) O ?_
 rintro _ w3 ⟨r3, A3, k3, rfl, o3, c3, q3⟩
 have y3 := o3.lt
 have z3 := c3.size
 refine Om (Rn.bytes_string υ172 υ5 υ9 O (by omega) o3.sl) O (Ww O O (Ww O O (Ka (Qp (Ra O O O (Kx ?_))))))
 have CH_2 := (c1.trans c2)
 have CH_3 : Ch (No) w w3 := CH_2.then c3
 exact ⟨by rfl, CH_3⟩
end Go.Tm
namespace Go.Tm
open Go.RowKit
structure Stp where
  op : Int
  dst : Int
  src : Int
  jump : Int
  count : Int
  n : Int
  k : Int
def Stp.cells (s : Stp) : List Value := [.int .i64 s.op, .int .i64 s.dst, .int .i64 s.src, .int .i64 s.jump, .int .i64 s.count, .int .i64 s.n, .int .i64 s.k]
def kSrc (i : Nat) : Bool := i == 1 || i == 2 || i == 6 || i == 9
def kJmp (i : Nat) : Bool := i == 1 || i == 2 || i == 5 || i == 6
def kK (i : Nat) : Bool := i == 4
def kN (i : Nat) : Int := if i = 5 then 5 else if i = 6 then 64 else if i = 4 ∨ i = 7 ∨ i = 8 ∨ i = 11 then 16384 else 0
def fromM (has : Bool) (x lo hi : Int) : Bool := if has = false then decide (x = 0) else decide (lo ≤ x) && decide (x ≤ hi)
def formM (s : Stp) : Bool :=
 if ¬ (1 ≤ s.op ∧ s.op ≤ 11) then false else
 let i := s.op.toNat
 let least : Int := if s.op = 5 then 2 else 1
 if (fromM true s.dst 0 262143 && fromM true s.count 1 262144 && fromM (kSrc i) s.src 0 262143 && fromM (kJmp i) s.jump 1 262144 && fromM (decide (kN i > 0)) s.n least (kN i) && fromM (kK i) s.k 0 (s.n - 1)) = false then false else
 if s.op = 5 then decide (s.count ≤ s.jump) else if s.op = 6 ∨ s.op = 7 then decide (s.count ≤ s.n) else if s.op = 8 then decide (s.count ≥ 2 * s.n - 1) && decide (s.count ≤ 16384) else true
def actsM (s : Stp) : Int := if formM s = true then s.count else 0
end Go.Tm
