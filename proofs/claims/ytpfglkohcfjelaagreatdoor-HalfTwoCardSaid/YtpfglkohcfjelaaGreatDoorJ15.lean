/- Lemmas of this claim, joined by program. Walks of functions: the document's transform by the order's tree. Walks of functions: the document's transform and its inverse. The planner's choice by rising divisors, in plain Lean. Walks of functions: the document's planner. Conditions: each lemma names its own. -/
import Derived.Test.YtpfglkohcfjelaaGreatDoorJ14
import Derived.Test.YtpfglkohcfjelaaGreatDoorJ12
import Derived.Test.YtpfglkohcfjelaaGreatDoorJ03
set_option linter.all false
namespace Go.Tm
set_option maxRecDepth 100000
open Go.RowKit Go.Proofs Go.Proofs.Tryz
structure LY (n : Nat) (x : Nat → Cx) (zs : List CB) : Prop where
  len : zs.length = n
  get : ∀ j, j < n → cx (zs.getD j (0, 0)) = x j
theorem idxY {R C i j : Nat} (hi : i < R := by omega) (hj : j < C := by omega) : i * C + j < R * C := by
 have h : (i + 1) * C ≤ R * C := Nat.mul_le_mul_right _ hi
 rw [Nat.succ_mul] at h; omega
theorem idxY_inj {R i i' j j' : Nat} (hi : i < R) (hi' : i' < R) (h : j' * R + i' = j * R + i) : j' = j ∧ i' = i := by
 rcases Nat.lt_trichotomy j' j with c | c | c
 ·
  have h1 : (j' + 1) * R ≤ j * R := Nat.mul_le_mul_right _ c
  rw [Nat.succ_mul] at h1; omega
 · subst c; omega
 ·
  have h1 : (j + 1) * R ≤ j' * R := Nat.mul_le_mul_right _ c
  rw [Nat.succ_mul] at h1; omega
structure TuY (R C : Nat) (G : Nat → Nat → Cx) (i j : Nat) (zs : List CB) : Prop where
  len : zs.length = R * C
  get : ∀ i' j', i' < R → j' < C → (i' < i ∨ (i' = i ∧ j' < j)) → cx (zs.getD (j' * R + i') (0, 0)) = G i' j'
theorem TuY.zero (R C : Nat) (G : Nat → Nat → Cx) {n : Nat} (hn : n = R * C) : TuY R C G 0 0 (List.replicate n (0, 0)) := ⟨by simp [hn], fun i' j' _ _ h => by omega⟩
theorem TuY.step {R C i j : Nat} {G : Nat → Nat → Cx} {zs : List CB} {z : CB} (h : TuY R C G i j zs) (hi : i < R) (hj : j < C) (hz : cx z = G i j) : TuY R C G i (j + 1) (zs.set (j * R + i) z) := by
 have hl := h.len
 have hx := idxY hj hi
 rw [Nat.mul_comm C R] at hx
 refine ⟨by rw [List.length_set]; exact hl, fun i' j' hi' hj' hh => ?_⟩
 rw [setC_getD (by omega)]
 by_cases c : j' * R + i' = j * R + i
 ·
  obtain ⟨rfl, rfl⟩ := idxY_inj hi hi' c
  rw [if_pos rfl]; exact hz
 ·
  rw [if_neg c]
  refine h.get i' j' hi' hj' ?_
  rcases hh with hh | ⟨rfl, hh⟩
  · exact .inl hh
  ·
   refine .inr ⟨O, ?_⟩
   rcases Nat.lt_or_ge j' j with d | d
   · exact d
   ·
    obtain rfl : j' = j := by omega
    exact absurd O c
theorem TuY.next {R C i : Nat} {G : Nat → Nat → Cx} {zs : List CB} (h : TuY R C G i C zs) : TuY R C G (i + 1) 0 zs :=
 ⟨h.len, fun i' j' hi' hj' hh => h.get i' j' hi' hj' (by omega)⟩
theorem TuY.all {R C : Nat} {G : Nat → Nat → Cx} {zs : List CB} (hR : 0 < R) (h : TuY R C G R 0 zs) : LY (R * C) (fun m => G (m % R) (m / R)) zs :=
 ⟨h.len, fun m hm => by
  have h1 := Nat.mod_lt m hR
  have h2 : m / R < C := Nat.div_lt_of_lt_mul hm
  have h3 := h.get (m % R) (m / R) h1 h2 (.inl h1)
  rwa [Nat.mul_comm, Nat.div_add_mod] at h3⟩
abbrev RwT := Nat × Option Addr × Nat × List CB
abbrev rwV (b : Nat) (t : RwT) : Value := .slice t.2.1 b t.2.2.1
structure Rws (e : TypeId) (b top r : Nat) (rs : List RwT) (w : World) : Prop where
  ok : ∀ t ∈ rs, Ow w t.1 e 1 t.2.1 b t.2.2.1 (t.2.2.2.map cxV) ∧ t.1 ≤ top ∧ ¬ t.1 = r
theorem Rws.to {D : Nat → Prop} {e : TypeId} {b top r : Nat} {rs : List RwT} {w w' : World} (h : Rws e b top r rs w) (c : Ch D w w') (hd : ∀ q, q < w.heap.size → (q < top ∧ ¬ q + 1 = r) → isC w q → ¬ D q := by first | exact fun _ _ _ _ => id | (intro q h1 h2 hx h3; omega)) : Rws e b top r rs w' :=
 ⟨fun t ht => by
  obtain ⟨h1, h2, h3⟩ := h.ok t ht
  exact ⟨h1.to c fun q hq e hc => hd q hq ⟨by omega, by omega⟩ hc, h2, h3⟩⟩
theorem Rws.keep {e : TypeId} {b top r : Nat} {rs : List RwT} {w w' : World} (h : Rws e b top r rs w) (c : Ch No w w') : Rws e b top r rs w' := h.to c fun _ _ _ _ => id
theorem Rws.nil (e : TypeId) (b top r : Nat) (w : World) : Rws e b top r [] w := ⟨fun t ht => absurd ht (List.not_mem_nil)⟩
theorem Rws.snoc {e : TypeId} {b top r top' r' : Nat} {rs : List RwT} {w : World} (h : Rws e b top r rs w) {t : RwT} (ho : Ow w t.1 e 1 t.2.1 b t.2.2.1 (t.2.2.2.map cxV)) (h1 : top ≤ top') (h2 : t.1 ≤ top') (h3 : ¬ t.1 = r') (h4 : r' = r ∨ top < r') : Rws e b top' r' (rs ++ [t]) w :=
 ⟨fun x hx => by
  rcases List.mem_append.1 hx with hx | hx
  ·
   obtain ⟨a1, a2, a3⟩ := h.ok x hx
   exact ⟨a1, by omega, by omega⟩
  ·
   obtain rfl := List.mem_singleton.1 hx
   exact ⟨ho, h2, h3⟩⟩
theorem Rws.get {e : TypeId} {b top r : Nat} {rs : List RwT} {w : World} (h : Rws e b top r rs w) {j : Nat} (hj : j < rs.length) : Ow w (rs.getD j (0, none, 0, [])).1 e 1 (rs.getD j (0, none, 0, [])).2.1 b (rs.getD j (0, none, 0, [])).2.2.1 ((rs.getD j (0, none, 0, [])).2.2.2.map cxV) := by
 have : rs.getD j (0, none, 0, []) ∈ rs := by rw [List.getD, List.getElem?_eq_getElem hj]; exact List.getElem_mem hj
 exact (h.ok _ this).1
theorem SlR.getR {S : Nat → Prop} {w : World} {A : Option Addr} {l b : Nat} {rs : List RwT} (h : SlR S w A l 1 (rs.map (rwV b))) {i : Int} (h0 : 0 ≤ i) (h1 : i < l) : w.cell? ((sAddr A).add (i.toNat * 1)) = some (rwV b (rs.getD i.toNat (0, none, 0, []))) := SlR.get (f := rwV b) h (0, none, 0, []) h0 h1
def RwC (b : Nat) (F : Nat → Nat → Cx) (rs : List RwT) : Prop := ∀ j, j < rs.length → LY b (F j) (rs.getD j (0, none, 0, [])).2.2.2
theorem RwC.snoc {b : Nat} {F : Nat → Nat → Cx} {rs : List RwT} (h : RwC b F rs) {t : RwT} {j : Nat} (hj : rs.length = j) (ht : LY b (F j) t.2.2.2) : RwC b F (rs ++ [t]) := by
 intro i hi
 rcases Nat.lt_or_ge i rs.length with c | c
 ·
  have := h i c
  simp only [List.getD] at this ⊢
  rwa [List.getElem?_append_left c]
 ·
  obtain rfl : i = j := by simp at hi; omega
  subst hj
  simpa [List.getD] using ht
def HalfY (b k : Nat) (x y : Nat → Cx) (zs : List CB) : Prop := LY b (fun i => if i < k then y i else x i) zs
theorem HalfY.step {b k : Nat} {x y : Nat → Cx} {zs : List CB} {z : CB} (h : HalfY b k x y zs) (hk : k < b) (hz : cx z = y k) : HalfY b (k + 1) x y (zs.set k z) :=
 ⟨by rw [List.length_set]; exact h.len, fun i hi => by
  rw [setC_getD (by rw [h.len]; exact hk)]
  by_cases c : i = k
  · subst c; rw [if_pos rfl, if_pos (by omega)]; exact hz
  ·
   rw [if_neg c, h.get i hi]
   by_cases d : i < k
   · rw [if_pos d, if_pos (by omega)]
   · rw [if_neg d, if_neg (by omega)]⟩
theorem HalfY.now {b k : Nat} {x y : Nat → Cx} {zs : List CB} (h : HalfY b k x y zs) (hk : k < b) : cx (zs.getD k (0, 0)) = x k := by rw [h.get k hk, if_neg (by omega)]
theorem HalfY.zero {b : Nat} {x : Nat → Cx} (y : Nat → Cx) {zs : List CB} (h : LY b x zs) : HalfY b 0 x y zs := ⟨h.len, fun i hi => by rw [h.get i hi, if_neg (by omega)]⟩
theorem HalfY.all {b : Nat} {x y : Nat → Cx} {zs : List CB} (h : HalfY b b x y zs) : LY b y zs := ⟨h.len, fun i hi => by rw [h.get i hi, if_pos hi]⟩
theorem LY.cast {n : Nat} {x y : Nat → Cx} {zs : List CB} (h : LY n x zs) (e : ∀ i, i < n → x i = y i) : LY n y zs := ⟨h.len, fun i hi => by rw [h.get i hi, e i hi]⟩
def TrR (o : Ord) : Prop := ∀ (A : Option Addr) (c lo hi : Nat) (SX : Nat → Prop) (X : Option Addr) (n xc : Nat) (xs : List CB) (w : World), RdK (In lo hi) w A o.kids → hi ≤ w.heap.size → SlR SX w X n 1 (xs.map cxV) → (∀ q, SX q → q < w.heap.size) → o.len = (n : Int) →
 Calls prog 69 #[ordV o A c, .slice X n xc] w (Ret fun v w' => ∃ r B k os, v = .slice B n k ∧ Ow w' r 33 1 B n k (os.map cxV) ∧ LY n (trM o fun j => cx (xs.getD j (0, 0))) os ∧ w.heap.size < r ∧ Ch No w w')
theorem trM_of {o : Ord} (hl : o.len ≠ 0) {n : Nat} (hn : o.len = (n : Int)) {xs : List CB} {x : Nat → Cx} (h : ∀ j, j < n → cx (xs.getD j (0, 0)) = x j) : (trM o fun j => cx (xs.getD j (0, 0))) = trM o x := by
 funext k
 exact trM_loc (GO.of_len hl) _ _ (fun j hj => h j (by rw [← len_sl hl] at hj; omega)) k
theorem Rn.castJ {P : Program} {n : Fr} {k : K} {w : World} {o : Oper} {q : IntKind} {a b : Int} (h : a = b) (x : Rn P n k w o (.int q a)) : Rn P n k w o (.int q b) := h ▸ x
theorem Wk.mkC0 {P : Program} {n : Fr} {k : K} {w : World} {d : Option Tmp} {ty : TypeId} {pos : String} {aft : Array Edge} {g : Option (Nat × Bool)} {t e : TypeId} {by' : Nat} {x y : Operand} {ql qc : IntKind} {c : Int} (ht : P.underlying t = some (.slice e)) (hi : Inf P e (.complex .f64 0 0) 1 by') (hx : ev k x = some (.int ql 0)) (hy : ev k y = some (.int qc c)) (h0 : 0 ≤ c) (hb : (by' : Int) * c ≤ 281474976710656) (hm : c ≤ 281474976710656) :
  Wk P n k w { dst := d, op := .makeSlice t x y, type := ty, pos := pos, after := aft, guard := g }
   (fun v w' => ∃ p c', v = .slice (some ⟨p, 0, none⟩) 0 c' ∧ CR e w' (p + 1) (some ⟨p, 0, none⟩) 0 c' [] ∧ Ch No w w' ∧ p = w.heap.size ∧ w'.heap.size = w.heap.size + 1) :=
 (Wk.make ht hi hx hy (Int.le_refl _) h0 hb (by omega)).mono fun v w' ⟨p, hv, N⟩ => by
  rw [Nat.mul_one] at N
  have e1 : (Value.complex .f64 0 0).cells = #[.complex .f64 0 0] := rfl
  rw [e1, made_one] at N
  refine ⟨p, _, hv, ⟨by simp, .inr ⟨p, _, O, O, N.blk, Nat.zero_le _, by simp only [maxLen]; omega, by simp, by simp⟩⟩, N.ch, N.p, N.size⟩
theorem LY.snoc {os : List CB} {x : Nat → Cx} {i : Nat} {z : CB} (h : ∀ m, m < i → cx (os.getD m (0, 0)) = x m) (hl : os.length = i) (hz : cx z = x i) : ∀ m, m < i + 1 → cx ((os ++ [z]).getD m (0, 0)) = x m := LX.snoc (a := z.1) (b := z.2) h hl hz
theorem LY.of_map {zs : List CB} {l : List Cx} {n : Nat} {x : Nat → Cx} (h : zs.map cx = l) (hl : zs.length = n) (hx : ∀ j, j < n → l.getD j z0 = x j) : LY n x zs :=
 ⟨hl, fun j hj => by rw [← map_getD, h]; exact hx j hj⟩
theorem inf31w102 : Inf prog 31 (.slice none 0 0) 1 24 := ⟨Tryz.t31, type31, rfl, rfl, rfl⟩
theorem inf33w102 : Inf prog 33 (.complex .f64 0 0) 1 16 := ⟨Tryz.t33, type33, rfl, rfl, rfl⟩
set_option maxHeartbeats 4000000 in
theorem ref20_times (a b : Ord) (ta : TrR a) (tb : TrR b) (A : Option Addr) (c lo hi : Nat) (SX : Nat → Prop) (X : Option Addr) (n xc : Nat) (xs : List CB) (la lb : Nat) (w : World) (kd : RdK (In lo hi) w A [a, b]) (hh : hi ≤ w.heap.size) (sx : SlR SX w X n 1 (xs.map cxV)) (hX : ∀ q, SX q → q < w.heap.size) (ea : a.len = (la : Int)) (eb : b.len = (lb : Int)) (h2a : 2 ≤ la) (h2b : 2 ≤ lb) (hn : n = la * lb) (hn2 : n ≤ 16384) :
  Calls prog 115 #[ordV (Ord.mk 3 0 [a, b]) A c, .slice X n xc] w (Ret (fun v w' => ∃ r B k os, v = .slice B n k ∧ CR 33 w' r B n k os ∧ LY n (trM (.mk 3 0 [a, b]) (fun j => cx (xs.getD j (0, 0)))) os ∧ w.heap.size < r ∧ Ch No w w')) := by
 have hk2 : (Ord.mk 3 0 [a, b]).kids.length = 2 := rfl
 have hla : la ≤ n := by rw [hn]; exact Nat.le_mul_of_pos_right _ (by omega)
 have hlb : lb ≤ n := by rw [hn]; exact Nat.le_mul_of_pos_left _ (by omega)
 have hab : (la : Int) * (lb : Int) = (n : Int) := by rw [hn]; push_cast; rfl
 have hxl : xs.length = n := by have := sx.len; simpa using this
 refine Ku func115 O ntmps115 O (Kb (Km (Cp O) O ?_))
 intro p1 w1 b2 c1 e1 z1
 refine Ww O O (Wz ?_)
 have kd_1 := kd.keep c1
 obtain ⟨kA, kc, ka, kr⟩ := kd_1.kid (i := 0) (o := a) rfl
 have hl : a.len ≠ 0 := by omega
 refine Qb (Om (Qh υ53 O ς51 O O O) O (Om (Qg ι51 O (b2.cell O)) O ?_))
 refine Om (Qs υ51 ς53 O O (kd_1.ne (by show 0 < 2; decide)) (by decide) (by show (0 : Int) < 2; decide)) O ?_
 refine Om (Qz ι53 ς53 O O ka.1) O (Oq (Qi call67 O (ref12_Length a _ _ _ _ _ kr (by omega) hl)) O ?_)
 rintro _ w2 ⟨he2, c2⟩
 rw [ea] at he2; subst he2
 have z2 := c2.size
 refine Ww O O (Wz ?_)
 have kd_2 := kd_1.keep c2
 obtain ⟨kB, kc2, kb, ks⟩ := kd_2.kid (i := 1) (o := b) rfl
 have hl : b.len ≠ 0 := by omega
 refine Qb (Om (Qh υ53 O ς51 O O O) O ?_)
 have b2_2 := b2.keep c2
 refine Om (Qg ι51 O (b2_2.cell O)) O ?_
 refine Om (Qs υ51 ς53 O O (kd_2.ne (by show 0 < 2; decide)) (by decide) (by show (1 : Int) < 2; decide)) O ?_
 refine Om (Qz ι53 ς53 O O kb.1) O (Oq (Qi call67 O (ref12_Length b _ _ _ _ _ ks (by omega) hl)) O ?_)
 rintro _ w3 ⟨he3, c3⟩
 rw [eb] at he3; subst he3
 have z3 := c3.size
 refine Ww O O (Wy (Wu O O (Wu O O ?_)))
 refine Om (Rn.castJ hab (Cy O O)) O ?_
 refine Ww O O (Wy (Kc (Wk.lit0 υ184 inf31w102) O ?_))
 intro p4 w4 N4 c4 e4 z4
 have l33o := Ow.of_new (cs := []) (sz := 1) (l := 0) N4 rfl (by decide)
 refine Ww O O (Wz (Kb (Ww O O (Qf ?_))))
 refine Qa (Qt ?_)
 have b2_4 := b2_2.keep (c3.trans c4)
 have kd_4 := kd_2.keep (c3.trans c4)
 have sx_4 := sx.keep (c1.trans (c2.trans (c3.trans c4)))
 have CH_4 := (c1.trans (c2.trans (c3.trans c4)))
 refine Kf (σ := Nat × Nat × Option Addr × Nat × List RwT × Nat) (fun (j, rG, AG, cG, rs, top) => [(1, .slice X n xc), (2, Kh p1), (5, Kg la), (6, Kg lb), (7, Kg n), (8, .slice AG j cG), (9, Kg j)]) (fun (j, rG, AG, cG, rs, top) w' => j ≤ la ∧ rs.length = j ∧ w.heap.size + 1 < rG ∧ top ≤ w'.heap.size ∧ RwC lb (fun j k => twistF (trM b (fun l => (fun j => cx (xs.getD j (0, 0))) (j + la * l)) k) n (j * k % n)) rs ∧ w4.heap.size ≤ w'.heap.size ∧ Bk w' p1 (ordV (.mk 3 0 [a, b]) A c).cells 53 ∧ RdK (In lo hi) w' A [a, b] ∧ SlR SX w' X n 1 (xs.map cxV) ∧ Ow w' rG 31 1 AG j cG (rs.map (rwV lb)) ∧ Rws 33 lb top rG rs w' ∧ Ch (No) w w') (fun (j, rG, AG, cG, rs, top) => la - j) (0, (p4 + 1), (Ki p4), 0, [], w.heap.size) ?_ ?_
 · exact ⟨(by omega), (by rfl), (by omega), (by omega), (fun j h => absurd h (Nat.not_lt_zero _)), (Nat.le_refl _), b2_4, kd_4, sx_4, l33o, (Rws.nil _ _ _ _ _), CH_4⟩
 rintro ⟨j, rG, AG, cG, rs, top⟩ w5 ⟨hj, hrl, hr8, htop, hrc, hsz5, b2_5, kd_5, sx_5, gr_5, rw_5, CH_5⟩
 have yg8 := Ow.lt gr_5
 refine Qe (Kb (Wu O O (Wu O O (Om (Co O O) O (Ka ?_)))))
 refine Qj O (fun hc1 => ?_) (fun hc1 => ?_)
 ·
  refine Qn (Qa (Qe (Qt (Kb (Wu O O (Oq (Wk.mkC0 υ31 inf33w102 O O (by omega) (by omega) (by omega)) O ?_))))))
  rintro _ w6 ⟨p6, k6, rfl, o6, c6, e6, z6⟩
  refine Ww O O (Wz (Kb (Ww O O (Qf ?_))))
  refine Qa (Qt ?_)
  have b2_6 := b2_5.keep c6
  have kd_6 := kd_5.keep c6
  have sx_6 := sx_5.keep c6
  have gr_6 := gr_5.keep c6
  have rw_6 := rw_5.keep c6
  have CH_6 := CH_5.and c6
  refine Kf (σ := Nat × Nat × Option Addr × Nat × List CB) (fun (i, rS, AS, cS, os) => [(1, .slice X n xc), (2, Kh p1), (5, Kg la), (6, Kg lb), (7, Kg n), (8, .slice AG j cG), (9, Kg j), (10, .slice AS i cS), (11, Kg i)]) (fun (i, rS, AS, cS, os) w' => i ≤ lb ∧ (w.heap.size < rS ∧ top < rS ∧ rG < rS) ∧ (∀ m, m < i → cx (os.getD m (0, 0)) = (fun j => cx (xs.getD j (0, 0))) (j + la * m)) ∧ w6.heap.size ≤ w'.heap.size ∧ Bk w' p1 (ordV (.mk 3 0 [a, b]) A c).cells 53 ∧ RdK (In lo hi) w' A [a, b] ∧ SlR SX w' X n 1 (xs.map cxV) ∧ Ow w' rG 31 1 AG j cG (rs.map (rwV lb)) ∧ Rws 33 lb top rG rs w' ∧ CR 33 w' rS AS i cS os ∧ Ch (No) w w') (fun (i, rS, AS, cS, os) => lb - i) (0, (p6 + 1), (Ki p6), k6, []) ?_ ?_
  · exact ⟨(by omega), (by omega), (fun m h => absurd h (Nat.not_lt_zero _)), (Nat.le_refl _), b2_6, kd_6, sx_6, gr_6, rw_6, o6, CH_6⟩
  rintro ⟨i, rS, AS, cS, os⟩ w7 ⟨hile, hrS, hos, hsz7, b2_7, kd_7, sx_7, gr_7, rw_7, s10_7, CH_7⟩
  have hol2 := CR.len s10_7
  refine Qe (Kb (Wu O O (Wu O O (Om (Co O O) O (Ka ?_)))))
  refine Qj O (fun hc2 => ?_) (fun hc2 => ?_)
  ·
   refine Qn (Qa (Qe (Qt ?_)))
   obtain ⟨mi9, hmi9⟩ : ∃ m : Nat, m = la * i := ⟨_, rfl⟩
   have emi9 : (la : Int) * (i : Int) = (mi9 : Int) := by rw [hmi9]; push_cast; rfl
   have bd9 := idxY (R := lb) (C := la) (i := i) (j := j)
   rw [Nat.mul_comm i la, ← hmi9, Nat.mul_comm lb la, ← hn] at bd9
   have tn9 : ((j : Int) + (la : Int) * (i : Int)).toNat = j + mi9 := by omega
   refine Qb (Wu O O (Wu O O (Wu O O (Wu O O (Wu O O ?_)))))
   refine Om (Cy O O) O ?_
   refine Om (Cd O O) O ?_
   refine Om (Qs υ31 ς33 O O (sx_7.ne (by omega))) O (Om (Qg ι33 O (sx_7.getC (by omega) (by omega))) O (Kq 1 1 (Kl υ31 inf33w102 O O) O ?_))
   intro p8 w8 l55 l55o c8 e8 z8
   have s10_8 := s10_7.keep c8
   refine Oq (Cm (S := _) υ31 inf33w102 O (by decide) O O s10_8 l55 (by rfl) (fun h => by simp at h) (by omega) (by simp only [maxLen]; omega)) O ?_
   rintro _ w9 ⟨r9, A9, k9, rfl, o9, c9, q9⟩
   have z9 := c9.size
   have y9 := o9.lt
   refine Ww O O (Qf (Ql (Qa (Qb (Wu O O ?_)))))
   refine Om (Cd O O) O ?_
   refine Ww O O (Qf ?_)
   refine Ke (i + 1, r9, A9, k9, os ++ [xs.getD (j + mi9) (0, 0)]) ?_
   have b2_8 := b2_7.keep c8
   have b2_9 := b2_8.to c9
   have kd_8 := kd_7.keep c8
   have kd_9 := kd_8.to c9
   have sx_8 := sx_7.keep c8
   have sx_9 := sx_8.to c9 (by first | exact fun _ _ _ _ => id | (intro q h1 h2 hx h3; have := hX q h2; omega))
   have gr_8 := gr_7.keep c8
   have gr_9 := gr_8.to c9
   have rw_8 := rw_7.keep c8
   have rw_9 := rw_8.to c9
   have CH_8 := CH_7.and c8
   have CH_9 : Ch (No) w w9 := CH_8.then c9
   exact ⟨(by omega), (by omega), (LY.snoc hos hol2 (by show _ = cx (xs.getD (j + la * i) (0, 0)); rw [hmi9])), (by omega), b2_9, kd_9, sx_9, gr_9, rw_9, (by have sp9 := o9; rw [tn9] at sp9; show Ow _ _ _ _ _ _ _ (List.map cxV (_ ++ _)); rw [List.map_append]; exact sp9), CH_9⟩
  refine Cn (Qk (Qk (Qy (Qa (Qe ?_)))))
  obtain ⟨kB, kc2, kb, ks⟩ := kd_7.kid (i := 1) (o := b) rfl
  have ei : lb = i := by omega
  subst ei
  have hol := CR.len s10_7
  refine Qb (Om (Qh υ53 O ς51 O O O) O (Om (Qg ι51 O (b2_7.cell O)) O ?_))
  refine Om (Qs υ51 ς53 O O (kd_7.ne (by show 0 < 2; decide)) (by decide) (by show (1 : Int) < 2; decide)) O ?_
  refine Om (Qz ι53 ς53 O O kb.1) O (Wu O O ?_)
  refine Oq (Qi κ69 O (tb _ _ _ _ _ _ _ _ _ _ ks (by omega) s10_7.sl (fun q hq => by have := Ow.lt s10_7; omega) eb)) O ?_
  rintro _ w10 ⟨r10, B10, k10, os10, rfl, tr10, ht10, hr10, c10⟩
  have hlo10 := Ow.lt tr10
  have z10 := c10.size
  obtain ⟨osr, hosr⟩ : ∃ z, z = os10 := ⟨_, rfl⟩
  have htosr := ht10; rw [← hosr] at htosr tr10
  refine Ww O O (Wz (Qe ?_))
  have htrow := htosr; rw [trM_of (by omega) eb hos] at htrow
  refine Qb (Ww O O (Ka (Qt ?_)))
  have b2_10 := b2_7.keep c10
  have kd_10 := kd_7.keep c10
  have sx_10 := sx_7.keep c10
  have gr_10 := gr_7.keep c10
  have rw_10 := rw_7.keep c10
  have CH_10 := CH_7.and c10
  refine Kf (σ := Nat × List CB) (fun (k, zs) => [(1, .slice X n xc), (2, Kh p1), (5, Kg la), (6, Kg lb), (7, Kg n), (8, .slice AG j cG), (9, Kg j), (12, .slice B10 lb k10), (13, Kg k)]) (fun (k, zs) w' => k ≤ lb ∧ HalfY lb k (trM b (fun l => (fun j => cx (xs.getD j (0, 0))) (j + la * l))) ((fun j k => twistF (trM b (fun l => (fun j => cx (xs.getD j (0, 0))) (j + la * l)) k) n (j * k % n)) j) zs ∧ w10.heap.size ≤ w'.heap.size ∧ Bk w' p1 (ordV (.mk 3 0 [a, b]) A c).cells 53 ∧ RdK (In lo hi) w' A [a, b] ∧ SlR SX w' X n 1 (xs.map cxV) ∧ Ow w' rG 31 1 AG j cG (rs.map (rwV lb)) ∧ Rws 33 lb top rG rs w' ∧ CR 33 w' r10 B10 lb k10 zs ∧ Ch (No) w w') (fun (k, zs) => lb - k) (0, osr) ?_ ?_
  · exact ⟨(by omega), (HalfY.zero _ htrow), (Nat.le_refl _), b2_10, kd_10, sx_10, gr_10, rw_10, tr10, CH_10⟩
  rintro ⟨k, zs⟩ w11 ⟨hk, hhf, hsz11, b2_11, kd_11, sx_11, gr_11, rw_11, row_11, CH_11⟩
  refine Qe (Kb (Wu O O (Wu O O (Om (Co O O) O (Ka ?_)))))
  refine Qj O (fun hc3 => ?_) (fun hc3 => ?_)
  ·
   refine Qn (Qa (Qe (Qt ?_)))
   obtain ⟨mi9, hmi9⟩ : ∃ m : Nat, m = j * k := ⟨_, rfl⟩
   have emi9 : (j : Int) * (k : Int) = (mi9 : Int) := by rw [hmi9]; push_cast; rfl
   have bd9 : mi9 ≤ 16384 * 16384 := by rw [hmi9]; exact Nat.mul_le_mul (by omega) (by omega)
   have md9 := Nat.mod_lt mi9 (show 0 < n by omega)
   have em9 : (j : Int) * (k : Int) % (n : Int) = ((mi9 % n : Nat) : Int) := by rw [emi9]; push_cast; rfl
   refine Kj 14 [0, 2, 4, 6, 8, 10, 12, 14, 16, 18, 20, 22, 25, 26] (No) ?_
   intro w12 c12 z12
   have sx_12 := sx_11.keep c12
   have b2_12 := b2_11.keep c12
   have gr_12 := gr_11.keep c12
   have row_12 := row_11.keep c12
   refine Wv O O (Wv O O (Wv O O (Wv O O (Ws (Qs υ31 ς33 O O (row_12.sl.ne (by omega))) O (Wt (fun hS => Qg ι33 O ((row_12.keep hS).sl.getC (by omega) (by omega))) O (Wv O O (Wv O O ?_)))))))
   refine Wv O O ?_
   refine Ws (Cy O O) O ?_
   refine Wv O O (Ws (Rq O O) O ?_)
   refine Hq (Qi call70 O (ref07_Twist _ _ n _ (mi9 % n) (by omega) (by omega) (by omega) (by rw [em9]; exact Int.emod_eq_of_lt (by omega) (by omega)) _)) O ?_
   rintro _ w13 ⟨p13, q13, rfl, F13, c13⟩
   have z13 := c13.size
   have RD_13 := (Ch.refl (No) w12).and c13
   refine ⟨RD_13, ?_⟩
   refine Ws (Qs υ31 ς33 O O (row_12.sl.ne (by omega))) O (Cj ?_)
   have row_13 := row_12.keep c13
   refine Oz (Rj ς33 O O (by omega) row_13) O ?_
   rintro _ w14 ⟨o14, c14, z14⟩
   have y14 := o14.lt
   refine Qf (Ca (Ql (Qa (Qb (Wu O O ?_)))))
   refine Om (Cd O O) O ?_
   refine Ww O O (Qf ?_)
   refine Ke (k + 1, zs.set k (p13, q13)) ?_
   have b2_13 := b2_12.keep c13
   have b2_14 := b2_13.to c14
   have kd_13 := kd_11.keep (c12.trans c13)
   have kd_14 := kd_13.to c14
   have sx_13 := sx_12.keep c13
   have sx_14 := sx_13.to c14 (by first | exact fun _ _ _ _ => id | (intro q h1 h2 hx h3; have := hX q h2; omega))
   have gr_13 := gr_12.keep c13
   have gr_14 := gr_13.to c14
   have rw_13 := rw_11.keep (c12.trans c13)
   have rw_14 := rw_13.to c14
   have CH_13 := CH_11.and (c12.trans c13)
   have CH_14 : Ch (No) w w14 := CH_13.then c14
   exact ⟨(by omega), (hhf.step (by omega) (by show _ = twistF (trM b _ k) n (j * k % n); rw [F13, ← hhf.now (by omega), hmi9]; rfl)), (by omega), b2_14, kd_14, sx_14, gr_14, rw_14, o14, CH_14⟩
  refine Cn (Qk (Qk (Qy (Qa ?_))))
  have ei : lb = k := by omega
  subst ei
  refine Qb (Wu O O (Wu O O (Kq 1 1 (Kl υ184 inf31w102 O O) O ?_)))
  intro p15 w15 l84 l84o c15 e15 z15
  have gr_15 := gr_11.keep c15
  refine Oq (Cm (S := _) υ184 inf31w102 O (by decide) O O gr_15 l84 (by rfl) (fun h => by simp at h) (by omega) (by simp only [maxLen]; omega)) O ?_
  rintro _ w16 ⟨r16, A16, k16, rfl, o16, c16, q16⟩
  have z16 := c16.size
  have y16 := o16.lt
  refine Ww O O (Qf (Ql (Qa (Qb (Wu O O ?_)))))
  refine Om (Cd O O) O ?_
  refine Ww O O (Qf ?_)
  refine Ke (j + 1, r16, A16, k16, rs ++ [(r10, B10, k10, zs)], w16.heap.size) ?_
  have b2_15 := b2_11.keep c15
  have b2_16 := b2_15.to c16
  have kd_15 := kd_11.keep c15
  have kd_16 := kd_15.to c16
  have sx_15 := sx_11.keep c15
  have sx_16 := sx_15.to c16 (by first | exact fun _ _ _ _ => id | (intro q h1 h2 hx h3; have := hX q h2; omega))
  have rw_15 := rw_11.keep c15
  have rw_16 := rw_15.to c16
  have row_15 := row_11.keep c15
  have row_16 := row_15.to c16
  have CH_15 := CH_11.and c15
  have CH_16 : Ch (No) w w16 := CH_15.then c16
  exact ⟨(by omega), (by simp [hrl]), (by omega), (by omega), (hrc.snoc hrl hhf.all), (by omega), b2_16, kd_16, sx_16, (by show Ow _ _ _ _ _ _ _ (List.map (rwV lb) (_ ++ _)); rw [List.map_append]; exact o16), (rw_16.snoc (t := (r10, B10, k10, zs)) row_16 (by omega) (by omega) (by omega) (by omega)), CH_16⟩
 refine Cn (Qk (Qk (Qy (Qa (Qe ?_)))))
 have ei : la = j := by omega
 subst ei
 refine Qb (Wu O O (Oq (Wn υ31 inf33w102 O O (by omega) (by omega) (by omega)) O ?_))
 rintro _ w17 ⟨p17, rfl, o17, c17, e17, z17⟩
 refine Ww O O (Wz (Kb (Ww O O (Qf ?_))))
 refine Qa (Qt ?_)
 have b2_17 := b2_5.keep c17
 have kd_17 := kd_5.keep c17
 have gr_17 := gr_5.keep c17
 have rw_17 := rw_5.keep c17
 have CH_17 := CH_5.and c17
 refine Kf (σ := Nat × List CB) (fun (k, ys) => [(2, Kh p1), (5, Kg la), (6, Kg lb), (8, .slice AG la cG), (14, .slice (Ki p17) n n), (15, Kg k)]) (fun (k, ys) w' => k ≤ lb ∧ TuY lb la (fun k q => trM a (fun j => (fun j k => twistF (trM b (fun l => (fun j => cx (xs.getD j (0, 0))) (j + la * l)) k) n (j * k % n)) j k) q) k 0 ys ∧ w17.heap.size ≤ w'.heap.size ∧ Bk w' p1 (ordV (.mk 3 0 [a, b]) A c).cells 53 ∧ RdK (In lo hi) w' A [a, b] ∧ Ow w' rG 31 1 AG la cG (rs.map (rwV lb)) ∧ Rws 33 lb top rG rs w' ∧ CR 33 w' (p17 + 1) (Ki p17) n n ys ∧ Ch (No) w w') (fun (k, ys) => lb - k) (0, List.replicate n (0, 0)) ?_ ?_
 · exact ⟨(by omega), (TuY.zero _ _ _ (by rw [hn, Nat.mul_comm])), (Nat.le_refl _), b2_17, kd_17, gr_17, rw_17, o17, CH_17⟩
 rintro ⟨k, ys⟩ w18 ⟨hk6, hty, hsz18, b2_18, kd_18, gr_18, rw_18, yy_18, CH_18⟩
 have yg8 := Ow.lt gr_18
 have yy9 := Ow.lt yy_18
 refine Qe (Kb (Wu O O (Wu O O (Om (Co O O) O (Ka ?_)))))
 refine Qj O (fun hc4 => ?_) (fun hc4 => ?_)
 ·
  refine Qn (Qa (Qe (Qt (Kb (Wu O O (Oq (Wk.mkC0 υ31 inf33w102 O O (by omega) (by omega) (by omega)) O ?_))))))
  rintro _ w19 ⟨p19, k19, rfl, o19, c19, e19, z19⟩
  refine Ww O O (Wz (Kb (Ww O O (Qf ?_))))
  refine Qa (Qt ?_)
  have b2_19 := b2_18.keep c19
  have kd_19 := kd_18.keep c19
  have gr_19 := gr_18.keep c19
  have rw_19 := rw_18.keep c19
  have yy_19 := yy_18.keep c19
  have CH_19 := CH_18.and c19
  refine Kf (σ := Nat × Nat × Option Addr × Nat × List CB) (fun (j2, rT, AT, cT, os) => [(2, Kh p1), (5, Kg la), (6, Kg lb), (8, .slice AG la cG), (14, .slice (Ki p17) n n), (15, Kg k), (16, .slice AT j2 cT), (17, Kg j2)]) (fun (j2, rT, AT, cT, os) w' => j2 ≤ la ∧ (w.heap.size < rT ∧ top < rT ∧ rG < rT ∧ (p17 + 1) < rT) ∧ (∀ m, m < j2 → cx (os.getD m (0, 0)) = (fun j k => twistF (trM b (fun l => (fun j => cx (xs.getD j (0, 0))) (j + la * l)) k) n (j * k % n)) m k) ∧ w19.heap.size ≤ w'.heap.size ∧ Bk w' p1 (ordV (.mk 3 0 [a, b]) A c).cells 53 ∧ RdK (In lo hi) w' A [a, b] ∧ Ow w' rG 31 1 AG la cG (rs.map (rwV lb)) ∧ Rws 33 lb top rG rs w' ∧ CR 33 w' (p17 + 1) (Ki p17) n n ys ∧ CR 33 w' rT AT j2 cT os ∧ Ch (No) w w') (fun (j2, rT, AT, cT, os) => la - j2) (0, (p19 + 1), (Ki p19), k19, []) ?_ ?_
  · exact ⟨(by omega), (by omega), (fun m h => absurd h (Nat.not_lt_zero _)), (Nat.le_refl _), b2_19, kd_19, gr_19, rw_19, yy_19, o19, CH_19⟩
  rintro ⟨j2, rT, AT, cT, os⟩ w20 ⟨hj2, hrT, hos2, hsz20, b2_20, kd_20, gr_20, rw_20, yy_20, s16_20, CH_20⟩
  have hol2 := CR.len s16_20
  refine Qe (Kb (Wu O O (Wu O O (Om (Co O O) O (Ka ?_)))))
  refine Qj O (fun hc5 => ?_) (fun hc5 => ?_)
  ·
   refine Qn (Qa (Qe (Qt ?_)))
   have rj := (rw_20.get (j := j2) (by omega)).sl
   have hcj := hrc j2 (by omega)
   refine Qb (Wu O O (Wu O O (Wu O O (Om (Qs υ184 ς31 O O (gr_20.sl.ne (by omega))) O (Om (Qg ι31 O ((gr_20).sl.getR (by omega) (by omega))) O (Wu O O (Om (Qs υ31 ς33 O O (rj.ne (by omega))) O ?_)))))))
   refine Om (Qg ι33 O (rj.getC (by omega) (by omega))) O (Kq 1 1 (Kl υ31 inf33w102 O O) O ?_)
   intro p21 w21 l108 l108o c21 e21 z21
   have s16_21 := s16_20.keep c21
   refine Oq (Cm (S := _) υ31 inf33w102 O (by decide) O O s16_21 l108 (by rfl) (fun h => by simp at h) (by omega) (by simp only [maxLen]; omega)) O ?_
   rintro _ w22 ⟨r22, A22, k22, rfl, o22, c22, q22⟩
   have z22 := c22.size
   have y22 := o22.lt
   refine Ww O O (Qf (Ql (Qa (Qb (Wu O O ?_)))))
   refine Om (Cd O O) O ?_
   refine Ww O O (Qf ?_)
   refine Ke (j2 + 1, r22, A22, k22, os ++ [(rs.getD j2 (0, none, 0, [])).2.2.2.getD k (0, 0)]) ?_
   have b2_21 := b2_20.keep c21
   have b2_22 := b2_21.to c22
   have kd_21 := kd_20.keep c21
   have kd_22 := kd_21.to c22
   have gr_21 := gr_20.keep c21
   have gr_22 := gr_21.to c22
   have rw_21 := rw_20.keep c21
   have rw_22 := rw_21.to c22
   have yy_21 := yy_20.keep c21
   have yy_22 := yy_21.to c22
   have CH_21 := CH_20.and c21
   have CH_22 : Ch (No) w w22 := CH_21.then c22
   exact ⟨(by omega), (by omega), (LY.snoc hos2 hol2 (hcj.get k (by omega))), (by omega), b2_22, kd_22, gr_22, rw_22, yy_22, (by show Ow _ _ _ _ _ _ _ (List.map cxV (_ ++ _)); rw [List.map_append]; exact o22), CH_22⟩
  refine Cn (Qk (Qk (Qy (Qa (Qe ?_)))))
  obtain ⟨kA, kc, ka, kr⟩ := kd_20.kid (i := 0) (o := a) rfl
  have ei : la = j2 := by omega
  subst ei
  have hol := CR.len s16_20
  refine Qb (Om (Qh υ53 O ς51 O O O) O (Om (Qg ι51 O (b2_20.cell O)) O ?_))
  refine Om (Qs υ51 ς53 O O (kd_20.ne (by show 0 < 2; decide)) (by decide) (by show (0 : Int) < 2; decide)) O ?_
  refine Om (Qz ι53 ς53 O O ka.1) O (Wu O O ?_)
  refine Oq (Qi κ69 O (ta _ _ _ _ _ _ _ _ _ _ kr (by omega) s16_20.sl (fun q hq => by have := Ow.lt s16_20; omega) ea)) O ?_
  rintro _ w23 ⟨r23, B23, k23, os23, rfl, tr23, ht23, hr23, c23⟩
  have hlo23 := Ow.lt tr23
  have z23 := c23.size
  obtain ⟨osz, hosz⟩ : ∃ z, z = os23 := ⟨_, rfl⟩
  have htosz := ht23; rw [← hosz] at htosz tr23
  refine Ww O O (Wz ?_)
  have hzz := htosz; rw [trM_of (by omega) ea hos2] at hzz
  refine Qb (Ww O O (Ka (Qt ?_)))
  have b2_23 := b2_20.keep c23
  have kd_23 := kd_20.keep c23
  have gr_23 := gr_20.keep c23
  have rw_23 := rw_20.keep c23
  have yy_23 := yy_20.keep c23
  have CH_23 := CH_20.and c23
  refine Kf (σ := Nat × List CB) (fun (q, ys2) => [(2, Kh p1), (5, Kg la), (6, Kg lb), (8, .slice AG la cG), (14, .slice (Ki p17) n n), (15, Kg k), (18, .slice B23 la k23), (19, Kg q)]) (fun (q, ys2) w' => q ≤ la ∧ TuY lb la (fun k q => trM a (fun j => (fun j k => twistF (trM b (fun l => (fun j => cx (xs.getD j (0, 0))) (j + la * l)) k) n (j * k % n)) j k) q) k q ys2 ∧ w23.heap.size ≤ w'.heap.size ∧ Bk w' p1 (ordV (.mk 3 0 [a, b]) A c).cells 53 ∧ RdK (In lo hi) w' A [a, b] ∧ Ow w' rG 31 1 AG la cG (rs.map (rwV lb)) ∧ Rws 33 lb top rG rs w' ∧ CR 33 w' (p17 + 1) (Ki p17) n n ys2 ∧ CR 33 w' r23 B23 la k23 osz ∧ Ch (No) w w') (fun (q, ys2) => la - q) (0, ys) ?_ ?_
  · exact ⟨(by omega), hty, (Nat.le_refl _), b2_23, kd_23, gr_23, rw_23, yy_23, tr23, CH_23⟩
  rintro ⟨q, ys2⟩ w24 ⟨hq, hty2, hsz24, b2_24, kd_24, gr_24, rw_24, yy_24, zz_24, CH_24⟩
  refine Qe (Kb (Wu O O (Wu O O (Om (Co O O) O (Ka ?_)))))
  refine Qj O (fun hc6 => ?_) (fun hc6 => ?_)
  ·
   refine Qn (Qa (Qe (Qt ?_)))
   obtain ⟨mi9, hmi9⟩ : ∃ m : Nat, m = lb * q := ⟨_, rfl⟩
   have emi9 : (lb : Int) * (q : Int) = (mi9 : Int) := by rw [hmi9]; push_cast; rfl
   have bd9 := idxY (R := la) (C := lb) (i := q) (j := k)
   rw [Nat.mul_comm q lb, ← hmi9, ← hn] at bd9
   have tn9 : ((k : Int) + (lb : Int) * (q : Int)).toNat = mi9 + k := by omega
   have hz9 := hzz.get q (by omega)
   refine Qb (Wu O O (Wu O O (Wu O O (Wu O O ?_))))
   refine Om (Cy O O) O ?_
   refine Om (Cd O O) O ?_
   refine Wu O O (Wu O O (Om (Qs υ31 ς33 O O (zz_24.sl.ne (by omega))) O (Om (Qg ι33 O (zz_24.sl.getC (by omega) (by omega))) O (Om (Qs υ31 ς33 O O (yy_24.sl.ne (by omega))) O (Oz (Rj ς33 O O (by omega) yy_24) O ?_)))))
   rintro _ w25 ⟨o25, c25, z25⟩
   have y25 := o25.lt
   refine Qf (Ql (Qa (Qb (Wu O O ?_))))
   refine Om (Cd O O) O ?_
   refine Ww O O (Qf ?_)
   refine Ke (q + 1, ys2.set (mi9 + k) (osz.getD q (0, 0))) ?_
   have b2_25 := b2_24.to c25
   have kd_25 := kd_24.to c25
   have gr_25 := gr_24.to c25
   have rw_25 := rw_24.to c25
   have zz_25 := zz_24.to c25
   have CH_25 : Ch (No) w w25 := CH_24.then c25
   exact ⟨(by omega), (by rw [hmi9, Nat.mul_comm lb q]; exact hty2.step (by omega) (by omega) hz9), (by omega), b2_25, kd_25, gr_25, rw_25, (by have sp9 := o25; rw [tn9] at sp9; exact sp9), zz_25, CH_25⟩
  refine Cn (Qk (Qk (Qy (Ql (Qa ?_)))))
  have ei : la = q := by omega
  subst ei
  refine Qb (Wu O O ?_)
  refine Om (Cd O O) O ?_
  refine Ww O O (Qf ?_)
  refine Ke (k + 1, ys2) ?_
  exact ⟨(by omega), hty2.next, (by omega), b2_24, kd_24, gr_24, rw_24, yy_24, CH_24⟩
 refine Cn (Qk (Qk (Qy (Qa (Kb (Wu O O ?_))))))
 refine Ww O O (Ka (Qp (Qx O O (Kx ?_))))
 have ei : lb = k := by omega
 subst ei
 refine ⟨_, _, _, _, O, yy_18, ?_, by omega, CH_18⟩
 rw [trM_times, show a.len.toNat = la by omega, show b.len.toNat = lb by omega]
 have hal := hty.all (by omega)
 rw [Nat.mul_comm lb la, ← hn] at hal
 exact hal.cast fun i _ => by rw [hn]; rfl
set_option maxHeartbeats 1000000 in
theorem ref13_Other (n m : Nat) (hn : 1 ≤ n) (hm : 2 * n ≤ m + 1) (hm2 : m ≤ 16384) (w : World) :
  Calls prog 149 #[Kg n, Kg m] w (Ret (fun v w' => ∃ q zs, v = .slice (Ki q) m m ∧ CR 33 w' (q + 1) (Ki q) m m zs ∧ LY m (otherF n m) zs ∧ w.heap.size ≤ q ∧ Ch No w w')) := by
 refine Ku func149 O ntmps149 O (Kb (Ww O O (Wy ?_)))
 refine Wu O O (Oq (Wn υ31 inf33w102 O O (by omega) (by omega) (by omega)) O ?_)
 rintro _ w1 ⟨p1, rfl, o1, c1, e1, z1⟩
 refine Ww O O (Wz (Kb (Ww O O (Qf ?_))))
 refine Qa (Qt ?_)
 have CH_1 := c1
 refine Kf (σ := Nat × List CB) (fun (j, zs) => [(0, Kg n), (1, Kg m), (5, .slice (Ki p1) m m), (6, Kg j)]) (fun (j, zs) w' => j ≤ n ∧ OthA n m j zs ∧ w1.heap.size ≤ w'.heap.size ∧ CR 33 w' (p1 + 1) (Ki p1) m m zs ∧ Ch (No) w w') (fun (j, zs) => n - j) (0, List.replicate m (0, 0)) ?_ ?_
 · exact ⟨(by omega), (OthA.zero _ _), (Nat.le_refl _), o1, CH_1⟩
 rintro ⟨j, zs⟩ w2 ⟨hj, ho, hsz2, row_2, CH_2⟩
 have hzl := ho.len
 refine Qe (Kb (Wu O O (Wu O O (Om (Co O O) O (Ka ?_)))))
 refine Qj O (fun hc1 => ?_) (fun hc1 => ?_)
 ·
  refine Qn (Qa (Qe (Qt (Kb (Wu O O (Wu O O ?_))))))
  refine Oq (Qi call180 O (ref13_At _ _ (by omega) (by omega) (by omega) _)) O ?_
  rintro _ w3 ⟨p3, q3, rfl, F3, c3⟩
  have z3 := c3.size
  refine Ww O O (Wy (Wu O O (Wu O O (Wu O O ?_))))
  refine Om (Rh O) O (Wu O O (Om (Ri O) O (Om (Wf O) O (Om (Rf O O) O ?_))))
  have row_3 := row_2.keep c3
  refine Om (Qs υ31 ς33 O O (row_3.sl.ne (by omega))) O (Oz (Rj ς33 O O (by omega) row_3) O ?_)
  rintro _ w4 ⟨o4, c4, z4⟩
  have y4 := o4.lt
  refine Wy (Wu O O (Om (Rb O O) O (Ka ?_)))
  refine Qj O (fun hc2 => ?_) (fun hc2 => ?_)
  ·
   refine Qb (Wu O O (Wu O O (Wu O O ?_)))
   refine Om (Rg O O) O ?_
   refine Wu O O (Wu O O (Om (Qs υ31 ς33 O O (o4.sl.ne (by omega))) O (Om (Qg ι33 O (o4.sl.getC (by omega) (by omega))) O (Om (Qs υ31 ς33 O O (o4.sl.ne (by omega))) O (Oz (Rj ς33 O O (by omega) o4) O ?_)))))
   rintro _ w5 ⟨o5, c5, z5⟩
   have y5 := o5.lt
   refine Qf (Ql (Qa (Qb (Wu O O ?_))))
   refine Om (Cd O O) O ?_
   refine Ww O O (Qf ?_)
   refine Ke (j + 1, (zs.set j (p3, Op.negFloat .f64 q3)).set (m - j) (p3, Op.negFloat .f64 q3)) ?_
   have hz0 : (zs.set j (p3, Op.negFloat .f64 q3)).getD j (0, 0) = (p3, Op.negFloat .f64 q3) := by rw [setC_getD (by omega), if_pos rfl]
   have row9 := o5; rw [show ((m : Int) - (j : Int)).toNat = m - j by omega] at row9
   simp only [Int.toNat_natCast] at row9; rw [hz0] at row9
   have CH_3 := CH_2.and c3
   have CH_4 : Ch (No) w w4 := CH_3.then c4
   have CH_5 : Ch (No) w w5 := CH_4.then c5
   exact ⟨by omega, ho.step (by omega) (by omega) (by show (cn _, cn _) = _; rw [cn_neg, ← F3]; rfl), by omega, row9, CH_5⟩
  refine Qn (Ql (Qa (Qb (Wu O O ?_))))
  refine Om (Cd O O) O ?_
  refine Ww O O (Qf ?_)
  refine Ke (j + 1, zs.set j (p3, Op.negFloat .f64 q3)) ?_
  have CH_3 := CH_2.and c3
  have CH_4 : Ch (No) w w4 := CH_3.then c4
  exact ⟨by omega, ho.first (by omega) (by omega) (by show (cn _, cn _) = _; rw [cn_neg, ← F3]; rfl), by omega, o4, CH_4⟩
 refine Cn (Qk (Qk (Qy (Qa (Kb (Wu O O ?_))))))
 refine Ww O O (Ka (Qp (Qx O O (Kx ?_))))
 obtain rfl : j = n := by omega
 exact ⟨_, _, O, row_2, LY.of_map ho.all ho.len (fun i hi => otherL_getD hi), by omega, CH_2⟩
set_option maxHeartbeats 4000000 in
theorem ref20_blue (a : Ord) (ta : TrR a) (A : Option Addr) (c lo hi : Nat) (SX : Nat → Prop) (X : Option Addr) (n xc : Nat) (xs : List CB) (m : Nat) (w : World) (kd : RdK (In lo hi) w A [a]) (hh : hi ≤ w.heap.size) (sx : SlR SX w X n 1 (xs.map cxV)) (hX : ∀ q, SX q → q < w.heap.size) (ea : a.len = (m : Int)) (h2 : 2 ≤ n) (hm : 2 * n ≤ m + 1) (hm2 : m ≤ 16384) :
  Calls prog 116 #[ordV (Ord.mk 4 (n : Int) [a]) A c, .slice X n xc] w (Ret (fun v w' => ∃ r B k os, v = .slice B n k ∧ CR 33 w' r B n k os ∧ LY n (trM (.mk 4 (n : Int) [a]) (fun j => cx (xs.getD j (0, 0)))) os ∧ w.heap.size < r ∧ Ch No w w')) := by
 refine Ku func116 O ntmps116 O (Kb (Km (Cp O) O ?_))
 intro p1 w1 b2 c1 e1 z1
 refine Ww O O (Wy (Wu O O (Om (Cs υ31 O) O (Ww O O ?_))))
 refine Wz ?_
 have kd_1 := kd.keep c1
 obtain ⟨kA, kc, ka, kr⟩ := kd_1.kid (i := 0) (o := a) rfl
 have hl : a.len ≠ 0 := by omega
 refine Qb (Om (Qh υ53 O ς51 O O O) O (Om (Qg ι51 O (b2.cell O)) O ?_))
 refine Om (Qs υ51 ς53 O O (kd_1.ne (by show 0 < 1; decide)) (by decide) (by show (0 : Int) < 1; decide)) O ?_
 refine Om (Qz ι53 ς53 O O ka.1) O (Oq (Qi call67 O (ref12_Length a _ _ _ _ _ kr (by omega) hl)) O ?_)
 rintro _ w2 ⟨he2, c2⟩
 rw [ea] at he2; subst he2
 have z2 := c2.size
 refine Ww O O (Wy (Wu O O (Oq (Qi call147 O (ref13_List _ (by omega) (by omega) _)) O ?_)))
 rintro _ w3 ⟨r3, A3, k3, os3, rfl, tr3, hl3, hr3, c3⟩
 have hlo3 := Ow.lt tr3
 have z3 := c3.size
 obtain ⟨cls, hcls⟩ : ∃ z, z = os3 := ⟨_, rfl⟩
 have hlcls := hl3; rw [← hcls] at hlcls tr3
 refine Ww O O (Wy (Wu O O (Oq (Wn υ31 inf33w102 O O (by omega) (by omega) (by omega)) O ?_)))
 rintro _ w4 ⟨p4, rfl, o4, c4, e4, z4⟩
 refine Ww O O (Wz (Kb (Wu O O (Om (Cs υ31 O) O ?_))))
 refine Wu O O (Ka (Qt ?_))
 have b2_4 := b2.keep (c2.trans (c3.trans c4))
 have kd_4 := kd_1.keep (c2.trans (c3.trans c4))
 have sx_4 := sx.keep (c1.trans (c2.trans (c3.trans c4)))
 have cl_4 := tr3.keep c4
 have CH_4 := (c1.trans (c2.trans (c3.trans c4)))
 refine Kf (σ := Nat × List CB) (fun (j, us) => [(1, .slice X n xc), (2, Kh p1), (5, Kg n), (6, Kg m), (7, .slice A3 n k3), (8, .slice (Ki p4) m m), (26, Kg n), (27, Kg j)]) (fun (j, us) w' => j ≤ n ∧ HalfY m j (fun _ => z0) (fun i => if i < n then mulC ((fun j => cx (xs.getD j (0, 0))) i) (chirpF n i) else z0) us ∧ w4.heap.size ≤ w'.heap.size ∧ Bk w' p1 (ordV (.mk 4 (n : Int) [a]) A c).cells 53 ∧ RdK (In lo hi) w' A [a] ∧ SlR SX w' X n 1 (xs.map cxV) ∧ CR 33 w' r3 A3 n k3 cls ∧ CR 33 w' (p4 + 1) (Ki p4) m m us ∧ Ch (No) w w') (fun (j, us) => n - j) (0, List.replicate m (0, 0)) ?_ ?_
 · exact ⟨(by omega), ⟨by simp, fun i hi => by rw [if_neg (Nat.not_lt_zero _)]; simp [List.getD, List.getElem?_replicate, hi]⟩, (Nat.le_refl _), b2_4, kd_4, sx_4, cl_4, o4, CH_4⟩
 rintro ⟨j, us⟩ w5 ⟨hj, hhu, hsz5, b2_5, kd_5, sx_5, cl_5, uu_5, CH_5⟩
 refine Kb (Om (Co O O) O (Wz (Qj O (fun hc1 => ?_) (fun hc1 => ?_))))
 ·
  refine Qn (Qa (Qe (Qt (Kb (Wu O O (Ww O O ?_))))))
  refine Ka (Kj 12 [0, 2, 4, 6, 8, 10, 12, 14, 16, 18, 21, 22] (No) ?_)
  intro w6 c6 z6
  have sx_6 := sx_5.keep c6
  have b2_6 := b2_5.keep c6
  have cl_6 := cl_5.keep c6
  have uu_6 := uu_5.keep c6
  refine Wv O O (Wv O O (Wv O O (Wv O O (Wt (fun hS => Qs υ31 ς33 O O ((sx_6.keep hS).ne (by omega))) O (Wt (fun hS => Qg ι33 O ((sx_6.keep hS).getC (by omega) (by omega))) O (Wv O O (Wv O O ?_)))))))
  refine Ws (Qs υ31 ς33 O O (cl_6.sl.ne (by omega))) O (Wt (fun hS => Qg ι33 O ((cl_6.keep hS).sl.getC (by omega) (by omega))) O (Hq (Qi call148 O (ref02_Mul _ _ _ _ _)) O ?_))
  rintro _ w7 ⟨p7, q7, rfl, F7, c7⟩
  have z7 := c7.size
  have RD_7 := (Ch.refl (No) w6).and c7
  refine ⟨RD_7, ?_⟩
  refine Ws (Qs υ31 ς33 O O (uu_6.sl.ne (by omega))) O (Cj ?_)
  have uu_7 := uu_6.keep c7
  refine Oz (Rj ς33 O O (by omega) uu_7) O ?_
  rintro _ w8 ⟨o8, c8, z8⟩
  have y8 := o8.lt
  refine Qf (Ca (Ql (Qa (Qb ?_))))
  refine Om (Cd O O) O ?_
  refine Wu O O (Qf ?_)
  refine Ke (j + 1, us.set j (p7, q7)) ?_
  have b2_7 := b2_6.keep c7
  have b2_8 := b2_7.to c8
  have kd_7 := kd_5.keep (c6.trans c7)
  have kd_8 := kd_7.to c8
  have sx_7 := sx_6.keep c7
  have sx_8 := sx_7.to c8 (by first | exact fun _ _ _ _ => id | (intro q h1 h2 hx h3; have := hX q h2; omega))
  have cl_7 := cl_6.keep c7
  have cl_8 := cl_7.to c8
  have CH_7 := CH_5.and (c6.trans c7)
  have CH_8 : Ch (No) w w8 := CH_7.then c8
  exact ⟨(by omega), (hhu.step (by omega) (by rw [F7]; show mulC _ (cx (cls.getD j (0, 0))) = _; rw [hlcls j (by omega)]; show _ = (if j < n then _ else _); rw [if_pos (by omega)]; rfl)), (by omega), b2_8, kd_8, sx_8, cl_8, o8, CH_8⟩
 refine Cn (Qk (Qk (Qy (Qa (Qe ?_)))))
 obtain ⟨kA, kc, ka, kr⟩ := kd_5.kid (i := 0) (o := a) rfl
 have ei : n = j := by omega
 subst ei
 have hu0 := hhu.cast (y := (fun i => if i < n then mulC ((fun j => cx (xs.getD j (0, 0))) i) (chirpF n i) else z0)) fun i _ => by by_cases c : i < n <;> simp only [c, if_true, if_false]
 refine Qb (Om (Qh υ53 O ς51 O O O) O (Om (Qg ι51 O (b2_5.cell O)) O ?_))
 refine Om (Qs υ51 ς53 O O (kd_5.ne (by show 0 < 1; decide)) (by decide) (by show (0 : Int) < 1; decide)) O ?_
 refine Om (Qz ι53 ς53 O O ka.1) O (Wu O O ?_)
 refine Oq (Qi κ69 O (ta _ _ _ _ _ _ _ _ _ _ kr (by omega) uu_5.sl (fun q hq => by have := Ow.lt uu_5; omega) ea)) O ?_
 rintro _ w9 ⟨r9, B9, k9, os9, rfl, tr9, ht9, hr9, c9⟩
 have hlo9 := Ow.lt tr9
 have z9 := c9.size
 obtain ⟨os1, hos1⟩ : ∃ z, z = os9 := ⟨_, rfl⟩
 have htos1 := ht9; rw [← hos1] at htos1 tr9
 refine Ww O O (Wz ?_)
 have kd_9 := kd_5.keep c9
 obtain ⟨kA, kc, ka, kr⟩ := kd_9.kid (i := 0) (o := a) rfl
 have huA := htos1; rw [trM_of (by omega) ea hu0.get] at huA
 refine Kj 8 [0, 2, 4, 6, 8, 10, 13, 15] (No) ?_
 intro w10 c10 z10
 have sx_10 := sx_5.keep (c9.trans c10)
 have b2_10 := b2_5.keep (c9.trans c10)
 have cl_10 := cl_5.keep (c9.trans c10)
 have uu_10 := tr9.keep c10
 have ka_10 := ka.keep c10
 refine Ws (Qh υ53 O ς51 O O O) O (Wt (fun hS => Qg ι51 O ((b2_10.keep hS).cell O)) O ?_)
 have kd_10 := kd_9.keep c10
 refine Ws (Qs υ51 ς53 O O (kd_10.ne (by show 0 < 1; decide)) (by decide) (by show (0 : Int) < 1; decide)) O ?_
 refine Wt (fun hS => Qz ι53 ς53 O O (ka_10.keep hS).1) O (Wv O O (Wv O O (Hq (Qi call149 O (ref13_Other _ _ (by omega) (by omega) (by omega) _)) O ?_)))
 rintro _ w11 ⟨q11, os11, rfl, tr11, hl11, hr11, c11⟩
 have hlo11 := Ow.lt tr11
 have z11 := c11.size
 obtain ⟨osv, hosv⟩ : ∃ z, z = os11 := ⟨_, rfl⟩
 have hlosv := hl11; rw [← hosv] at hlosv tr11
 have RD_11 := (Ch.refl (No) w10).and c11
 refine ⟨RD_11, ?_⟩
 have kr_11 := kr.keep (c10.trans c11)
 refine Hq (Qi κ69 O (ta _ _ _ _ _ _ _ _ _ _ kr_11 (by omega) tr11.sl (fun q hq => by have := Ow.lt tr11; omega) ea)) O ?_
 rintro _ w12 ⟨r12, B12, k12, os12, rfl, tr12, ht12, hr12, c12⟩
 have hlo12 := Ow.lt tr12
 have z12 := c12.size
 obtain ⟨os2, hos2⟩ : ∃ z, z = os12 := ⟨_, rfl⟩
 have htos2 := ht12; rw [← hos2] at htos2 tr12
 have RD_12 := RD_11.and c12
 refine ⟨RD_12, ?_⟩
 refine Cj (Ww O O (Qf (Ca (Qa (Qe (Qe ?_))))))
 have hvA := htos2; rw [trM_of (by omega) ea hlosv.get] at hvA
 refine Qb (Wu O O (Om (Cs υ31 O) O (Wu O O (Ka (Qt ?_)))))
 have b2_12 := b2_10.keep (c11.trans c12)
 have kd_12 := kd_10.keep (c11.trans c12)
 have cl_12 := cl_10.keep (c11.trans c12)
 have uu_12 := uu_10.keep (c11.trans c12)
 have CH_12 := CH_5.and (c9.trans (c10.trans (c11.trans c12)))
 refine Kf (σ := Nat × List CB) (fun (i, us) => [(2, Kh p1), (5, Kg n), (6, Kg m), (7, .slice A3 n k3), (8, .slice B9 m k9), (10, .slice B12 m k12), (58, Kg m), (59, Kg i)]) (fun (i, us) w' => i ≤ m ∧ HalfY m i (trM a (fun i => if i < n then mulC ((fun j => cx (xs.getD j (0, 0))) i) (chirpF n i) else z0)) (fun i => conjC (mulC ((trM a (fun i => if i < n then mulC ((fun j => cx (xs.getD j (0, 0))) i) (chirpF n i) else z0)) i) ((trM a (otherF n m)) i))) us ∧ w12.heap.size ≤ w'.heap.size ∧ Bk w' p1 (ordV (.mk 4 (n : Int) [a]) A c).cells 53 ∧ RdK (In lo hi) w' A [a] ∧ CR 33 w' r3 A3 n k3 cls ∧ CR 33 w' r9 B9 m k9 us ∧ CR 33 w' r12 B12 m k12 os2 ∧ Ch (No) w w') (fun (i, us) => m - i) (0, os1) ?_ ?_
 · exact ⟨(by omega), (HalfY.zero _ huA), (Nat.le_refl _), b2_12, kd_12, cl_12, uu_12, tr12, CH_12⟩
 rintro ⟨i, us⟩ w13 ⟨hi2, hhu2, hsz13, b2_13, kd_13, cl_13, uu_13, vv_13, CH_13⟩
 refine Kb (Om (Co O O) O (Wz (Qj O (fun hc2 => ?_) (fun hc2 => ?_))))
 ·
  refine Qn (Qa (Qe (Qt (Kb (Wu O O (Ww O O ?_))))))
  refine Ka (Kj 13 [0, 2, 4, 6, 8, 10, 12, 14, 16, 18, 21, 23, 24] (No) ?_)
  intro w14 c14 z14
  have b2_14 := b2_13.keep c14
  have cl_14 := cl_13.keep c14
  have uu_14 := uu_13.keep c14
  have vv_14 := vv_13.keep c14
  refine Wv O O (Wv O O (Wv O O (Wv O O (Ws (Qs υ31 ς33 O O (uu_14.sl.ne (by omega))) O (Wt (fun hS => Qg ι33 O ((uu_14.keep hS).sl.getC (by omega) (by omega))) O (Wv O O (Wv O O ?_)))))))
  refine Ws (Qs υ31 ς33 O O (vv_14.sl.ne (by omega))) O (Wt (fun hS => Qg ι33 O ((vv_14.keep hS).sl.getC (by omega) (by omega))) O (Hq (Qi call148 O (ref02_Mul _ _ _ _ _)) O ?_))
  rintro _ w15 ⟨p15, q15, rfl, F15, c15⟩
  have z15 := c15.size
  have RD_15 := (Ch.refl (No) w14).and c15
  refine ⟨RD_15, ?_⟩
  refine Hq (Qi call83 O (ref02_Conj _ _ _)) O ?_
  rintro _ w16 ⟨p16, q16, rfl, F16, c16⟩
  have z16 := c16.size
  have RD_16 := RD_15.and c16
  refine ⟨RD_16, ?_⟩
  refine Ws (Qs υ31 ς33 O O (uu_14.sl.ne (by omega))) O (Cj ?_)
  have uu_16 := uu_14.keep (c15.trans c16)
  refine Oz (Rj ς33 O O (by omega) uu_16) O ?_
  rintro _ w17 ⟨o17, c17, z17⟩
  have y17 := o17.lt
  refine Qf (Ca (Ql (Qa (Qb ?_))))
  refine Om (Cd O O) O ?_
  refine Wu O O (Qf ?_)
  refine Ke (i + 1, us.set i (p16, q16)) ?_
  have b2_16 := b2_14.keep (c15.trans c16)
  have b2_17 := b2_16.to c17
  have kd_16 := kd_13.keep (c14.trans (c15.trans c16))
  have kd_17 := kd_16.to c17
  have cl_16 := cl_14.keep (c15.trans c16)
  have cl_17 := cl_16.to c17
  have vv_16 := vv_14.keep (c15.trans c16)
  have vv_17 := vv_16.to c17
  have CH_16 := CH_13.and (c14.trans (c15.trans c16))
  have CH_17 : Ch (No) w w17 := CH_16.then c17
  exact ⟨(by omega), (hhu2.step (by omega) (by rw [F16, F15]; show conjC (mulC (cx (us.getD i (0, 0))) (cx (os2.getD i (0, 0)))) = _; rw [hhu2.now (by omega), hvA.get i (by omega)])), (by omega), b2_17, kd_17, cl_17, o17, vv_17, CH_17⟩
 refine Cn (Qk (Qk (Qy (Qa (Qe ?_)))))
 obtain ⟨kA, kc, ka, kr⟩ := kd_13.kid (i := 0) (o := a) rfl
 have ei : m = i := by omega
 subst ei
 have hu2 := hhu2.all
 refine Qb (Om (Qh υ53 O ς51 O O O) O (Om (Qg ι51 O (b2_13.cell O)) O ?_))
 refine Om (Qs υ51 ς53 O O (kd_13.ne (by show 0 < 1; decide)) (by decide) (by show (0 : Int) < 1; decide)) O ?_
 refine Om (Qz ι53 ς53 O O ka.1) O (Wu O O ?_)
 refine Oq (Qi κ69 O (ta _ _ _ _ _ _ _ _ _ _ kr (by omega) uu_13.sl (fun q hq => by have := Ow.lt uu_13; omega) ea)) O ?_
 rintro _ w18 ⟨r18, B18, k18, os18, rfl, tr18, ht18, hr18, c18⟩
 have hlo18 := Ow.lt tr18
 have z18 := c18.size
 obtain ⟨os3, hos3⟩ : ∃ z, z = os18 := ⟨_, rfl⟩
 have htos3 := ht18; rw [← hos3] at htos3 tr18
 refine Ww O O (Wz ?_)
 have huB := htos3; rw [trM_of (by omega) ea hu2.get] at huB
 refine Qb (Wu O O (Oq (Wk.mkC0 υ31 inf33w102 O O (by omega) (by omega) (by omega)) O ?_))
 rintro _ w19 ⟨p19, k19, rfl, o19, c19, e19, z19⟩
 refine Ww O O (Wz (Kb (Ww O O (Qf ?_))))
 refine Qa (Qt ?_)
 have cl_19 := cl_13.keep (c18.trans c19)
 have uu_19 := tr18.keep c19
 have CH_19 := CH_13.and (c18.trans c19)
 refine Kf (σ := Nat × Nat × Option Addr × Nat × List CB) (fun (k, rY, AY, cY, ys) => [(5, Kg n), (6, Kg m), (7, .slice A3 n k3), (8, .slice B18 m k18), (12, .slice AY k cY), (13, Kg k)]) (fun (k, rY, AY, cY, ys) w' => k ≤ n ∧ (w.heap.size < rY ∧ r18 < rY ∧ r3 < rY) ∧ (∀ l, l < k → cx (ys.getD l (0, 0)) = (fun k => mulC (overC (conjC ((trM a (fun i => conjC (mulC ((trM a (fun i => if i < n then mulC ((fun j => cx (xs.getD j (0, 0))) i) (chirpF n i) else z0)) i) ((trM a (otherF n m)) i)))) k)) (m : Int)) (chirpF n k)) l) ∧ w19.heap.size ≤ w'.heap.size ∧ CR 33 w' r3 A3 n k3 cls ∧ CR 33 w' r18 B18 m k18 os3 ∧ CR 33 w' rY AY k cY ys ∧ Ch (No) w w') (fun (k, rY, AY, cY, ys) => n - k) (0, (p19 + 1), (Ki p19), k19, []) ?_ ?_
 · exact ⟨(by omega), (by omega), (fun m h => absurd h (Nat.not_lt_zero _)), (Nat.le_refl _), cl_19, uu_19, o19, CH_19⟩
 rintro ⟨k, rY, AY, cY, ys⟩ w20 ⟨hk, hrY, hys, hsz20, cl_20, uu_20, yy_20, CH_20⟩
 have hol2 := CR.len yy_20
 refine Qe (Kb (Wu O O (Wu O O (Om (Co O O) O (Ka ?_)))))
 refine Qj O (fun hc3 => ?_) (fun hc3 => ?_)
 ·
  refine Qn (Qa (Qe (Qt (Kj 15 [0, 2, 4, 6, 8, 12, 16, 18, 20, 22, 11, 15, 25, 27, 29] (At rY) ?_))))
  intro w21 c21 z21
  have cl_21 := cl_20.keep c21
  have uu_21 := uu_20.keep c21
  have yy_21 := yy_20.keep c21
  refine Wv O O (Wv O O (Wv O O (Ws (Qs υ31 ς33 O O (uu_21.sl.ne (by omega))) O ?_)))
  refine Wt (fun hS => Qg ι33 O ((uu_21.to hS).sl.getC (by omega) (by omega))) O ?_
  refine Wv O O (Wv O O (Wv O O (Ws (Qs υ31 ς33 O O (cl_21.sl.ne (by omega))) O ?_)))
  refine Wt (fun hS => Qg ι33 O ((cl_21.to hS).sl.getC (by omega) (by omega))) O ?_
  refine Hq (Qi call83 O (ref02_Conj _ _ _)) O ?_
  rintro _ w22 ⟨p22, q22, rfl, F22, c22⟩
  have z22 := c22.size
  have RD_22 := (Ch.refl (At rY) w21).and c22
  refine ⟨RD_22, ?_⟩
  refine Hq (Qi call120 O (ref02_Over _ _ _ _)) O ?_
  rintro _ w23 ⟨p23, q23, rfl, F23, c23⟩
  have z23 := c23.size
  have RD_23 := RD_22.and c23
  refine ⟨RD_23, ?_⟩
  refine Hq (Qi call148 O (ref02_Mul _ _ _ _ _)) O ?_
  rintro _ w24 ⟨p24, q24, rfl, F24, c24⟩
  have z24 := c24.size
  have RD_24 := RD_23.and c24
  refine ⟨RD_24, ?_⟩
  refine Kr 1 1 (Kl υ31 inf33w102 O O) O ?_
  intro p25 w25 l102 l102o c25 e25 z25
  have RD_25 := RD_24.and c25
  refine ⟨RD_25, ?_⟩
  have yy_25 := yy_21.keep (c22.trans (c23.trans (c24.trans c25)))
  refine Hq (Cm (S := _) υ31 inf33w102 O (by decide) O O yy_25 l102 (by rfl) (fun h => by simp at h) (by omega) (by simp only [maxLen]; omega)) O ?_
  rintro _ w26 ⟨r26, A26, k26, rfl, o26, c26, q26⟩
  have z26 := c26.size
  have y26 := o26.lt
  have RD_26 : Ch (At rY) w21 w26 := RD_25.then c26
  refine ⟨RD_26, ?_⟩
  refine Cj (Ww O O (Qf (Ca (Ql (Qa (Qb (Wu O O ?_)))))))
  refine Om (Cd O O) O ?_
  refine Ww O O (Qf ?_)
  refine Ke (k + 1, r26, A26, k26, ys ++ [(p24, q24)]) ?_
  have cl_25 := cl_21.keep (c22.trans (c23.trans (c24.trans c25)))
  have cl_26 := cl_25.to c26
  have uu_25 := uu_21.keep (c22.trans (c23.trans (c24.trans c25)))
  have uu_26 := uu_25.to c26
  have CH_25 := CH_20.and (c21.trans (c22.trans (c23.trans (c24.trans c25))))
  have CH_26 : Ch (No) w w26 := CH_25.then c26
  exact ⟨(by omega), (by omega), (LY.snoc hys hol2 (by rw [F24, F23, F22]; show mulC (overC (conjC (cx (os3.getD k (0, 0)))) m) (cx (cls.getD k (0, 0))) = _; rw [huB.get k (by omega), hlcls k (by omega)])), (by omega), cl_26, uu_26, (by show Ow _ _ _ _ _ _ _ (List.map cxV (_ ++ _)); rw [List.map_append]; exact o26), CH_26⟩
 refine Cn (Qk (Qk (Qy (Qa (Kb (Wu O O ?_))))))
 refine Ww O O (Ka (Qp (Qx O O (Kx ?_))))
 obtain rfl : n = k := by omega
 refine ⟨_, _, _, _, O, yy_20, ?_, by omega, CH_20⟩
 rw [trM_blue, show a.len.toNat = m by omega, Int.toNat_natCast]
 exact ⟨CR.len yy_20, hys⟩
end Go.Tm
namespace Go.Tm
set_option maxRecDepth 100000
open Go.RowKit Go.Proofs Go.Proofs.Tryz
theorem mapX {zs : List CB} {n : Nat} (h : zs.length = n) : zs.map cx = (List.range n).map fun j => cx (zs.getD j (0, 0)) := by
 subst h
 apply List.ext_getElem
 · simp
 ·
  intro i h1 h2
  simp only [List.length_map] at h1
  simp [List.getD, h1]
theorem getD_of_map {zs : List CB} {l : List Cx} (h : zs.map cx = l) (i : Nat) : cx (zs.getD i (0, 0)) = l.getD i z0 := by rw [← map_getD, h]
theorem inf33w103 : Inf prog 33 (.complex .f64 0 0) 1 16 := ⟨Tryz.t33, type33, rfl, rfl, rfl⟩
set_option maxHeartbeats 1000000 in
theorem ref20_Fd (A : Option Addr) (c : Nat) (SX : Nat → Prop) (X : Option Addr) (n xc : Nat) (xs : List CB) (w : World) (sx : SlR SX w X n 1 (xs.map cxV)) (hX : ∀ q, SX q → q < w.heap.size) (h1 : 1 ≤ n) (h2 : n ≤ 64) :
  Calls prog 69 #[ordV (Ord.mk 1 (n : Int) []) A c, .slice X n xc] w (Ret (fun v w' => ∃ r B k os, v = .slice B n k ∧ CR 33 w' r B n k os ∧ LY n (trM (.mk 1 (n : Int) []) (fun j => cx (xs.getD j (0, 0)))) os ∧ w.heap.size < r ∧ Ch No w w')) := by
 refine Ku func69 O ntmps69 O (Kb (Km (Cp O) O ?_))
 intro p1 w1 b2 c1 e1 z1
 refine Ww O O (Wz (Kb (Om (Qh υ53 O ς3 O O O) O (Om (Qg ι3 O (b2.cell O)) O ?_))))
 refine Ka (Qt (Kb (Om (Cg O O) O (Ww O O (Qf ?_)))))
 refine Qa (Qj O (fun hc1 => ?_) (fun hc1 => ?_))
 ·
  refine Kb (Kc (Wk.lit0 υ31 inf33w103) O ?_)
  intro p2 w2 N2 c2 e2 z2
  have l11o := Ow.of_new (cs := []) (sz := 1) (l := 0) N2 rfl (by decide)
  refine Ww O O (Wz (Kb (Wu O O (Om (Cs υ31 O) O ?_))))
  refine Wu O O (Ka (Qt ?_))
  have sx_2 := sx.keep (c1.trans c2)
  have CH_2 := (c1.trans c2)
  refine Kf (σ := Nat × Nat × Option Addr × Nat × List CB) (fun (j, rY, AY, cY, ys) => [(1, .slice X n xc), (5, .slice AY j cY), (13, Kg n), (14, Kg j)]) (fun (j, rY, AY, cY, ys) w' => j ≤ n ∧ w.heap.size < rY ∧ (∀ l, l < j → cx (ys.getD l (0, 0)) = directG n l (fun j => cx (xs.getD j (0, 0)))) ∧ w2.heap.size ≤ w'.heap.size ∧ SlR SX w' X n 1 (xs.map cxV) ∧ CR 33 w' rY AY j cY ys ∧ Ch (No) w w') (fun (j, rY, AY, cY, ys) => n - j) (0, (p2 + 1), (Ki p2), 0, []) ?_ ?_
  · exact ⟨(by omega), (by omega), (fun m h => absurd h (Nat.not_lt_zero _)), (Nat.le_refl _), sx_2, l11o, CH_2⟩
  rintro ⟨j, rY, AY, cY, ys⟩ w3 ⟨hj, hrY, hys, hsz3, sx_3, yy_3, CH_3⟩
  have hol2 := CR.len yy_3
  refine Kb (Om (Co O O) O (Wz (Qj O (fun hc2 => ?_) (fun hc2 => ?_))))
  ·
   refine Qn (Qa (Qe (Qt (Kb (Wu O O (Ww O O ?_))))))
   refine Ka (Qb (Wu O O (Wu O O (Wu O O (Om (Cs υ31 O) O (Wu O O ?_))))))
   refine Oq (Qi call113 O (ref10_At _ _ _ _ j _ _ sx_3)) O ?_
   rintro _ w4 ⟨p4, q4, rfl, F4, c4⟩
   have z4 := c4.size
   refine Kq 1 1 (Kl υ31 inf33w103 O O) O ?_
   intro p5 w5 l23 l23o c5 e5 z5
   have yy_5 := yy_3.keep (c4.trans c5)
   refine Oq (Cm (S := _) υ31 inf33w103 O (by decide) O O yy_5 l23 (by rfl) (fun h => by simp at h) (by omega) (by simp only [maxLen]; omega)) O ?_
   rintro _ w6 ⟨r6, A6, k6, rfl, o6, c6, q6⟩
   have z6 := c6.size
   have y6 := o6.lt
   refine Ww O O (Qf (Ql (Qa (Qb ?_))))
   refine Om (Cd O O) O ?_
   refine Wu O O (Qf ?_)
   refine Ke (j + 1, r6, A6, k6, ys ++ [(p4, q4)]) ?_
   have sx_5 := sx_3.keep (c4.trans c5)
   have sx_6 := sx_5.to c6 (by first | exact fun _ _ _ _ => id | (intro q h1 h2 hx h3; have := hX q h2; omega))
   have CH_5 := CH_3.and (c4.trans c5)
   have CH_6 : Ch (No) w w6 := CH_5.then c6
   exact ⟨(by omega), (by omega), (LY.snoc hys hol2 F4), (by omega), sx_6, (by show Ow _ _ _ _ _ _ _ (List.map cxV (_ ++ _)); rw [List.map_append]; exact o6), CH_6⟩
  refine Cn (Qk (Qk (Qy (Qa (Kb (Wu O O ?_))))))
  refine Ww O O (Ka (Qp (Cb (Qw (Qx O O (Kx ?_))))))
  obtain rfl : n = j := by omega
  refine ⟨_, _, _, _, O, yy_3, ?_, hrY, CH_3⟩
  rw [trM_direct]
  exact ⟨CR.len yy_3, hys⟩
 exact absurd O hc1
theorem ref20_Ff (A : Option Addr) (c : Nat) (SX : Nat → Prop) (X : Option Addr) (n xc : Nat) (xs : List CB) (w : World) (sx : SlR SX w X n 1 (xs.map cxV)) (hX : ∀ q, SX q → q < w.heap.size) (h2 : 2 ≤ n) (h5 : n ≤ 5) :
  Calls prog 69 #[ordV (Ord.mk 2 (n : Int) []) A c, .slice X n xc] w (Ret (fun v w' => ∃ r B k os, v = .slice B n k ∧ CR 33 w' r B n k os ∧ LY n (trM (.mk 2 (n : Int) []) (fun j => cx (xs.getD j (0, 0)))) os ∧ w.heap.size < r ∧ Ch No w w')) := by
 have hxl : xs.length = n := by have := sx.len; simpa using this
 refine Ku func69 O ntmps69 O (Kb (Km (Cp O) O ?_))
 intro p1 w1 b2 c1 e1 z1
 refine Ww O O (Wz (Kb (Om (Qh υ53 O ς3 O O O) O (Om (Qg ι3 O (b2.cell O)) O ?_))))
 refine Ka (Qt (Kb (Om (Cg O O) O (Ww O O (Qf ?_)))))
 refine Qa (Qj O (fun hc1 => ?_) (fun hc1 => ?_))
 · exact absurd hc1 (by show ¬ (2 : Int) = 1; decide)
 refine Kb (Om (Cg O O) O (Ww O O (Ka (Qj O (fun hc2 => ?_) (fun hc2 => ?_)))))
 ·
  refine Kb (Wu O O ?_)
  have sx_1 := sx.keep c1
  refine Oq (Qi call114 O (ref11_Fly _ _ _ _ h2 h5 _ _ sx_1 (fun q hq => by have := hX q hq; omega))) O ?_
  rintro _ w2 ⟨g2, B2, k2, os2, rfl, tr2, ht2, hg2, c2⟩
  have hlo2 := Ow.lt tr2
  have z2 := c2.size
  refine Ww O O (Ka (Qp (Cb (Qw (Qx O O (Kx ?_))))))
  have hl9 := CR.len tr2
  have CH_2 := (c1.trans c2)
  exact ⟨_, _, _, _, O, tr2, by rw [trM_fly]; exact ⟨hl9, fun j hj => by rw [getD_of_map ht2, mapX hxl]; rfl⟩, by omega, CH_2⟩
 exact absurd O hc2
theorem ref20_Ft (a b : Ord) (ta : TrR a) (tb : TrR b) (A : Option Addr) (c lo hi : Nat) (la lb : Nat) (SX : Nat → Prop) (X : Option Addr) (n xc : Nat) (xs : List CB) (w : World) (kd : RdK (In lo hi) w A [a, b]) (hh : hi ≤ w.heap.size) (sx : SlR SX w X n 1 (xs.map cxV)) (hX : ∀ q, SX q → q < w.heap.size) (ea : a.len = (la : Int)) (eb : b.len = (lb : Int)) (h2a : 2 ≤ la) (h2b : 2 ≤ lb) (hn : n = la * lb) (hn2 : n ≤ 16384) :
  Calls prog 69 #[ordV (Ord.mk 3 0 [a, b]) A c, .slice X n xc] w (Ret (fun v w' => ∃ r B k os, v = .slice B n k ∧ CR 33 w' r B n k os ∧ LY n (trM (.mk 3 0 [a, b]) (fun j => cx (xs.getD j (0, 0)))) os ∧ w.heap.size < r ∧ Ch No w w')) := by
 refine Ku func69 O ntmps69 O (Kb (Km (Cp O) O ?_))
 intro p1 w1 b2 c1 e1 z1
 refine Ww O O (Wz (Kb (Om (Qh υ53 O ς3 O O O) O (Om (Qg ι3 O (b2.cell O)) O ?_))))
 refine Ka (Qt (Kb (Om (Cg O O) O (Ww O O (Qf ?_)))))
 refine Qa (Qj O (fun hc1 => ?_) (fun hc1 => ?_))
 · exact absurd hc1 (by show ¬ (3 : Int) = 1; decide)
 refine Kb (Om (Cg O O) O (Ww O O (Ka (Qj O (fun hc2 => ?_) (fun hc2 => ?_)))))
 · exact absurd hc2 (by show ¬ (3 : Int) = 2; decide)
 refine Kb (Om (Cg O O) O (Ww O O (Ka (Qj O (fun hc3 => ?_) (fun hc3 => ?_)))))
 ·
  refine Kb (Om (Qz ι53 ς53 O O (b2.all' O)) O (Wu O O ?_))
  have kd_1 := kd.keep c1
  have sx_1 := sx.keep c1
  refine Oq (Qi call115 O (ref20_times a b ta tb _ _ _ _ _ _ _ _ _ la lb _ kd_1 (by omega) sx_1 (fun q hq => by have := hX q hq; omega) ea eb h2a h2b hn hn2)) O ?_
  rintro _ w2 ⟨r2, B2, k2, os2, rfl, tr2, ht2, hr2, c2⟩
  have hlo2 := Ow.lt tr2
  have z2 := c2.size
  refine Ww O O (Ka (Qp (Cb (Qw (Qx O O (Kx ?_))))))
  have CH_2 := (c1.trans c2)
  exact ⟨_, _, _, _, O, tr2, ht2, by omega, CH_2⟩
 exact absurd O hc3
theorem ref20_Fb (a : Ord) (ta : TrR a) (A : Option Addr) (c lo hi : Nat) (m : Nat) (SX : Nat → Prop) (X : Option Addr) (n xc : Nat) (xs : List CB) (w : World) (kd : RdK (In lo hi) w A [a]) (hh : hi ≤ w.heap.size) (sx : SlR SX w X n 1 (xs.map cxV)) (hX : ∀ q, SX q → q < w.heap.size) (ea : a.len = (m : Int)) (h2 : 2 ≤ n := by omega) (hm : 2 * n ≤ m + 1 := by omega) (hm2 : m ≤ 16384 := by omega) :
  Calls prog 69 #[ordV (Ord.mk 4 (n : Int) [a]) A c, .slice X n xc] w (Ret (fun v w' => ∃ r B k os, v = .slice B n k ∧ CR 33 w' r B n k os ∧ LY n (trM (.mk 4 (n : Int) [a]) (fun j => cx (xs.getD j (0, 0)))) os ∧ w.heap.size < r ∧ Ch No w w')) := by
 refine Ku func69 O ntmps69 O (Kb (Km (Cp O) O ?_))
 intro p1 w1 b2 c1 e1 z1
 refine Ww O O (Wz (Kb (Om (Qh υ53 O ς3 O O O) O (Om (Qg ι3 O (b2.cell O)) O ?_))))
 refine Ka (Qt (Kb (Om (Cg O O) O (Ww O O (Qf ?_)))))
 refine Qa (Qj O (fun hc1 => ?_) (fun hc1 => ?_))
 · exact absurd hc1 (by show ¬ (4 : Int) = 1; decide)
 refine Kb (Om (Cg O O) O (Ww O O (Ka (Qj O (fun hc2 => ?_) (fun hc2 => ?_)))))
 · exact absurd hc2 (by show ¬ (4 : Int) = 2; decide)
 refine Kb (Om (Cg O O) O (Ww O O (Ka (Qj O (fun hc3 => ?_) (fun hc3 => ?_)))))
 · exact absurd hc3 (by show ¬ (4 : Int) = 3; decide)
 refine Qn (Ql (Qa (Kb (Om (Qz ι53 ς53 O O (b2.all' O)) O (Wu O O ?_)))))
 have kd_1 := kd.keep c1
 have sx_1 := sx.keep c1
 refine Oq (Qi call116 O (ref20_blue a ta _ _ _ _ _ _ _ _ _ m _ kd_1 (by omega) sx_1 (fun q hq => by have := hX q hq; omega) ea h2 hm hm2)) O ?_
 rintro _ w2 ⟨r2, B2, k2, os2, rfl, tr2, ht2, hr2, c2⟩
 have hlo2 := Ow.lt tr2
 have z2 := c2.size
 refine Ww O O (Ka (Qp (Qx O O (Kx ?_))))
 have CH_2 := (c1.trans c2)
 exact ⟨_, _, _, _, O, tr2, ht2, by omega, CH_2⟩
theorem ref20_all {o : Ord} (h : GO o) (h0 : o.len ≠ 0) : TrR o := by
 induction h with
 | @direct n h1 h2 =>
  intro A c lo hi SX X n' xc xs w kd hh sx hX hl
  have e : n = (n' : Int) := (len_sl h0).symm.trans hl
  subst e
  exact ref20_Fd A c SX X n' xc xs w sx hX (by omega) (by omega)
 | @fly n h1 h2 =>
  intro A c lo hi SX X n' xc xs w kd hh sx hX hl
  have e : n = (n' : Int) := (len_sl h0).symm.trans hl
  subst e
  exact ref20_Ff A c SX X n' xc xs w sx hX (by omega) (by omega)
 | @times a b ha hb h1 h2 h3 iha ihb =>
  intro A c lo hi SX X n' xc xs w kd hh sx hX hl
  obtain ⟨la, ea⟩ : ∃ la : Nat, a.len = (la : Int) := ⟨a.len.toNat, by omega⟩
  obtain ⟨lb, eb⟩ : ∃ lb : Nat, b.len = (lb : Int) := ⟨b.len.toNat, by omega⟩
  have e : a.len * b.len = (n' : Int) := (len_sl h0).symm.trans hl
  have e2 : n' = la * lb := by rw [ea, eb] at e; exact_mod_cast e.symm
  exact ref20_Ft a b (iha (by omega)) (ihb (by omega)) A c lo hi la lb SX X n' xc xs w kd hh sx hX ea eb (by omega) (by omega) e2 (by omega)
 | @blue n a h1 h2 ha h3 iha =>
  intro A c lo hi SX X n' xc xs w kd hh sx hX hl
  have e : n = (n' : Int) := (len_sl h0).symm.trans hl
  subst e
  obtain ⟨m, ea⟩ : ∃ m : Nat, a.len = (m : Int) := ⟨a.len.toNat, by omega⟩
  have hb := (len_bd a).2
  exact ref20_Fb a (iha (by omega)) A c lo hi m SX X n' xc xs w kd hh sx hX ea
end Go.Tm
namespace Go.Tm
theorem srt_ext : ∀ {l1 l2 : List Int}, l1.Pairwise (· < ·) → l2.Pairwise (· < ·) → (∀ x, x ∈ l1 ↔ x ∈ l2) → l1 = l2
 | [], [], _, _, _ => rfl
 | [], b :: t, _, _, h => absurd ((h b).2 List.mem_cons_self) (by simp)
 | a :: s, [], _, _, h => absurd ((h a).1 List.mem_cons_self) (by simp)
 | a :: s, b :: t, h1, h2, h => by
  rw [List.pairwise_cons] at h1 h2
  have e : a = b := by
   rcases List.mem_cons.1 ((h a).1 List.mem_cons_self) with e | ha
   · exact e
   ·
    rcases List.mem_cons.1 ((h b).2 List.mem_cons_self) with e | hb
    · exact e.symm
    · have := h1.1 b hb; have := h2.1 a ha; omega
  subst e
  congr 1
  refine srt_ext h1.2 h2.2 fun x => ⟨fun hx => ?_, fun hx => ?_⟩
  ·
   rcases List.mem_cons.1 ((h x).1 (List.mem_cons_of_mem _ hx)) with e | h'
   · subst e; exact absurd (h1.1 _ hx) (by omega)
   · exact h'
  ·
   rcases List.mem_cons.1 ((h x).2 (List.mem_cons_of_mem _ hx)) with e | h'
   · subst e; exact absurd (h2.1 _ hx) (by omega)
   · exact h'
theorem upGo_le {n x : Int} : ∀ c : Nat, x ∈ upGo n c → x ≤ c
 | 0, h => by simp [upGo] at h
 | c + 1, h => by
  rw [upGo, List.mem_append] at h
  rcases h with h | h
  · have := upGo_le c h; omega
  ·
   split at h <;> simp at h
   omega
theorem upGo_srt (n : Int) : ∀ c, (upGo n c).Pairwise (· < ·)
 | 0 => List.Pairwise.nil
 | c + 1 => by
  rw [upGo, List.pairwise_append]
  refine ⟨upGo_srt n c, by split <;> simp, fun x hx y hy => ?_⟩
  have := upGo_le c hx
  split at hy <;> simp at hy
  omega
theorem quo_lt {n d D : Int} (hn : 1 ≤ n) (hd : 1 ≤ d) (h : d < D) (h1 : n % d = 0) (h2 : n % D = 0) : n / D < n / d := by
 have e1 : n / d * d = n := Int.ediv_mul_cancel (Int.dvd_of_emod_eq_zero h1)
 have e2 : n / D * D = n := Int.ediv_mul_cancel (Int.dvd_of_emod_eq_zero h2)
 have q := divE_ok hn (show 1 ≤ d by omega) h1
 rcases Int.lt_or_le (n / D) (n / d) with h3 | h3
 · exact h3
 ·
  have := Int.mul_le_mul h3 (show d + 1 ≤ D by omega) (by omega) (by omega)
  rw [e2, Int.mul_add, e1] at this
  omega
theorem dnGo_srt {n : Int} (hn : 1 ≤ n) (e : Nat) : ∀ c : Nat, c ≤ e → (dnGo n e c).Pairwise (· < ·) ∧ ∀ x ∈ dnGo n e c, ∀ d : Int, 1 ≤ d → d ≤ (e : Int) - c → n % d = 0 → x < n / d
 | 0, _ => ⟨List.Pairwise.nil, fun x hx => by simp [dnGo] at hx⟩
 | c + 1, hc => by
  obtain ⟨i1, i2⟩ := dnGo_srt hn e c (by omega)
  rw [dnGo]
  refine ⟨List.pairwise_append.2 ⟨i1, by split <;> simp, fun x hx y hy => ?_⟩, fun x hx d h1 h2 h3 => ?_⟩
  ·
   split at hy <;> simp at hy
   rename_i h4
   subst hy
   exact i2 x hx _ (by omega) (by omega) h4.1
  ·
   rcases List.mem_append.1 hx with hx | hx
   · exact i2 x hx d h1 (by omega) h3
   ·
    split at hx <;> simp at hx
    rename_i h4
    subst hx
    exact quo_lt hn h1 (by omega) h3 h4.1
theorem dnGo_ge {n : Int} (hn : 1 ≤ n) {e : Nat} (h : DivE n e) : ∀ c : Nat, c ≤ e → ∀ x ∈ dnGo n e c, (e : Int) ≤ x
 | 0, _, x, hx => by simp [dnGo] at hx
 | c + 1, hc, x, hx => by
  rw [dnGo, List.mem_append] at hx
  rcases hx with hx | hx
  · exact dnGo_ge hn h c (by omega) x hx
  ·
   split at hx <;> simp at hx
   rename_i h4
   subst hx
   by_cases c0 : c = 0
   · subst c0; simp only [Int.natCast_zero, Int.sub_zero] at h4 ⊢; omega
   ·
    have h5 : ((e : Int) - 1) * ((e : Int) - 1) < n := by
     rcases h.2.1 with h | h
     · omega
     · exact h
    have e2 : n / ((e : Int) - c) * ((e : Int) - c) = n := Int.ediv_mul_cancel (Int.dvd_of_emod_eq_zero h4.1)
    rcases Int.lt_or_le (n / ((e : Int) - c)) e with h6 | h6
    ·
     have := Int.mul_le_mul (show n / ((e : Int) - c) ≤ (e : Int) - 1 by omega) (show (e : Int) - c ≤ (e : Int) - 1 by omega) (by omega) (by omega)
     omega
    · exact h6
theorem isq_divE {n : Int} (hn : n ≤ 16384) : DivE n (isq n) := by
 obtain ⟨h1, h2⟩ := isq_spec hn
 refine ⟨h1, ?_, h2⟩
 unfold isq at *
 cases h : (List.range 200).find? fun e : Nat => decide (n ≤ (e : Int) * e) && decide (1 ≤ e) with
 | none => rw [h] at h1; simp at h1
 | some e =>
  rw [h] at h1
  simp only [Option.getD_some] at h1 ⊢
  by_cases e1 : e = 1
  · exact .inl e1
  ·
   right
   have := (List.find?_range_eq_some.1 h).2.2 (e - 1) (by omega)
   simp only [Bool.not_eq_true', Bool.and_eq_false_iff, decide_eq_false_iff_not] at this
   rcases this with h | h
   ·
    rw [Int.natCast_sub (by omega)] at h
    simpa using h
   · omega
theorem divs_up {n : Int} (h1 : 1 ≤ n) (h2 : n ≤ 16384) : divsAt n (isq n) = upGo n n.toNat := by
 obtain ⟨m, rfl⟩ : ∃ m : Nat, n = m := ⟨n.toNat, by omega⟩
 have hE := isq_divE h2
 refine srt_ext ?_ (upGo_srt _ _) fun x => ⟨fun hx => ?_, fun hx => ?_⟩
 ·
  rw [divsAt, List.pairwise_append]
  refine ⟨upGo_srt _ _, (dnGo_srt h1 _ _ (Nat.le_refl _)).1, fun x hx y hy => ?_⟩
  have h3 := upGo_le _ hx
  have h4 := dnGo_ge h1 hE _ (Nat.le_refl _) y hy
  have := hE.1
  omega
 ·
  have h3 := divs_dvd h1 hx
  obtain ⟨a, rfl⟩ : ∃ a : Nat, x = a := ⟨x.toNat, by omega⟩
  refine upGo_mem (by omega) h3.2 _ ?_
  have := Int.le_of_dvd (by omega) (Int.dvd_of_emod_eq_zero h3.2)
  omega
 ·
  have h3 := upGo_dvd _ hx
  have h4 := upGo_le _ hx
  obtain ⟨a, rfl⟩ : ∃ a : Nat, x = a := ⟨x.toNat, by omega⟩
  exact divs_mem (by omega) (by omega) (by omega) (by have := h3.2; omega)
theorem up_no {n : Int} {a : Nat} (ha : 1 ≤ a) (h : ¬ n % (a : Int) = 0) : upGo n (a + 1 - 1) = upGo n (a - 1) := by
 obtain ⟨c, rfl⟩ : ∃ c, a = c + 1 := ⟨a - 1, by omega⟩
 rw [Nat.add_sub_cancel, Nat.add_sub_cancel, upGo, if_neg (by simpa using h), List.append_nil]
theorem up_yes {n : Int} {a : Nat} (ha : 1 ≤ a) (h : n % (a : Int) = 0) : upGo n (a + 1 - 1) = upGo n (a - 1) ++ [(a : Int)] := by
 obtain ⟨c, rfl⟩ : ∃ c, a = c + 1 := ⟨a - 1, by omega⟩
 rw [Nat.add_sub_cancel, Nat.add_sub_cancel, upGo, if_pos (by simpa using h)]
 simp
theorem GoB.two (P : Pol) (n : Int) : GoB P n (upGo n (2 - 1)) (best0 P n) := by
 have h := (GoB.nil P n).skip (a := 1) (.inl (.inl (by omega)))
 have e : upGo n (2 - 1) = [] ++ [(1 : Int)] := by simp [upGo]
 rw [e]
 exact h
theorem GoB.top {P : Pol} {n : Int} {a : Nat} {b : Ord × Int} (h : GoB P n (upGo n (a - 1)) b) (h1 : 1 ≤ n) (h2 : n ≤ 16384) (ha : n ≤ a) (h3 : a = 2 ∨ (a : Int) ≤ n) : GoB P n (divsAt n (isq n)) b := by
 rw [divs_up h1 h2]
 by_cases e : (a : Int) = n
 ·
  have h4 := h.skip (a := (a : Int)) (.inl (.inr e))
  rw [← up_yes (by omega) (by rw [e]; exact Int.emod_self)] at h4
  rw [show n.toNat = a + 1 - 1 by omega]
  exact h4
 ·
  rw [show n.toNat = a - 1 by omega]
  exact h
abbrev lastI (l : List Int) : Int := l.getD (l.length - 1) 0
def Lst (l : List Int) : Prop := ∀ x ∈ l, x ≤ lastI l
theorem lastI_snoc (l : List Int) (x : Int) : lastI (l ++ [x]) = x := by simp [lastI, List.getD]
theorem Lst.snoc {l : List Int} {x : Int} (h : ∀ y ∈ l, y ≤ x) : Lst (l ++ [x]) := by
 intro y hy
 rw [lastI_snoc]
 rcases List.mem_append.1 hy with hy | hy
 · exact h y hy
 · simp at hy; omega
theorem divO_lst {p : Int} (hp : 2 ≤ p) : ∀ (g : Nat) (n : Int) (l : List Int), 1 ≤ n → n < 2 ^ g → (∀ x ∈ l, x ≤ p) → Lst l →
  (∀ x ∈ (divO g n p l).2, x ≤ p) ∧ Lst (divO g n p l).2 ∧ 1 ≤ (divO g n p l).1 ∧ (divO g n p l).1 ≤ n ∧ ¬ (divO g n p l).1 % p = 0 ∧ ∀ d, d ∣ (divO g n p l).1 → d ∣ n
 | 0, n, l, h1, h2, _, _ => by simp at h2; omega
 | g + 1, n, l, h1, h2, h3, h4 => by
  rw [divO]
  split
  ·
   rename_i h
   have e : n / p * p = n := Int.ediv_mul_cancel (Int.dvd_of_emod_eq_zero h)
   have q := div_half (m := 2 ^ g) hp h1 h (by rw [Int.pow_succ] at h2; omega)
   have ih := divO_lst hp g (n / p) (l ++ [p]) q.1 q.2.1 (fun x hx => by
    rcases List.mem_append.1 hx with hx | hx
    · exact h3 x hx
    · simp at hx; omega) (Lst.snoc h3)
   exact ⟨ih.1, ih.2.1, ih.2.2.1, by omega, ih.2.2.2.2.1, fun d hd => by rw [← e]; exact Int.dvd_mul_of_dvd_left (ih.2.2.2.2.2 d hd) ⟩
  · exact ⟨h3, h4, h1, Int.le_refl _, by assumption, fun _ h => h⟩
theorem facO_lst : ∀ (f : Nat) (n p : Int) (l : List Int), 2 ≤ p → 1 ≤ n → n < 2 ^ 15 → (∀ x ∈ l, x < p) → Lst l → (∀ d, 2 ≤ d → d < p → ¬ d ∣ n) → Lst (facO f n p l)
 | 0, _, _, l, _, _, _, _, h, _ => h
 | f + 1, n, p, l, hp, h1, h2, h3, h4, h5 => by
  rw [facO]
  split
  ·
   have q := divO_lst hp 15 n l h1 h2 (fun x hx => by have := h3 x hx; omega) h4
   refine facO_lst f _ _ _ (by omega) q.2.2.1 (by omega) (fun x hx => by have := q.1 x hx; omega) q.2.1 fun d d1 d2 hd => ?_
   by_cases e : d = p
   · subst e; exact q.2.2.2.2.1 (Int.emod_eq_zero_of_dvd hd)
   · exact h5 d d1 (by omega) (q.2.2.2.2.2 d hd)
  ·
   split
   ·
    refine Lst.snoc fun y hy => ?_
    have := h3 y hy
    have := h5 n (by omega)
    rcases Int.lt_or_le n p with h | h
    · exact absurd (Int.dvd_refl n) (this h)
    · omega
   · exact h4
theorem facs_lst {n : Int} (h1 : 1 ≤ n) (h2 : n ≤ 16384) : Lst (facs n) := facO_lst 200 n 2 [] (by omega) h1 (by omega) (by simp) (by simp [Lst]) fun d _ _ => by omega
theorem hard_last {P : Pol} {n : Int} (h1 : 1 ≤ n) (h2 : n ≤ 16384) : hardM P (facs n) n = true ↔ 0 < (facs n).length ∧ lastI (facs n) > P.prime ∧ n ≤ 8192 := by
 have hl := facs_lst h1 h2
 unfold hardM
 simp only [Bool.and_eq_true, List.any_eq_true, decide_eq_true_eq]
 constructor
 ·
  rintro ⟨⟨x, hx, hp⟩, h⟩
  exact ⟨List.length_pos_of_mem hx, by have := hl x hx; omega, h⟩
 ·
  rintro ⟨h, hp, h3⟩
  exact ⟨⟨lastI (facs n), by
   have e : lastI (facs n) = (facs n)[(facs n).length - 1]'(by omega) := by show (facs n).getD _ _ = _; rw [List.getD, List.getElem?_eq_getElem (by omega)]; rfl
   rw [e]; exact List.getElem_mem _, hp⟩, h3⟩
def sumS (x y : Int) : Int := if x > 4611686018427387904 - y then 4611686018427387905 else x + y
theorem sumS_bd {x y : Int} (h1 : 0 ≤ x) (h2 : 0 ≤ y) : 0 ≤ sumS x y ∧ sumS x y ≤ 4611686018427387905 := by unfold sumS; split <;> omega
theorem plus3 {x y z : Int} (h1 : 0 ≤ x ∧ x ≤ 4611686018427387905) (h2 : 0 ≤ y ∧ y ≤ 4611686018427387905) (h3 : 0 ≤ z ∧ z ≤ 4611686018427387904) : plusGo 0 [x, y, z] = sumS (sumS x y) z := by
 simp only [plusGo, sumS]
 split <;> (try split) <;> (try split) <;> (try split) <;> (try split) <;> omega
theorem plus2 {x y : Int} (h1 : 0 ≤ x ∧ x ≤ 4611686018427387905) (h2 : 0 ≤ y ∧ y ≤ 4611686018427387904) : plusGo 0 [x, y] = sumS x y := by
 simp only [plusGo, sumS]
 split <;> (try split) <;> (try split) <;> omega
theorem timesC_sum {a b ca cb : Int} (f : Bool) (h1 : 1 ≤ a) (h2 : a ≤ 65536) (h3 : 1 ≤ b) (h4 : b ≤ 65536) (h5 : 0 ≤ ca) (h6 : 0 ≤ cb) :
  timesC a b ca cb f = if f then sumS (sumS (timesS a cb) (timesS b ca)) (6 * (a - 1) * (b - 1)) else sumS (sumS (sumS (timesS a cb) (timesS b ca)) (6 * (a - 1) * (b - 1))) (a * b) := by
 have s := six_bd h1 h2 h3 h4
 have t1 := timesS_pos (show 0 ≤ a by omega) h6
 have t2 := timesS_pos (show 0 ≤ b by omega) h5
 have u1 := timesS_bd (show 0 ≤ a by omega) h2 (show -1 ≤ cb by omega)
 have u2 := timesS_bd (show 0 ≤ b by omega) h4 (show -1 ≤ ca by omega)
 have e := plus3 ⟨t1, u1.2⟩ ⟨t2, u2.2⟩ (z := 6 * (a - 1) * (b - 1)) ⟨s.1, by omega⟩
 unfold timesC
 rw [e]
 split
 · rfl
 · exact plus2 (sumS_bd (sumS_bd t1 t2).1 s.1) ⟨s.2.2.1, by omega⟩
def lkP (T : List (Int × (Ord × Int))) (n : Int) : Option (Ord × Int) := (T.find? fun x => x.1 == n).map (·.2)
def stP (T : List (Int × (Ord × Int))) (j : Nat) : List (Int × (Ord × Int)) := match goM (lkP T) PU (2 ^ j) (divsAt (2 ^ j) (isq (2 ^ j))) (best0 PU (2 ^ j)) with
 | some b => T ++ [(2 ^ j, b)]
 | none => T
def tabP : List (Int × (Ord × Int)) := (List.range 15).foldl stP []
theorem goM_best {rec : Int → Option (Ord × Int)} {P : Pol} {n : Int} (h : ∀ n r, rec n = some r → Best P n r) : ∀ {l : List Int} {b r : Ord × Int}, goM rec P n l b = some r → ∃ f, goM (bestF P f) P n l b = some r
 | [], b, r, hs => ⟨0, hs⟩
 | a :: t, b, r, hs => by
  simp only [goM] at hs
  cases h1 : stepM rec P n b a with
  | none => rw [h1] at hs; cases hs
  | some b' =>
   rw [h1] at hs
   obtain ⟨f, hf⟩ := goM_best h hs
   have h2 : ∃ g, stepM (bestF P g) P n b a = some b' := by
    unfold stepM at h1 ⊢
    by_cases c1 : a < 2 ∨ a = n
    · rw [if_pos c1] at h1; exact ⟨0, by rw [if_pos c1]; exact h1⟩
    ·
     rw [if_neg c1] at h1
     by_cases c2 : headsM P a = []
     · rw [if_pos c2] at h1; exact ⟨0, by rw [if_neg c1, if_pos c2]; exact h1⟩
     ·
      rw [if_neg c2] at h1
      cases hr : rec (n / a) with
      | none => rw [hr] at h1; cases h1
      | some x =>
       obtain ⟨g, hg⟩ := h _ _ hr
       rw [hr] at h1
       exact ⟨g, by rw [if_neg c1, if_neg c2, hg]; exact h1⟩
   obtain ⟨g, hg⟩ := h2
   refine ⟨max f g, ?_⟩
   simp only [goM]
   rw [stepM_mono (fun n r => bestF_le (Nat.le_max_right f g)) hg]
   exact goM_mono (fun n r => bestF_le (Nat.le_max_left f g)) hf
theorem stP_best {T : List (Int × (Ord × Int))} (h : ∀ x ∈ T, Best PU x.1 x.2) {j : Nat} (hj : j < 15) : ∀ x ∈ stP T j, Best PU x.1 x.2 := by
 unfold stP
 split
 ·
  rename_i b hb
  intro x hx
  rcases List.mem_append.1 hx with hx | hx
  · exact h x hx
  ·
   simp at hx
   subst hx
   have hg : GoB PU (2 ^ j) (divsAt (2 ^ j) (isq (2 ^ j))) b := goM_best (rec := lkP T) (fun n r hr => by
    unfold lkP at hr
    cases hf : T.find? (fun x => x.1 == n) with
    | none => rw [hf] at hr; cases hr
    | some y =>
     rw [hf] at hr
     simp at hr
     have h1 := List.find?_some hf
     simp at h1
     have := h y (List.mem_of_find?_eq_some hf)
     rw [h1, hr] at this
     exact this) hb
   refine hg.plain (hard_pow2 (show 2 ≤ PU.prime by decide) ?_ ⟨j, O⟩)
   have : (2 : Int) ^ j ≤ 2 ^ 14 := by exact_mod_cast Nat.pow_le_pow_right (by omega : 0 < 2) (show j ≤ 14 by omega)
   exact this
 · exact h
theorem tabP_best : ∀ x ∈ tabP, Best PU x.1 x.2 := by
 have h : ∀ l : List Nat, (∀ j ∈ l, j < 15) → ∀ T : List (Int × (Ord × Int)), (∀ x ∈ T, Best PU x.1 x.2) → ∀ x ∈ l.foldl stP T, Best PU x.1 x.2 := by
  intro l
  induction l with
  | nil => exact fun _ T hT => hT
  | cons j t ih => exact fun hl T hT => ih (fun i hi => hl i (List.mem_cons_of_mem _ hi)) _ (stP_best hT (hl j List.mem_cons_self))
 exact h _ (fun j hj => by simpa using hj) [] (by simp)
theorem tabP_bd : (tabP.all fun x => decide (0 ≤ x.2.2) && decide (x.2.2 ≤ 1099511627776)) = true ∧ ((List.range 15).all fun j => tabP.any fun x => x.1 == 2 ^ j) = true := by decide +kernel
theorem pow_cost {j : Nat} (hj : j < 15) {r : Ord × Int} (h : Best PU (2 ^ j) r) : 0 ≤ r.2 ∧ r.2 ≤ 1099511627776 := by
 have h1 := List.all_eq_true.1 tabP_bd.2 j (by simpa using hj)
 obtain ⟨x, hx, e⟩ := List.any_eq_true.1 h1
 simp at e
 have h2 := tabP_best x hx
 rw [e] at h2
 rw [h.unique h2]
 have := List.all_eq_true.1 tabP_bd.1 x hx
 simpa using this
theorem blueC_eq {n m y : Int} (h1 : 1 ≤ n) (h2 : n ≤ 65536) (h3 : 1 ≤ m) (h4 : m ≤ 65536) (h5 : 0 ≤ y) (h6 : y ≤ 1099511627776) : blueC n m y = 3 * y + 12 * n + 10 * m := by
 unfold blueC timesS
 rw [if_neg (by omega)]
 simp only [plusGo]
 rw [if_neg (by omega), if_neg (by omega), if_neg (by omega)]
 omega
theorem inner_cost {n : Int} (h1 : 1 ≤ n) (h2 : n ≤ 8192) {x : Ord × Int} (h : Best PU (up2 (2 * n - 1)) x) : 0 ≤ x.2 ∧ x.2 ≤ 1099511627776 := by
 obtain ⟨⟨j, hj⟩, _, h3⟩ := up2_spec (x := 2 * n - 1) (by omega) (by omega)
 have h4 := h3 14 (by omega)
 have : j < 15 := by
  rcases Nat.lt_or_ge j 15 with h | h
  · exact h
  ·
   have h5 : (2 : Int) ^ 15 ≤ 2 ^ j := by exact_mod_cast Nat.pow_le_pow_right (by omega : 0 < 2) h
   rw [hj] at h4
   omega
 rw [hj] at h
 exact pow_cost this h
end Go.Tm
namespace Go.Tm
set_option maxRecDepth 100000
open Go.RowKit Go.Proofs Go.Proofs.Tryz
theorem pu_fl : ∀ i : Nat, i < 4 → 2 ≤ PU.flies.getD i 0 ∧ PU.flies.getD i 0 ≤ 5 ∧ (i = 0 ∨ PU.flies.getD (i - 1) 0 < PU.flies.getD i 0) := by decide
theorem inf3w104 : Inf prog 3 (.int .i64 0) 1 8 := ⟨Tryz.t3, type3, rfl, rfl, rfl⟩
theorem inf53w104 : Inf prog 53 (.agg #[.int .i64 0, .int .i64 0, .slice none 0 0]) 3 40 := ⟨Tryz.t53, type53, rfl, rfl, rfl⟩
theorem build53w104 {ps : List (Nat × Value)} {cs : Array Value} (h : Instr.fill (fun i => ([(0, 1), (1, 1), (2, 1)] : List (Nat × Nat))[i]?) #[.int .i64 0, .int .i64 0, .slice none 0 0] ps = some cs) (w : World) : (Instr.build 53 ps.toArray).run prog w = .ok (.agg cs) w := by
 simp [Instr.build, runUnderlying53, ζ53, ς3, ς51, Value.cells, h]
theorem build79w104 {ps : List (Nat × Value)} {cs : Array Value} (h : Instr.fill (fun i => ([(0, 1), (1, 1), (2, 1)] : List (Nat × Nat))[i]?) #[.int .i64 0, .slice none 0 0, .int .i64 0] ps = some cs) (w : World) : (Instr.build 79 ps.toArray).run prog w = .ok (.agg cs) w := by
 simp [Instr.build, runUnderlying79, ζ79, ς3, ς77, Value.cells, h]
theorem bld53_0_1w104 {v0 v1 : Value} (h : [v0, v1].all Value.oneCell' = true) : BLD prog 53 [(0, v0), (1, v1)] #[v0, v1, .slice none 0 0] := build53w104 (fill1 _ _ _ h rfl)
theorem bld53_0_2w104 {v0 v2 : Value} (h : [v0, v2].all Value.oneCell' = true) : BLD prog 53 [(0, v0), (2, v2)] #[v0, .int .i64 0, v2] := build53w104 (fill1 _ _ _ h rfl)
theorem bld79_0_1_2w104 {v0 v1 v2 : Value} (h : [v0, v1, v2].all Value.oneCell' = true) : BLD prog 79 [(0, v0), (1, v1), (2, v2)] #[v0, v1, v2] := build79w104 (fill1 _ _ _ h rfl)
theorem ref14_Usual (w : World) :
  Calls prog 124 #[] w (Ret (fun v w' => ∃ FA fc, v = .agg #[Kg 16, .slice FA 4 fc, Kg 13] ∧ SlR (In w.heap.size w'.heap.size) w' FA 4 1 (PU.flies.map (.int .i64 ·)) ∧ Ch No w w')) := by
 refine Ku func124 O ntmps124 O (Kb (Km (Ck ζ79) O ?_))
 intro p1 w1 b0 c1 e1 z1
 refine Wy (Kq 1 4 (Kl υ77 inf3w104 O O) O ?_)
 intro p2 w2 l1 l1o c2 e2 z2
 refine Om (Ct O (bld79_0_1_2w104 O)) O ?_
 have b0_2 := b0.keep c2
 refine Ks (Cl ς79 O O O O b0_2) O ?_
 intro w3 c3 z3 b0_3
 refine Ka (Qp (Rl O O ι79 ς79 O (b0_3.all' O) (Kx ?_)))
 have cc_0_3 : Ch No w w3 := (Ch.then (E := No) (c1.and c2) c3)
 have CH_3 := cc_0_3
 have zz := CH_3.size
 have l1_3 := l1.to c3
 exact ⟨_, _, O, (l1_3).weak (fun q h => ⟨by omega, by omega⟩), CH_3⟩
theorem ref14_Check (FA : Option Addr) (fc : Nat) (SP : Nat → Prop) (w : World) (sl : SlR SP w FA 4 1 (PU.flies.map (.int .i64 ·))) (hP : ∀ q, SP q → q < w.heap.size) :
  Calls prog 151 #[.agg #[Kg 16, .slice FA 4 fc, Kg 13]] w (Ret (fun v w' => v = Kg 0 ∧ Ch No w w')) := by
 refine Ku func151 O ntmps151 O (Kb (Km (Cp O) O ?_))
 intro p1 w1 b1 c1 e1 z1
 refine Ww O O (Wy (Om (Qh υ79 O ς3 O O O) O (Om (Qg ι3 O (b1.cell O)) O (Om (Rn.geqT O O (by decide)) O ?_))))
 refine Wu O O (Om (Qh υ79 O ς3 O O O) O (Om (Qg ι3 O (b1.cell O)) O (Om (Rn.leqT O O (by decide)) O (Om (Qr O O) O (Wu O O (Om (Qh υ79 O ς3 O O O) O (Om (Qg ι3 O (b1.cell O)) O ?_)))))))
 refine Om (Rn.geqT O O (by decide)) O (Om (Qr O O) O (Wu O O (Om (Qh υ79 O ς3 O O O) O (Om (Qg ι3 O (b1.cell O)) O (Om (Qh υ79 O ς3 O O O) O (Om (Qg ι3 O (b1.cell O)) O (Om (Rn.leqT O O (by decide)) O ?_)))))))
 refine Om (Qr O O) O (Ww O O (Wz (Kb (Ww O O ?_))))
 refine Ka (Qt ?_)
 have sl_1 := sl.keep c1
 have CH_1 := c1
 refine Kf (σ := Nat) (fun i => [(1, Kh p1), (3, .bool true), (4, Kg i)]) (fun i w' => i ≤ 4 ∧ w1.heap.size ≤ w'.heap.size ∧ Bk w' p1 #[Kg 16, .slice FA 4 fc, Kg 13] 79 ∧ SlR SP w' FA 4 1 (PU.flies.map (.int .i64 ·)) ∧ Ch (No) w w') (fun i => 4 - i) 0 ?_ ?_
 · exact ⟨(by omega), (Nat.le_refl _), b1, sl_1, CH_1⟩
 rintro i w2 ⟨hi9, hsz2, b1_2, sl_2, CH_2⟩
 refine Qe (Kb (Wu O O (Om (Qh υ79 O ς77 O O O) O (Om (Qg ι77 O (b1_2.cell O)) O (Om (Cs υ77 O) O (Om (Co O O) O ?_))))))
 refine Ka (Qj O (fun hc1 => ?_) (fun hc1 => ?_))
 ·
  refine Qn (Qa (Qe (Qt (Kb (Om (Qh υ79 O ς77 O O O) O (Om (Qg ι77 O (b1_2.cell O)) O ?_))))))
  refine Wu O O (Om (Qs υ77 ς3 O O (sl_2.ne (by omega))) O (Om (Qg ι3 O (sl_2.get 0 (by omega) (by omega))) O (Ww O O (Ka ?_))))
  have hp9 : ((i : Int) - 1).toNat = i - 1 := by omega
  have hf9 : 2 ≤ PU.flies.getD ((i : Int)).toNat 0 ∧ PU.flies.getD ((i : Int)).toNat 0 ≤ 5 ∧ (i = 0 ∨ PU.flies.getD ((i : Int) - 1).toNat 0 < PU.flies.getD ((i : Int)).toNat 0) := by rw [hp9, Int.toNat_natCast]; exact pu_fl i (by omega)
  refine Qb (Wu O O (Wu O O (Wu O O (Om (Rn.geqT O O) O (Om (Qr O O) O (Wu O O (Wu O O ?_)))))))
  refine Om (Rn.leqT O O) O (Om (Qr O O) O (Wu O O (Wu O O (Om (Cg O O) O (Wu O O (VO.split_if 50 O (fun hc2 => ?_) (fun hc2 => ?_)))))))
  ·
   refine Oy O (Oy O (Oy O (Oy O (Oy O (Oy O (Oy O (Oy O ?_)))))))
   refine Om (Qr O O) O (Om (Qr O O) O (Ww O O (Qf (Ql (Qa (Qb (Wu O O ?_)))))))
   refine Om (Cd O O) O ?_
   refine Ww O O (Qf ?_)
   refine Ke (i + 1) ?_
   exact ⟨(by omega), (by omega), b1_2, sl_2, CH_2⟩
  refine Om (Qh υ79 O ς77 O O O) O (Om (Qg ι77 O (b1_2.cell O)) O (Wu O O ?_))
  refine Om (Rg O O) O ?_
  refine Om (Qs υ77 ς3 O O (sl_2.ne (by omega))) O (Om (Qg ι3 O (sl_2.get 0 (by omega) (by omega))) O (Wu O O (Om (Rn.lssT O O) O (Om (Qm O O) O (Om (Qr O O) O (Ww O O (Qf ?_)))))))
  refine Ql (Qa (Qb (Wu O O ?_)))
  refine Om (Cd O O) O ?_
  refine Ww O O (Qf ?_)
  refine Ke (i + 1) ?_
  exact ⟨(by omega), (by omega), b1_2, sl_2, CH_2⟩
 refine Cn (Qk (Qk (Qy (Qa (Qe (Kb ?_))))))
 refine Wu O O (Om (Rm O) O (Ka (Cc O (Qn (Qa (Qe ?_))))))
 refine Qb (Ww O O (Ka (Qp (Qx O O (Kx ?_)))))
 exact ⟨O, CH_2⟩
theorem ref14_flies (a : Int) (FA : Option Addr) (fc : Nat) (SP : Nat → Prop) (w : World) (sl : SlR SP w FA 4 1 (PU.flies.map (.int .i64 ·))) (hP : ∀ q, SP q → q < w.heap.size) :
  Calls prog 238 #[.agg #[Kg 16, .slice FA 4 fc, Kg 13], Kg a] w (Ret (fun v w' => v = .bool (PU.flies.contains a) ∧ Ch No w w')) := by
 refine Ku func238 O ntmps238 O (Kb (Km (Cp O) O ?_))
 intro p1 w1 b2 c1 e1 z1
 refine Ww O O (Wz (Kb (Ww O O (Qf ?_))))
 refine Qa (Qt ?_)
 have sl_1 := sl.keep c1
 have CH_1 := c1
 refine Kf (σ := Nat) (fun i => [(1, Kg a), (2, Kh p1), (5, Kg i)]) (fun i w' => i ≤ 4 ∧ (PU.flies.take i).contains a = false ∧ w1.heap.size ≤ w'.heap.size ∧ Bk w' p1 #[Kg 16, .slice FA 4 fc, Kg 13] 79 ∧ SlR SP w' FA 4 1 (PU.flies.map (.int .i64 ·)) ∧ Ch (No) w w') (fun i => 4 - i) 0 ?_ ?_
 · exact ⟨(by omega), O, (Nat.le_refl _), b2, sl_1, CH_1⟩
 rintro i w2 ⟨hi9, hn9, hsz2, b2_2, sl_2, CH_2⟩
 refine Qe (Kb (Wu O O (Om (Qh υ79 O ς77 O O O) O (Om (Qg ι77 O (b2_2.cell O)) O (Om (Cs υ77 O) O (Om (Co O O) O ?_))))))
 refine Ka (Qj O (fun hc1 => ?_) (fun hc1 => ?_))
 ·
  refine Qn (Qa (Qe (Qt (Qe ?_))))
  have hl9 : PU.flies.length = 4 := rfl
  have hxi : PU.flies[i]? = some (PU.flies.getD ((i : Int)).toNat 0) := by rw [Int.toNat_natCast, List.getD, List.getElem?_eq_getElem (by omega)]; rfl
  refine Qb (Om (Qh υ79 O ς77 O O O) O (Om (Qg ι77 O (b2_2.cell O)) O (Wu O O (Om (Qs υ77 ς3 O O (sl_2.ne (by omega))) O (Om (Qg ι3 O (sl_2.get 0 (by omega) (by omega))) O (Wu O O (Om (Cg O O) O ?_)))))))
  refine Ka (Qj O (fun hc2 => ?_) (fun hc2 => ?_))
  ·
   refine Kb (Ww O O (Ka (Qp (Cb (Qw ?_)))))
   refine Qw (Cb (Qw (Qx O O (Kx (⟨congrArg _ ?_, CH_2⟩)))))
   have hm := List.mem_of_getElem? hxi
   rw [hc2] at hm
   simp [hm]
  refine Qn (Ql (Qa (Qb (Wu O O ?_))))
  refine Om (Cd O O) O ?_
  refine Ww O O (Qf ?_)
  refine Ke (i + 1) ?_
  exact ⟨(by omega), (by rw [List.take_add_one, hxi]; exact contains_snoc hn9 (fun e => hc2 e.symm)), (by omega), b2_2, sl_2, CH_2⟩
 refine Cn (Qk (Qk (Qy (Qa (Kb (Ww O O ?_))))))
 refine Ka (Qp (Qx O O (Kx (⟨congrArg _ ?_, CH_2⟩))))
 obtain rfl : i = 4 := by omega
 exact hn9.symm
theorem ref14_direct (n : Int) (w : World) :
  Calls prog 237 #[Kg n] w (Ret (fun v w' => v = ordV (.mk 1 n []) none 0 ∧ Ch No w w')) := by
 refine Ku func237 O ntmps237 O (Kb (Km (Ck ζ53) O ?_))
 intro p1 w1 b2 c1 e1 z1
 refine Wy (Wu O O (Om (Ct O (bld53_0_1w104 O)) O (Ks (Cl ς53 O O O O b2) O ?_)))
 intro w2 c2 z2 b2_2
 refine Ka (Qp (Rl O O ι53 ς53 O (b2_2.all' O) (Kx ?_)))
 have cc_0_2 : Ch No w w2 := (Ch.then (E := No) c1 c2)
 have CH_2 := cc_0_2
 exact ⟨O, CH_2⟩
theorem ref14_fly (n : Int) (w : World) :
  Calls prog 239 #[Kg n] w (Ret (fun v w' => v = ordV (.mk 2 n []) none 0 ∧ Ch No w w')) := by
 refine Ku func239 O ntmps239 O (Kb (Km (Ck ζ53) O ?_))
 intro p1 w1 b2 c1 e1 z1
 refine Wy (Wu O O (Om (Ct O (bld53_0_1w104 O)) O (Ks (Cl ς53 O O O O b2) O ?_)))
 intro w2 c2 z2 b2_2
 refine Ka (Qp (Rl O O ι53 ς53 O (b2_2.all' O) (Kx ?_)))
 have cc_0_2 : Ch No w w2 := (Ch.then (E := No) c1 c2)
 have CH_2 := cc_0_2
 exact ⟨O, CH_2⟩
theorem ref14_leaves (a : Int) (FA : Option Addr) (fc : Nat) (SP : Nat → Prop) (w : World) (sl : SlR SP w FA 4 1 (PU.flies.map (.int .i64 ·))) (hP : ∀ q, SP q → q < w.heap.size) :
  Calls prog 182 #[Kg a, .agg #[Kg 16, .slice FA 4 fc, Kg 13]] w (Ret (fun v w' => ∃ A c, v = .slice A (headsM PU a).length c ∧ RdK (In w.heap.size w'.heap.size) w' A (headsM PU a) ∧ Ch No w w')) := by
 refine Ku func182 O ntmps182 O (Kb (Km (Cp O) O ?_))
 intro p1 w1 b3 c1 e1 z1
 refine Ww O O (Wy (Ww O O (Ka ?_)))
 refine Qe (Kb (Wu O O (Om (Qh υ79 O ς3 O O O) O (Om (Qg ι3 O (b3.cell O)) O (Om (Ro O O) O (Qf ?_))))))
 refine Qa (Qj O (fun hc1 => ?_) (fun hc1 => ?_))
 ·
  refine Qb (Wu O O (Wu O O (Oq (Qi call237 O (ref14_direct _ _)) O ?_)))
  rintro _ w2 ⟨rfl, c2⟩
  have z2 := c2.size
  refine Kq 3 1 (Kl υ51 inf53w104 O O) O ?_
  intro p3 w3 l13 l13o c3 e3 z3
  refine Oq (Cm (S := _) υ51 inf53w104 O (by decide) O O (Ow.nil _ _ _) l13 (by rfl) (fun h => by simp at h) (by omega) (by simp only [maxLen]; omega)) O ?_
  rintro _ w4 ⟨r4, A4, k4, rfl, o4, c4, q4⟩
  have z4 := c4.size
  have y4 := o4.lt
  refine Ww O O (Wz (Kb ?_))
  have b3_3 := b3.keep (c2.trans c3)
  have b3_4 := b3_3.to c4
  refine Om (Qz ι79 ς79 O O (b3_4.all' O)) O (Wu O O ?_)
  have sl_3 := sl.keep (c1.trans (c2.trans c3))
  have sl_4 := sl_3.to c4 (by first | exact fun _ _ _ _ => id | (intro q h1 h2 hx h3; have := hP q h2; omega))
  refine Oq (Qi call238 O (ref14_flies a _ _ _ _ sl_4 (fun q hq => by have := hP q hq; omega))) O ?_
  rintro _ w5 ⟨rfl, c5⟩
  have z5 := c5.size
  refine Ka (Cq O (fun hc2 => ?_) (fun hc2 => ?_))
  ·
   try simp only [bX] at hc2
   refine Qb (Wu O O (Wu O O (Oq (Qi call239 O (ref14_fly _ _)) O ?_)))
   rintro _ w6 ⟨rfl, c6⟩
   have z6 := c6.size
   refine Kq 3 1 (Kl υ51 inf53w104 O O) O ?_
   intro p7 w7 l21 l21o c7 e7 z7
   have row_7 := o4.keep (c5.trans (c6.trans c7))
   refine Oq (Cm (S := _) υ51 inf53w104 O (by decide) O O row_7 l21 (by rfl) (fun h => by simp at h) (by omega) (by simp only [maxLen]; omega)) O ?_
   rintro _ w8 ⟨r8, A8, k8, rfl, o8, c8, q8⟩
   have z8 := c8.size
   have y8 := o8.lt
   refine Ww O O (Wy (Wu O O (Ww O O (Qf ?_))))
   refine Qa (Qp (Qx O O (Kx ?_)))
   have CH_3 := (c1.trans (c2.trans c3))
   have CH_4 : Ch (No) w w4 := CH_3.then c4
   have CH_7 := CH_4.and (c5.trans (c6.trans c7))
   have CH_8 : Ch (No) w w8 := CH_7.then c8
   have zz := CH_8.size
   have eh : headsM PU a = [.mk 1 a [], .mk 2 a []] := by unfold headsM; rw [if_pos (show a ≤ PU.direct from hc1), if_pos hc2]; rfl
   have y9 := o8.lt
   exact ⟨_, _, by rw [eh]; rfl, by rw [eh]; exact ((((KidRow.nil _ _).snoc (o := .mk 1 a []) O (RdK.nil _ _)).snoc (o := .mk 2 a []) O (RdK.nil _ _))).rd (o8.sl.weak (fun q h => ⟨by omega, by omega⟩)) (by simp), CH_8⟩
  try simp only [bX] at hc2
  refine Qn (Qa (Kb (Wu O O (Ww O O (Ka ?_)))))
  refine Qp (Qx O O (Kx ?_))
  have CH_3 := (c1.trans (c2.trans c3))
  have CH_4 : Ch (No) w w4 := CH_3.then c4
  have CH_5 := CH_4.and c5
  have zz := CH_5.size
  have eh : headsM PU a = [.mk 1 a []] := by unfold headsM; rw [if_pos (show a ≤ PU.direct from hc1), if_neg (by rw [hc2]; simp)]; rfl
  have row_5 := o4.keep c5
  have y9 := row_5.lt
  exact ⟨_, _, by rw [eh]; rfl, by rw [eh]; exact (((KidRow.nil _ _).snoc (o := .mk 1 a []) O (RdK.nil _ _))).rd (row_5.sl.weak (fun q h => ⟨by omega, by omega⟩)) (by simp), CH_5⟩
 refine Qn (Qa (Qe (Kb (Om (Qz ι79 ς79 O O (b3.all' O)) O (Wu O O ?_)))))
 have sl_1 := sl.keep c1
 refine Oq (Qi call238 O (ref14_flies a _ _ _ _ sl_1 (fun q hq => by have := hP q hq; omega))) O ?_
 rintro _ w9 ⟨rfl, c9⟩
 have z9 := c9.size
 refine Ka (Cq O (fun hc3 => ?_) (fun hc3 => ?_))
 ·
  try simp only [bX] at hc3
  refine Qb (Wu O O (Wu O O (Oq (Qi call239 O (ref14_fly _ _)) O ?_)))
  rintro _ w10 ⟨rfl, c10⟩
  have z10 := c10.size
  refine Kq 3 1 (Kl υ51 inf53w104 O O) O ?_
  intro p11 w11 l21 l21o c11 e11 z11
  refine Oq (Cm (S := _) υ51 inf53w104 O (by decide) O O (Ow.nil _ _ _) l21 (by rfl) (fun h => by simp at h) (by omega) (by simp only [maxLen]; omega)) O ?_
  rintro _ w12 ⟨r12, A12, k12, rfl, o12, c12, q12⟩
  have z12 := c12.size
  have y12 := o12.lt
  refine Ww O O (Wy (Wu O O (Ww O O (Qf ?_))))
  refine Qa (Qp (Qx O O (Kx ?_)))
  have CH_11 := (c1.trans (c9.trans (c10.trans c11)))
  have CH_12 : Ch (No) w w12 := CH_11.then c12
  have zz := CH_12.size
  have eh : headsM PU a = [.mk 2 a []] := by unfold headsM; rw [if_neg (show ¬ a ≤ PU.direct from hc1), if_pos hc3]; rfl
  have y9 := o12.lt
  exact ⟨_, _, by rw [eh]; rfl, by rw [eh]; exact (((KidRow.nil _ _).snoc (o := .mk 2 a []) O (RdK.nil _ _))).rd (o12.sl.weak (fun q h => ⟨by omega, by omega⟩)) (by simp), CH_12⟩
 try simp only [bX] at hc3
 refine Qn (Qa (Kb (Wu O O (Ww O O (Ka ?_)))))
 refine Qp (Qx O O (Kx ?_))
 have CH_9 := (c1.trans c9)
 have zz := CH_9.size
 have eh : headsM PU a = [] := by unfold headsM; rw [if_neg (show ¬ a ≤ PU.direct from hc1), if_neg (by rw [hc3]; simp)]; rfl
 exact ⟨_, _, by rw [eh]; rfl, by rw [eh]; exact RdK.nil _ _, CH_9⟩
theorem ref11_Work (r : Int) (w : World) :
  Calls prog 240 #[Kg r] w (Ret (fun v w' => v = .tuple #[Kg (fwork r).1, Kg (fwork r).2] ∧ Ch No w w')) := by
 refine Ku func240 O ntmps240 O (Kb (Ww O O (Ww O O (Wz ?_))))
 refine Qb (Kq 1 6 (Kl υ77 inf3w104 O O) O ?_)
 intro p1 w1 l6 l6o c1 e1 z1
 refine Ww O O (Wy (Kq 1 6 (Kl υ77 inf3w104 O O) O ?_))
 intro p2 w2 l7 l7o c2 e2 z2
 refine Ww O O (Wz (Kb (Wu O O (Om (Co O O) O ?_))))
 refine Wu O O ?_
 refine Cz (b := _) 3 10 13 O (fun hc1 Jhc1 => by
   refine Oy O (Oy O (Om (Qr O O) O ?_))
   exact (Qo O (Qo O Jhc1))) (fun hc1 Jhc1 => by
   try simp only [bX] at hc1
   refine Wu O O (Om (Rb O O) O (Om (Qm O O) O ?_))
   exact (Qo O (Qo O Jhc1))) ?_
 refine Ka (Cq O (fun hc2 => ?_) (fun hc2 => ?_))
 ·
  try simp only [bX] at hc2
  refine Kb (Ww O O (Ww O O (Ka (Qp (Qw ?_)))))
  refine Ra O O O (Kx ?_)
  have CH_2 := (c1.trans c2)
  refine ⟨?_, CH_2⟩; unfold fwork; rw [if_neg (by omega), if_neg (by omega), if_neg (by omega), if_neg (by omega)]
 try simp only [bX] at hc2
 refine Qn (Qa (Qe ?_))
 have l6_2 := l6.keep c2
 have s6 : SlR (fun q => q < w2.heap.size) w2 _ 6 1 (([0, 0, 4, 12, 16, 32] : List Int).map (.int .i64 ·)) := (l6_2).weak (fun q h => by omega)
 have s7 : SlR (fun q => q < w2.heap.size) w2 _ 6 1 (([0, 0, 0, 4, 0, 16] : List Int).map (.int .i64 ·)) := (l7).weak (fun q h => by omega)
 refine Kj 9 [0, 2, 4, 6, 8, 10, 12, 14, 16] (No) ?_
 intro w3 c3 z3
 have l6o_3 := l6o.keep (c2.trans c3)
 have l7o_3 := l7o.keep c3
 have s6_3 := s6.keep c3
 have s7_3 := s7.keep c3
 refine Wv O O (Wv O O (Ws (Qs υ77 ς3 O O (s6_3.ne (by omega))) O (Wt (fun hS => Qg ι3 O ((s6_3.keep hS).get 0 (by omega) (by omega))) O (Wv O O (Wv O O (Ws (Qs υ77 ς3 O O (s7_3.ne (by omega))) O (Wt (fun hS => Qg ι3 O ((s7_3.keep hS).get 0 (by omega) (by omega))) O ?_)))))))
 refine Wx O O (Cj (Ww O O (Qf (Ca (Qa (Qp (Ra O O O ?_)))))))
 refine Kx ?_
 have CH_3 := (c1.trans (c2.trans c3))
 refine ⟨?_, CH_3⟩
 rcases (show r = 2 ∨ r = 3 ∨ r = 4 ∨ r = 5 by omega) with rfl | rfl | rfl | rfl <;> rfl
theorem ref14_cost (k n : Int) (A : Option Addr) (c : Nat) (w : World) (hk : k = 1 ∨ k = 2) (h1 : 0 ≤ n := by omega) (h2 : n ≤ 65536 := by omega) :
  Calls prog 183 #[.agg #[Kg k, Kg n, .slice A 0 c]] w (Ret (fun v w' => v = .tuple #[Kg (lcost k n), Kg n] ∧ Ch No w w')) := by
 have hs := sq_bd h1 h2
 have hb9 := fwork_bd n
 refine Ku func183 O ntmps183 O (Kb (Km (Cp O) O ?_))
 intro p1 w1 b1 c1 e1 z1
 refine Ww O O (Ww O O (Wy (Om (Qh υ53 O ς3 O O O) O (Om (Qg ι3 O (b1.cell O)) O ?_))))
 refine Ww O O (Wz (Kb (Om (Qh υ53 O ς3 O O O) O (Om (Qg ι3 O (b1.cell O)) O ?_))))
 refine Ka (Qt (Kb (Om (Cg O O) O (Ww O O (Qf ?_)))))
 refine Qa (Qj O (fun hc1 => ?_) (fun hc1 => ?_))
 ·
  refine Kb (Wu O O ?_)
  refine Om (Cy O O) O ?_
  refine Wu O O ?_
  refine Om (Cy O O) O ?_
  refine Wu O O (Ww O O (Ww O O (Ka (Qp (Cb (Qw ?_))))))
  refine Ra O O O (Kx ?_)
  have CH_1 := c1
  refine ⟨?_, CH_1⟩; unfold lcost; rw [if_pos hc1]; rfl
 refine Kb (Om (Cg O O) O (Ww O O (Ka (Qj O (fun hc2 => ?_) (fun hc2 => ?_)))))
 ·
  refine Kb (Wu O O (Oq (Qi call240 O (ref11_Work _ _)) O ?_))
  rintro _ w2 ⟨rfl, c2⟩
  have z2 := c2.size
  refine Wu O O (Om (Qu O O) O (Om (Qu O O) O (Ww O O (Ww O O (Wz ?_)))))
  refine Qb (Wu O O (Wu O O ?_))
  refine Om (Cd O O) O ?_
  refine Wu O O (Ww O O (Ww O O (Ka (Qp (Cb (Qw ?_))))))
  refine Ra O O O (Kx ?_)
  have CH_2 := (c1.trans c2)
  refine ⟨?_, CH_2⟩; unfold lcost; rw [if_neg hc1]; rfl
 exact absurd hk (by omega)
theorem ref14_sum (x y : Int) (w : World) (hx : 0 ≤ x ∧ x ≤ 4611686018427387905 := by omega) (hy : 0 ≤ y ∧ y ≤ 4611686018427387905 := by omega) :
  Calls prog 241 #[Kg x, Kg y] w (Ret (fun v w' => v = Kg (sumS x y) ∧ w = w')) := by
 refine Ku func241 O ntmps241 O (Kb (Ww O O (Wz (Qe ?_))))
 refine Qb (Wu O O (Wu O O ?_))
 refine Om (Rg O O) O ?_
 refine Om (Rb O O) O (Ka (Qj O (fun hc1 => ?_) (fun hc1 => ?_)))
 ·
  refine Kb (Ww O O (Ka (Qp (Qw (Qx O O ?_)))))
  refine Kx ?_
  refine ⟨?_, O⟩; unfold sumS; rw [if_pos hc1]
 refine Qn (Qa (Kb (Wu O O (Wu O O ?_))))
 refine Om (Cd O O) O ?_
 refine Ww O O (Ka (Qp (Qx O O (Kx ?_))))
 refine ⟨?_, O⟩; unfold sumS; rw [if_neg hc1]
theorem ref14_product (x y : Int) (w : World) (ha : 0 ≤ y := by omega) (ha2 : y ≤ 65536 := by omega) (hb : -1 ≤ x := by omega) (hb2 : x ≤ 9223372036854775807 := by omega) :
  Calls prog 242 #[Kg x, Kg y] w (Ret (fun v w' => v = Kg (timesS y x) ∧ w = w')) := by
 have hm9 := Int.mul_comm x y
 refine Ku func242 O ntmps242 O (Kb (Ww O O (Wz (Qe ?_))))
 refine Qb (Wu O O (Om (Rb O O) O (Wu O O ?_)))
 refine Re (b := _) 5 7 12 O (fun hc1 Jhc1 => by
   try simp only [bX] at hc1
   refine Wu O O (Wu O O (Om (Wc O O (by omega) (by omega) (by omega)) O (Om (Rb O O) O (Om (Qr O O) O ?_))))
   exact (Qo O (Qo O (Qo O (Qo O Jhc1))))) (fun hc1 Jhc1 => by
   refine Oy O (Oy O (Oy O (Oy O (Om (Qm O O) O ?_))))
   exact (Qo O (Qo O (Qo O (Qo O Jhc1))))) ?_
 refine Ka (Cq O (fun hc2 => ?_) (fun hc2 => ?_))
 ·
  try simp only [bX] at hc2
  refine Kb (Ww O O (Ka (Qp (Qw (Qx O O ?_)))))
  refine Kx ?_
  refine ⟨?_, O⟩; unfold timesS; rw [if_pos hc2]
 try simp only [bX] at hc2
 refine Qn (Qa (Kb (Wu O O (Wu O O ?_))))
 refine Om (Cy O O (by rw [IntKind.wrap_i64]; have := times_bd ha ha2 hb (by omega); omega)) O ?_
 refine Ww O O (Ka (Qp (Qx O O (Kx ?_))))
 refine ⟨?_, O⟩; unfold timesS; rw [if_neg (fun h => by rcases hc2 with h2 | h2; exact h2 h.1; exact h2 h.2), hm9]
theorem ref14_times (k a b ca cb : Int) (w : World) (hk : k = 1 ∨ k = 2) (h1 : 1 ≤ a := by omega) (h2 : a ≤ 65536 := by omega) (h3 : 1 ≤ b := by omega) (h4 : b ≤ 65536 := by omega) (h5 : 0 ≤ ca := by omega) (h6 : 0 ≤ cb := by omega) (h7 : ca ≤ 4611686018427387905 := by omega) (h8 : cb ≤ 4611686018427387905 := by omega) :
  Calls prog 184 #[Kg k, Kg ca, Kg a, Kg cb, Kg b] w (Ret (fun v w' => v = Kg (timesC a b ca cb (decide (k = 2))) ∧ w = w')) := by
 have hs := six_bd h1 h2 h3 h4
 have t1 := timesS_bd (show 0 ≤ a by omega) h2 (show -1 ≤ cb by omega); have t2 := timesS_bd (show 0 ≤ b by omega) h4 (show -1 ≤ ca by omega)
 have u1 := timesS_pos (show 0 ≤ a by omega) h6; have u2 := timesS_pos (show 0 ≤ b by omega) h5
 have q1 := sumS_bd u1 u2
 have q2 := sumS_bd q1.1 hs.1
 have hT := timesC_sum (decide (k = 2)) h1 h2 h3 h4 h5 h6
 refine Ku func184 O ntmps184 O (Kb (Ww O O (Wy ?_)))
 refine Wu O O (Wu O O (Oq (Qi call242 O (ref14_product _ _ _)) O ?_))
 rintro _ _ ⟨rfl, rfl⟩
 refine Wu O O (Wu O O (Oq (Qi call242 O (ref14_product _ _ _)) O ?_))
 rintro _ _ ⟨rfl, rfl⟩
 refine Oq (Qi call241 O (ref14_sum _ _ _)) O ?_
 rintro _ _ ⟨rfl, rfl⟩
 refine Wu O O ?_
 refine Om (Rg O O) O ?_
 refine Om (Cy O O) O ?_
 refine Wu O O ?_
 refine Om (Rg O O) O ?_
 refine Om (Cy O O) O ?_
 refine Oq (Qi call241 O (ref14_sum _ _ _)) O ?_
 rintro _ _ ⟨rfl, rfl⟩
 refine Ww O O (Wz (Kb (Wu O O (Om (Wd O O) O ?_))))
 refine Ka (Qj O (fun hc1 => ?_) (fun hc1 => ?_))
 ·
  refine Qb (Wu O O (Wu O O (Wu O O ?_)))
  refine Om (Cy O O) O ?_
  refine Oq (Qi call241 O (ref14_sum _ _ _)) O ?_
  rintro _ _ ⟨rfl, rfl⟩
  refine Ww O O (Wy (Wu O O (Ww O O (Qf ?_))))
  refine Qa (Qp (Qx O O (Kx ?_)))
  refine ⟨?_, O⟩; rw [hT, if_neg (by simpa using hc1)]
 refine Qn (Qa (Kb (Wu O O (Ww O O (Ka ?_)))))
 refine Qp (Qx O O (Kx ?_))
 refine ⟨?_, O⟩; rw [hT, if_pos (decide_eq_true (show k = 2 by omega))]
theorem ref14_both (a b : Ord) (A B : Option Addr) (c e : Nat) (S S' : Nat → Prop) (w : World) (kd : RdK S w A a.kids) (hh : ∀ q, S q → q < w.heap.size) (kb : RdK S' w B b.kids) (hh2 : ∀ q, S' q → q < w.heap.size) :
  Calls prog 185 #[ordV a A c, ordV b B e] w (Ret (fun v w' => ∃ C f, v = ordV (.mk 3 0 [a, b]) C f ∧ RdK (fun q => S q ∨ S' q ∨ In w.heap.size w'.heap.size q) w' C [a, b] ∧ Ch No w w')) := by
 refine Ku func185 O ntmps185 O (Kb (Km (Cp O) O ?_))
 intro p1 w1 b2 c1 e1 z1
 refine Km (Cp O) O ?_
 intro p2 w2 b3 c2 e2 z2
 refine Km (Ck ζ53) O ?_
 intro p3 w3 b4 c3 e3 z3
 refine Wy ?_
 have b2_3 := b2.keep (c2.trans c3)
 refine Om (Qz ι53 ς53 O O (b2_3.all' O)) O ?_
 have b3_3 := b3.keep c3
 refine Om (Qz ι53 ς53 O O (b3_3.all' O)) O (Kq 3 2 (Kl υ51 inf53w104 O O) O ?_)
 intro p4 w4 l7 l7o c4 e4 z4
 refine Om (Ct O (bld53_0_2w104 O)) O ?_
 have b4_4 := b4.keep c4
 refine Ks (Cl ς53 O O O O b4_4) O ?_
 intro w5 c5 z5 b4_5
 refine Ka (Qp (Rl O O ι53 ς53 O (b4_5.all' O) (Kx ?_)))
 have cc_0_5 : Ch No w w5 := (Ch.then (E := No) (((c1.and c2).and c3).and c4) c5)
 have CH_5 := cc_0_5
 have zz := CH_5.size
 have kd_5 := kd.keep cc_0_5
 have kb_5 := kb.keep cc_0_5
 have l7_5 := l7.to c5
 exact ⟨_, _, O, (((KidRow.nil _ _).snoc (o := a) O ((kd_5).weak (fun q h => .inl h))).snoc (o := b) O ((kb_5).weak (fun q h => .inr (.inl h)))).rd ((l7_5).weak (fun q h => .inr (.inr ⟨by omega, by omega⟩))) (by simp), CH_5⟩
theorem ref05_Factors (n0 : Int) (w : World) (h1 : 1 ≤ n0) (h2 : n0 ≤ 16384) :
  Calls prog 243 #[Kg n0] w (Ret (fun v w' => ∃ A c, v = .slice A (facs n0).length c ∧ SlR (In w.heap.size w'.heap.size) w' A (facs n0).length 1 ((facs n0).map (.int .i64 ·)) ∧ (facs n0).length ≤ 2000 ∧ Ch No w w')) := by
 refine Ku func243 O ntmps243 O (Kb (Ww O O (Wy ?_)))
 refine Ww O O (Wz (Kb (Wu O O (Om (Co O O) O ?_))))
 refine Wu O O ?_
 refine Cz (b := _) 3 7 10 O (fun hc1 Jhc1 => by
   refine Oy O (Oy O (Om (Qr O O) O ?_))
   exact (Qo O (Qo O Jhc1))) (fun hc1 Jhc1 => by
   try simp only [bX] at hc1
   refine Wu O O (Om (Rb O O) O (Om (Qm O O) O ?_))
   exact (Qo O (Qo O Jhc1))) ?_
 refine Ka (Cq O (fun hc2 => ?_) (fun hc2 => ?_))
 ·
  try simp only [bX] at hc2
  refine Kb (Wu O O (Ww O O (Ka (Qp (Qw ?_)))))
  refine Qx O O (Kx ?_)
  have e1 : n0 = 1 := by omega
  subst e1
  exact ⟨none, 0, O, SlR.nil _ _ _, by decide, (Ch.refl (No) w)⟩
 try simp only [bX] at hc2
 refine Qn (Qa (Qe (Kb (Ww O O (Ka ?_)))))
 refine Qt (Kf (σ := Nat × Int × Int × List Int × Option Addr × Nat × Nat) (fun (f, n, p, out, A, L, c) => [(0, Kg n), (3, .slice A L c), (4, Kg p)]) (fun (f, n, p, out, A, L, c) w' => facs n0 = facO f n p out ∧ 1 ≤ n ∧ n ≤ 16384 ∧ 2 ≤ p ∧ p ≤ 129 ∧ 131 ≤ f + p ∧ out.length = L ∧ (L : Int) ≤ 15 * (p - 2) ∧ (∃ r, Ow w' r 3 1 A L c (out.map (.int .i64 ·)) ∧ (r = 0 ∨ w.heap.size < r)) ∧ Ch No w w') (fun (f, n, p, out, A, L, c) => f) (200, n0, 2, [], none, 0, 0) ?_ ?_)
 · exact ⟨O, h1, h2, by omega, by omega, by omega, O, by simp, ⟨0, Ow.nil _ _ _, .inl O⟩, (Ch.refl (No) w)⟩
 rintro ⟨f, n, p, out, A, L, c⟩ w1 ⟨he, n1, n2, p1, p2, hf, hL, hl, ⟨r, row_1, hr⟩, CH_1⟩
 have hq := sq_le (c := p); have zc := CH_1.size
 obtain ⟨f, rfl⟩ : ∃ g, f = g + 1 := ⟨f - 1, by omega⟩
 refine Qe (Kb (Wu O O (Wu O O ?_)))
 refine Om (Cy O O) O ?_
 refine Wu O O (Om (Ro O O) O (Ka (Qj O (fun hc3 => ?_) (fun hc3 => ?_))))
 ·
  refine Qn (Qa (Qe (Qt (Qt (Kf (σ := Nat × Int × List Int × Option Addr × Nat × Nat) (fun (g, m, out2, A2, L2, c2) => [(0, Kg m), (3, .slice A2 L2 c2), (4, Kg p)]) (fun (g, m, out2, A2, L2, c2) w' => divO 15 n p out = divO g m p out2 ∧ 1 ≤ m ∧ m ≤ n ∧ m < 2 ^ g ∧ out2.length = L2 ∧ (L2 : Int) ≤ 15 * (p - 2) + (15 - g) ∧ g ≤ 15 ∧ (∃ r, Ow w' r 3 1 A2 L2 c2 (out2.map (.int .i64 ·)) ∧ (r = 0 ∨ w.heap.size < r)) ∧ Ch No w w') (fun (g, m, out2, A2, L2, c2) => g) (15, n, out, A, L, c) ?_ ?_)))))
  · exact ⟨O, n1, by omega, by omega, hL, by omega, by omega, ⟨_, row_1, hr⟩, CH_1⟩
  rintro ⟨g, m, out2, A2, L2, c2⟩ w2 ⟨hg, m1, m2, m3, hL2, hl2, hg15, ⟨r2, row_2, hr2⟩, CH_2⟩
  have y2 := row_2.lt; have zz := CH_2.size
  refine Qe (Kb (Wu O O (Wu O O (Om (Rq O O) O (Om (Cg O O) O (Qf ?_))))))
  refine Qa (Qj O (fun hc4 => ?_) (fun hc4 => ?_))
  ·
   refine Qn (Qa (Qt (Qe ?_)))
   obtain ⟨g, rfl⟩ := g_pos m1 m3
   have dh := div_half (m := 2 ^ g) p1 m1 hc4 (by rw [Int.pow_succ] at m3; omega)
   refine Qb (Wu O O (Wu O O (Kq 1 1 (Kl υ77 inf3w104 O O) O ?_)))
   intro p3 w3 l25 l25o c3 e3 z3
   have row_3 := row_2.keep c3
   refine Oq (Cm (S := _) υ77 inf3w104 O (by decide) O O row_3 l25 (by rfl) (fun h => by simp at h) (by omega) (by simp only [maxLen]; omega)) O ?_
   rintro _ w4 ⟨r4, A4, k4, rfl, o4, c4, q4⟩
   have z4 := c4.size
   have y4 := o4.lt
   refine Ww O O (Ka (Qb (Wu O O (Wu O O (Om (Wc O O (by omega) (by omega) (by omega)) O (Ww O O ?_))))))
   refine Qf (Ql ?_)
   refine Ke (g, m / p, out2 ++ [p], A4, L2 + 1, k4) ?_
   have CH_3 := CH_2.and c3
   have CH_4 : Ch (No) w w4 := CH_3.then c4
   refine ⟨?_, by omega, by omega, by omega, by simp [hL2], by omega, by omega, ⟨_, by simpa [flat, Value.cells] using o4, by omega⟩, CH_4⟩
   rw [hg, divO, if_pos hc4]
  refine Cn (Qk (Qk (Qy (Ql (Qa (Qb (Wu O O ?_)))))))
  refine Om (Cd O O) O ?_
  refine Ww O O (Qf ?_)
  refine Ke (f, m, p + 1, out2, A2, L2, c2) ?_
  have hp9 : p ≤ 128 := by rcases Int.lt_or_le 128 p with h | h; (have := sq_mono (p := 129) (q := p); omega); exact h
  refine ⟨?_, by omega, by omega, by omega, by omega, by omega, hL2, by omega, ⟨_, row_2, by omega⟩, CH_2⟩
  rw [he, facO, if_pos hc3, hg, divO_stop hc4]
 refine Cn (Qk (Qk (Qy (Qa (Qe (Kb ?_))))))
 refine Wu O O (Om (Rb O O) O (Ka (Qj O (fun hc5 => ?_) (fun hc5 => ?_))))
 ·
  refine Qb (Wu O O (Wu O O (Kq 1 1 (Kl υ77 inf3w104 O O) O ?_)))
  intro p5 w5 l34 l34o c5 e5 z5
  have row_5 := row_1.keep c5
  refine Oq (Cm (S := _) υ77 inf3w104 O (by decide) O O row_5 l34 (by rfl) (fun h => by simp at h) (by omega) (by simp only [maxLen]; omega)) O ?_
  rintro _ w6 ⟨r6, A6, k6, rfl, o6, c6, q6⟩
  have z6 := c6.size
  have y6 := o6.lt
  refine Ww O O (Wy (Wu O O (Ww O O (Qf ?_))))
  refine Qa (Qp (Qx O O (Kx ?_)))
  have CH_5 := CH_1.and c5
  have CH_6 : Ch (No) w w6 := CH_5.then c6
  have zz := CH_6.size; have y9 := o6.lt
  have ef : facs n0 = out ++ [n] := by rw [he, facO, if_neg hc3, if_pos hc5]
  rw [ef]
  refine ⟨A6, k6, by simp [hL], ?_, by simp; omega, CH_6⟩
  have h9 := o6.sl.weak (S' := In w.heap.size w6.heap.size) (fun q h => ⟨by omega, by omega⟩)
  simpa [hL, flat, Value.cells] using h9
 refine Qn (Qa (Kb (Wu O O (Ww O O (Ka ?_)))))
 refine Qp (Qx O O (Kx ?_))
 have zz := CH_1.size; have y9 := row_1.lt
 have ef : facs n0 = out := by rw [he, facO, if_neg hc3, if_neg hc5]
 rw [ef]
 refine ⟨_, _, by rw [hL], ?_, by omega, CH_1⟩
 have h9 := row_1.sl.weak (S' := In w.heap.size w1.heap.size) (fun q h => ⟨by omega, by omega⟩)
 rw [hL]; exact h9
theorem ref13_Size (a : Int) (w : World) (h1 : 1 ≤ a) (h2 : a ≤ 8192) :
  Calls prog 187 #[Kg a] w (Ret (fun v w' => v = .tuple #[Kg (up2 (2 * a - 1)), Kg 0] ∧ w = w')) := by
 obtain ⟨⟨J, hJ⟩, hu1, hu2⟩ := up2_spec (x := 2 * a - 1)
 have hu4 := hu2 14 (by omega)
 simp only [Int.reducePow] at hu4
 have hJ14 : J ≤ 14 := by rcases Nat.lt_or_ge 14 J with h | h; (have h5 : (2 : Int) ^ 15 ≤ 2 ^ J := by exact_mod_cast Nat.pow_le_pow_right (by omega : 0 < 2) h); simp only [Int.reducePow] at h5; omega; exact h
 refine Ku func187 O ntmps187 O (Kb (Ww O O (Ww O O (Wz ?_))))
 refine Kb (Wu O O (Om (Co O O) O (Wu O O ?_)))
 refine Cz (b := _) 3 7 10 O (fun hc1 Jhc1 => by
   refine Oy O (Oy O (Om (Qr O O) O ?_))
   exact (Qo O (Qo O Jhc1))) (fun hc1 Jhc1 => by
   try simp only [bX] at hc1
   refine Wu O O (Om (Rb O O) O (Om (Qm O O) O ?_))
   exact (Qo O (Qo O Jhc1))) ?_
 refine Ka (Cq O (fun hc2 => ?_) (fun hc2 => ?_))
 ·
  try simp only [bX] at hc2
  omega
 try simp only [bX] at hc2
 refine Qn (Qa (Kb (Ww O O (Wz ?_))))
 refine Qt (Kf (σ := Nat × Int) (fun (j, m) => [(0, Kg a), (4, Kg m)]) (fun (j, m) w' => w = w' ∧ j ≤ J ∧ m = (2 : Int) ^ j ∧ m ≤ up2 (2 * a - 1) ∧ 1 ≤ m) (fun (j, m) => 20 - j) (0, 1) ?_ ?_)
 · exact ⟨O, Nat.zero_le _, O, by omega, by omega⟩
 rintro ⟨j, m⟩ _ ⟨rfl, j1, hm, hm2, hm3⟩
 refine Qe (Kb (Wu O O (Wu O O ?_)))
 refine Om (Cy O O) O ?_
 refine Om (Rg O O) O ?_
 refine Om (Co O O) O (Ka (Qj O (fun hc3 => ?_) (fun hc3 => ?_)))
 ·
  refine Qn (Qa (Qt (Qb (Wu O O ?_))))
  refine Om (Cy O O) O ?_
  refine Ww O O (Qf (Ql ?_))
  refine Ke (j + 1, m * 2) ?_
  have hj9 : j < J := Nat.lt_of_le_of_ne j1 (fun e => by subst e; omega)
  have hp9 : (2 : Int) ^ (j + 1) ≤ 2 ^ J := by exact_mod_cast Nat.pow_le_pow_right (by omega : 0 < 2) hj9
  rw [Int.pow_succ] at hp9
  exact ⟨O, hj9, by rw [Int.pow_succ, hm], by omega, by omega⟩
 refine Cn (Qk (Qk (Qy (Qa (Qe (Kb ?_))))))
 refine Wu O O (Om (Rb O O) O (Ka (Qj O (fun hc4 => ?_) (fun hc4 => ?_))))
 · omega
 refine Qn (Qa (Kb (Wu O O (Ww O O (Ww O O (Qf ?_))))))
 refine Qa (Qp (Ra O O O (Kx (⟨?_, O⟩))))
 have h9 := hu2 j (by omega)
 obtain rfl : m = up2 (2 * a - 1) := by omega
 rfl
theorem ref14_blue (a : Int) (h1 : 1 ≤ a) (h2 : a ≤ 16384) (FA : Option Addr) (fc : Nat) (SP : Nat → Prop) (w : World) (sl : SlR SP w FA 4 1 (PU.flies.map (.int .i64 ·))) (hP : ∀ q, SP q → q < w.heap.size) :
  Calls prog 186 #[Kg a, .agg #[Kg 16, .slice FA 4 fc, Kg 13]] w (Ret (fun v w' => v = .bool (hardM PU (facs a) a) ∧ Ch No w w')) := by
 have hh9 := hard_last (P := PU) h1 h2
 refine Ku func186 O ntmps186 O (Kb (Km (Cp O) O ?_))
 intro p1 w1 b3 c1 e1 z1
 refine Ww O O (Wy (Wu O O (Oq (Qi call243 O (ref05_Factors _ _ (by omega) (by omega))) O ?_)))
 rintro _ w2 ⟨fA2, fk2, rfl, fs2, fl2, c2⟩
 have z2 := c2.size
 refine Ww O O (Wz (Kj 18 [0, 2, 4, 6, 8, 10, 12, 14, 16, 18, 20, 22, 24, 26, 28, 30, 32, 34] (No) ?_))
 intro w3 c3 z3
 have sl_3 := sl.keep (c1.trans (c2.trans c3))
 have b3_3 := b3.keep (c2.trans c3)
 have fs_3 := fs2.keep c3
 refine Wv O O (Ws (Cs υ77 O) O (Ws (Rb O O) O (Wv O O (Wq 11 O (fun hc1 => ?_) (fun hc1 => ?_)))))
 ·
  refine Wv O O (Wv O O (Ws (Cs υ77 O) O ?_))
  refine Ws (Rg O O) O ?_
  refine Wt (fun hS => Qs υ77 ς3 O O ((fs_3.keep hS).ne (by omega))) O (Wt (fun hS => Qg ι3 O ((fs_3.keep hS).get 0 (by omega) (by omega))) O (Ws (Qh υ79 O ς3 O O O) O (Wt (fun hS => Qg ι3 O ((b3_3.keep hS).cell O)) O (Ws (Rb O O) O (Ws (Qr O O) O (Wv O O (Wq 22 O (fun hc2 => ?_) (fun hc2 => ?_))))))))
  ·
   refine Wv O O (Ws (Ro O O) O (Ws (Qr O O) O (Cj (Ww O O (Qf (Ca (Qa ?_)))))))
   refine Qp (Qx O O (Kx ?_))
   have e9 : (((facs a).length : Int) - 1).toNat = (facs a).length - 1 := by omega
   rw [e9] at hc2
   have CH_3 := (c1.trans (c2.trans c3))
   refine ⟨congrArg Value.bool ?_, CH_3⟩
   rw [Bool.eq_iff_iff, decide_eq_true_eq, hh9]
   exact ⟨fun h => ⟨by omega, hc2, h⟩, fun h => h.2.2⟩
  refine Hy O (Hy O (Ws (Qm O O) O (Cj (Ww O O (Qf (Ca (Qa ?_)))))))
  refine Qp (Qx O O (Kx ?_))
  have e9 : (((facs a).length : Int) - 1).toNat = (facs a).length - 1 := by omega
  rw [e9] at hc2
  have CH_3 := (c1.trans (c2.trans c3))
  exact ⟨congrArg Value.bool (Bool.eq_false_iff.2 fun h => hc2 (hh9.1 h).2.1).symm, CH_3⟩
 refine Hy O (Hy O (Hy O (Hy O (Hy O (Hy O (Hy O (Hy O ?_)))))))
 refine Hy O (Ws (Qm O O) O (Wv O O (Hy O (Hy O (Ws (Qm O O) O (Cj (Ww O O ?_)))))))
 refine Qf (Ca (Qa (Qp (Qx O O (Kx ?_)))))
 have CH_3 := (c1.trans (c2.trans c3))
 exact ⟨congrArg Value.bool (Bool.eq_false_iff.2 fun h => hc1 (by have := (hh9.1 h).1; omega)).symm, CH_3⟩
end Go.Tm
