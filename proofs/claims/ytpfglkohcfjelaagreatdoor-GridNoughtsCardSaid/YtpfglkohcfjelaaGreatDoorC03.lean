/- Lemmas of this claim, joined by program. Regions that draw their order and hold two workers that may be taken in either order; cuts. Walks of functions: the cheapest order. The planner's choice, whole. Calls that turn rows of one element type alone, from a block on (the shelf's contracts on rows that a call owns). An order's text, in plain Lean. The contracts of library functions at this program, laid by the tool of the kit Walks of functions: strconv.AppendInt at base 10. Conditions: each lemma names its own. -/
import Derived.Test.YtpfglkohcfjelaaGreatDoorC02
import Derived.Lib.OthersKept
import Derived.Lib.AppendStr
import Derived.Laws.IdiomStrings
import Derived.Test.YtpfglkohcfjelaaGreatDoorC01
import Derived.Lib.AppendIntMem
import Derived.Lib.ItoaLen
import Derived.Shelf.Strconv.Itoa0
import Derived.Shelf.Strconv.Itoa1
import Derived.Shelf.LaysM
import Derived.Shelf.Strconv.Itoa2
import Derived.Shelf.Strconv.AppendUint10
import Derived.Shelf.Strconv.AppendInt10
import Derived.Shelf.Strconv.AppendIntPublic10
import Derived.Shelf.Slices.Turned
import Derived.Test.YtpfglkohcfjelaaGreatDoorProg
set_option linter.all false
namespace Go.Tm
open Go.RowKit
inductive Tr where
  | nil
  | mv (i : Nat) (t : Tr)
  | wk (i : Nat) (t : Tr)
  | two (i : Nat) (s : Tr) (j : Nat) (t : Tr)
def Tr.len : Tr → Nat → Bool
  | .nil, n => Nat.beq n 0
  | .mv _ t, n + 1 => t.len n
  | .wk _ t, n + 1 => t.len n
  | .two _ s _ t, n + 1 => s.len n && t.len n
  | _, 0 => false
section
variable {P : Program} {md : Region.Mode} {ops : Array Oper} {Q : Exit → Act → World → Prop} {S : World → Prop} {n : Nat} {L : Array Bool → Act → World → Prop}
def Region.treeB (md : Region.Mode) (ops : Array Oper) (n : Nat) : Tr → Array Bool → Bool
  | .nil, listed => Region.seqB md ops (ops.size - n) n listed
  | .mv i r, listed => Nat.blt i n && (Region.ready md ops listed).contains i && Region.free md ops listed i && Region.treeB md ops n r (listed.setIfInBounds i true)
  | .wk i r, listed => Nat.blt i n && decide (Region.ready md ops listed = [i]) && Region.treeB md ops n r (listed.setIfInBounds i true)
  | .two i s j t, listed => Nat.blt i n && Nat.blt j n && decide (Region.ready md ops listed = [i, j]) && Region.treeB md ops n s (listed.setIfInBounds i true) && Region.treeB md ops n t (listed.setIfInBounds j true)
def Region.treeOk (md : Region.Mode) (ops : Array Oper) (n : Nat) (t : Tr) : Bool :=
  Region.noSelect ops && Region.waitB md ops n && t.len n && Region.treeB md ops n t (Array.replicate ops.size false)
def wpTr (P : Program) (ops : Array Oper) (Q : Exit → Act → World → Prop) (S : World → Prop) (Lq : Act → World → Prop) : Tr → Act → World → Prop
  | .nil, a, w => Lq a w
  | .mv i r, a, w => ∃ oi v, ops[i]? = some oi ∧ YieldsIf P ops S oi v a ∧ wpTr P ops Q S Lq r (a.put oi.dst v) w
  | .wk i r, a, w => wpOp P ops Q i (fun a' w' => S w' ∧ wpTr P ops Q S Lq r a' w') a w
  | .two i s j t, a, w => wpOp P ops Q i (fun a' w' => S w' ∧ wpTr P ops Q S Lq s a' w') a w ∧ wpOp P ops Q j (fun a' w' => S w' ∧ wpTr P ops Q S Lq t a' w') a w
theorem wpAnyHL_tree {Lq : Act → World → Prop} (hsel : Region.noSelect ops = true) (hwt : Region.waitB md ops n = true) (hQ : ∀ c a d v w, Q (.panic c) (Act.put a d v) w → Q (.panic c) a w) :
    ∀ (t : Tr) (m : Nat) (listed : Array Bool) (a : Act) (w : World), t.len m = true → HeadInv md ops n listed → Region.treeB md ops n t listed = true → S w → wpTr P ops Q S Lq t a w →
    wpAnyHL P md ops Q S n (fun listed' a' w' => Region.seqB md ops (ops.size - n) n listed' = true ∧ Lq a' w') m listed a w
  | .nil, m, listed, a, w, hm, _, hB, hS, h => by
    have : m = 0 := Nat.eq_of_beq_eq_true hm
    subst this
    exact ⟨hB, h⟩
  | .mv i r, 0, _, _, _, hm, _, _, _, _ => by cases hm
  | .wk i r, 0, _, _, _, hm, _, _, _, _ => by cases hm
  | .two i s j t, 0, _, _, _, hm, _, _, _, _ => by cases hm
  | .mv i r, m + 1, listed, a, w, hm, inv, hB, hS, h => by
    simp only [Region.treeB, Bool.and_eq_true, Nat.blt_eq] at hB
    obtain ⟨⟨⟨hin, hr⟩, hf⟩, hB'⟩ := hB
    obtain ⟨oi, v, hoi, hy, hK⟩ := h
    have hr' : i ∈ Region.ready md ops listed := by simpa using hr
    exact wpAnyHL_first hoi (Region.noSelect_spec hsel) hwt hin (fun c a w => hQ c a _ _ w) (fun listed' a' w' hL => seqB_ready hL.1) m listed a w inv (Region.free_spec hoi hf) hr' hy hS
      (wpAnyHL_tree hsel hwt hQ r m _ _ w hm (inv.set hr' hin) hB' hS hK)
  | .wk i r, m + 1, listed, a, w, hm, inv, hB, hS, h => by
    simp only [Region.treeB, Bool.and_eq_true, Nat.blt_eq, decide_eq_true_eq] at hB
    obtain ⟨⟨hin, hr⟩, hB'⟩ := hB
    have hr' : i ∈ Region.ready md ops listed := by rw [hr]; simp
    refine ⟨by rw [hr]; simp, fun j hj => ?_⟩
    rw [hr] at hj
    have hji : j = i := by simpa using hj
    subst hji
    exact ⟨hin, wpOp_mono (fun a' w' h' => ⟨h'.1, wpAnyHL_tree hsel hwt hQ r m _ a' w' hm (inv.set hr' hin) hB' h'.1 h'.2⟩) h⟩
  | .two i s j t, m + 1, listed, a, w, hm, inv, hB, hS, h => by
    simp only [Region.treeB, Bool.and_eq_true, Nat.blt_eq, decide_eq_true_eq] at hB
    obtain ⟨⟨⟨⟨hi, hj⟩, hr⟩, hs⟩, ht⟩ := hB
    simp only [Tr.len, Bool.and_eq_true] at hm
    have hri : i ∈ Region.ready md ops listed := by rw [hr]; simp
    have hrj : j ∈ Region.ready md ops listed := by rw [hr]; simp
    refine ⟨by rw [hr]; simp, fun x hx => ?_⟩
    rw [hr] at hx
    simp only [List.mem_cons, List.not_mem_nil, or_false] at hx
    rcases hx with rfl | rfl
    · exact ⟨hi, wpOp_mono (fun a' w' h' => ⟨h'.1, wpAnyHL_tree hsel hwt hQ s m _ a' w' hm.1 (inv.set hri hi) hs h'.1 h'.2⟩) h.1⟩
    · exact ⟨hj, wpOp_mono (fun a' w' h' => ⟨h'.1, wpAnyHL_tree hsel hwt hQ t m _ a' w' hm.2 (inv.set hrj hj) ht h'.1 h'.2⟩) h.2⟩
theorem any_of_tree {a : Act} {w : World} {l : List Oper} (n : Nat) (t : Tr) (S : World → Prop) (hB : Region.treeOk .any l.toArray n t = true)
    (hQ : ∀ c a d v w, Q (.panic c) (Act.put a d v) w → Q (.panic c) a w) (hS : S w.drew) (h : wpTr P l.toArray Q S (fun a' w' => wpList P l.toArray Q (l.drop n) a' w') t a w.drew) : wpAny P .any l.toArray Q l.toArray.size (Array.replicate l.toArray.size false) a w.drew := by
  simp only [Region.treeOk, Bool.and_eq_true] at hB
  obtain ⟨⟨⟨hsel, hwt⟩, hlen⟩, hord⟩ := hB
  have hn : n ≤ l.length := by
    simp only [Region.waitB, Bool.or_eq_true, Bool.and_eq_true, decide_eq_true_eq, List.size_toArray] at hwt
    rcases hwt with h | ⟨⟨h, _⟩, _⟩ <;> omega
  have hdl : (l.drop n).length = l.toArray.size - n := by simp
  have inv0 : HeadInv .any l.toArray n (Array.replicate l.toArray.size false) :=
    ⟨by simp, fun j oj _ hl => (by rw [getD_replicate_false] at hl; cases hl), fun t _ ht => getD_in (by simpa using ht) (getD_replicate_false _ _)⟩
  have H := wpAnyHL_tree hsel hwt hQ t n _ a w.drew hlen inv0 hord hS h
  have := wpAny_of_headH (g := l.toArray.size - n) (fun listed a' w' hL => by
    have := wpAny_of_seq (md := .any) (Q' := Q) (l.drop n) n listed a' w' (fun j => by simp [List.getElem?_drop]) (by rw [hdl]; exact hL.1) hL.2
    rwa [hdl] at this) _ _ _ _ H
  rw [show n + (l.toArray.size - n) = l.toArray.size by simp only [List.size_toArray]; omega] at this
  exact this
end
section
variable {P : Program} {n : Fr} {m : Nat} {rr : Option Nat} {ops : Array Oper} {Q : Exit → Act → World → Prop} {S : World → Prop} {Lq : Act → World → Prop} {k : K} {w : World} {o : Oper} {t s : Tr}
def VT (P : Program) (n : Fr) (ops : Array Oper) (Q : Exit → Act → World → Prop) (S : World → Prop) (Lq : Act → World → Prop) (t : Tr) (k : K) (w : World) : Prop := ∀ a, Fits n k a → wpTr P ops Q S Lq t a w
theorem Rz {id : Nat} {l : List Oper} (m : Nat) (t : Tr) (S : World → World → Prop) (hm : P.follows .mixedOrders = true) (hB : Region.treeOk .any l.toArray m t = true) (hS : ∀ w1, w1 = w.drew → S w1 w1)
    (h : ∀ w1, w1 = w.drew → VT P n l.toArray (NoPanic Q) (S w1) (fun a' w' => wpList P l.toArray (NoPanic Q) (l.drop m) a' w') t k w1) : VC (r := none) P n (.region id l.toArray true) Q k w :=
  fun a ha => wpIn_none.2 <| wp_region_noPanic (wp_region_any hm (any_of_tree m t (S w.drew) hB (fun _ _ _ _ _ h => h) (hS _ rfl) (h _ rfl a ha)))
theorem VC.drawsTR {id : Nat} {l : List Oper} (m : Nat) (t : Tr) (S : World → World → Prop) (hm : P.follows .mixedOrders = true) (hd : l.all notDef = true) (hB : Region.treeOk .any l.toArray m t = true) (hS : ∀ w1, w1 = w.drew → S w1 w1)
    (h : ∀ w1, w1 = w.drew → VT P n l.toArray (NoPO Q) (S w1) (fun a' w' => wpList P l.toArray (NoPO Q) (l.drop m) a' w') t k w1) : VC (r := rr) P n (.region id l.toArray true) Q k w :=
  fun a ha => wpIn_region_any hm (any_fw (by simpa using hd) _ _ a _ (any_of_tree m t (S w.drew) hB (fun _ _ _ _ _ h => h) (hS _ rfl) (h _ rfl a ha)))
theorem Wg {i j : Nat} (h1 : VT P n ops Q S Lq (.wk i s) k w) (h2 : VT P n ops Q S Lq (.wk j t) k w) : VT P n ops Q S Lq (.two i s j t) k w := fun a ha => ⟨h1 a ha, h2 a ha⟩
theorem Ct {i d : Nat} {v : Value} (hr : ∀ w', S w' → Rn P n k w' o v) (ho : ops[i]? = some o) (hd : o.dst = some d) (hg : guardOk ops k o.guard = some true) (hn : Nat.blt d n.sz = true)
    (h : VT P n ops Q S Lq t ((d, v) :: k) w) : VT P n ops Q S Lq (.mv i t) k w := fun a ha =>
  ⟨o, v, ho, .inl ⟨guardOk_wanted hg ha, fun w' hw' => hr w' hw' a ha⟩, by rw [hd]; exact h _ (ha.put hn v)⟩
theorem Rg {i d : Nat} {R : Value → World → Prop} (hw : Wk P n k w o R) (ho : ops[i]? = some o) (hd : o.dst = some d) (hg : guardOk ops k o.guard = some true) (hn : Nat.blt d n.sz = true)
    (h : ∀ v w', R v w' → S w' ∧ VT P n ops Q S Lq t ((d, v) :: k) w') : VT P n ops Q S Lq (.wk i t) k w := by
  intro a ha
  simp only [wpTr, wpOp, ho]
  rw [guardOk_wanted hg ha]
  simp only [if_true]
  left
  refine hw a Q _ ha fun v w' hR => ?_
  rw [hd]
  exact ⟨(h v w' hR).1, (h v w' hR).2 _ (ha.put hn v)⟩
theorem VT.wk0 {i : Nat} {R : Value → World → Prop} (hw : Wk P n k w o R) (ho : ops[i]? = some o) (hd : o.dst = none) (hg : guardOk ops k o.guard = some true)
    (h : ∀ v w', R v w' → S w' ∧ VT P n ops Q S Lq t k w') : VT P n ops Q S Lq (.wk i t) k w := by
  intro a ha
  simp only [wpTr, wpOp, ho]
  rw [guardOk_wanted hg ha]
  simp only [if_true]
  left
  refine hw a Q _ ha fun v w' hR => ?_
  rw [hd]
  exact ⟨(h v w' hR).1, (h v w' hR).2 _ ha⟩
theorem Rr {i d : Nat} {v : Value} (hr : Rn P n k w o v) (ho : ops[i]? = some o) (hd : o.dst = some d) (hg : guardOk ops k o.guard = some true) (hn : Nat.blt d n.sz = true) (hS : S w)
    (h : VT P n ops Q S Lq t ((d, v) :: k) w) : VT P n ops Q S Lq (.wk i t) k w :=
  Rg (R := fun u w' => u = v ∧ w' = w) (Rm fun a ha => ⟨v, w, hr a ha, rfl, rfl⟩) ho hd hg hn (by rintro u w' ⟨rfl, rfl⟩; exact ⟨hS, h⟩)
theorem Rj {l : List Oper} {m : Nat} (h : VO P n ops Q (l.drop m) k w) : VT P n ops Q S (fun a' w' => wpList P ops Q (l.drop m) a' w') .nil k w := fun a ha => h a ha
def CutPost (n : Fr) {σ : Type} (kf : σ → K) (J : σ → World → Prop) (a' : Act) (w' : World) : Prop := ∃ s, J s w' ∧ Fits n (kf s) a'
theorem VC.cut {x y : Code} {σ : Type} (kf : σ → K) (J : σ → World → Prop) (h1 : VC (r := rr) P n x (Exit.then (CutPost n kf J) Q) k w) (h2 : ∀ s w, J s w → VC (r := rr) P n y Q (kf s) w) : VC (r := rr) P n (.seq x y) Q k w := by
  intro a ha
  refine wpIn_seq (wpIn_mono (h1 a ha) fun e a' w' hq => ?_)
  cases e <;> first | exact hq | skip
  obtain ⟨s, hJ, hf⟩ := hq
  exact h2 s w' hJ a' hf
theorem VQ.cut {σ : Type} {kf : σ → K} {J : σ → World → Prop} (s : σ) (hJ : J s w) (hk : kall k (kf s)) : VQ n (Exit.then (CutPost n kf J) Q) .normal k w := fun _ ha => ⟨s, hJ, ha.less hk⟩
end
end Go.Tm
namespace Go.Tm
set_option maxRecDepth 100000
open Go.RowKit Go.Proofs
abbrev SU (base hi : Nat) (U : Nat → Prop) : Nat → Prop := fun x => base ≤ x ∧ x < hi ∧ ¬ U x
def Ent (P : Pol) (S : Nat → Prop) (w : World) (k : Int) (v : Value) : Prop := ∃ r A c, Best P k r ∧ -1 ≤ r.2 ∧ r.2 ≤ 4611686018427387905 ∧ v = .agg (pricedC r A c) ∧ RdK S w A r.1.kids
theorem Ent.to {P : Pol} {S S' D : Nat → Prop} {w w' : World} {k : Int} {v : Value} (h : Ent P S w k v) (c : Ch D w w') (hd : ∀ q, q < w.heap.size → S q → isC w q → ¬ D q) (hs : ∀ q, S q → S' q := by first | exact fun _ _ _ _ => id | (intro q h1 h2 hx h3; omega)) : Ent P S' w' k v := by
  obtain ⟨r, A, c', h1, h2, h3, h4, h5⟩ := h
  exact ⟨r, A, c', h1, h2, h3, h4, (h5.to c hd).weak hs⟩
def MapOk (P : Pol) (U : Nat → Prop) (base mb : Nat) (w : World) : Prop := ∃ mm : List (Int × Value), MpG (Value.int .i64 ·) w mb mm ∧ ∀ x ∈ mm, Ent P (SU base w.heap.size U) w x.1 x.2
theorem MapOk.to {P : Pol} {U D : Nat → Prop} {base mb : Nat} {w w' : World} (h : MapOk P U base mb w) (c : Ch D w w') (hm : ¬ D mb) (hd : ∀ q, q < w.heap.size → SU base w.heap.size U q → isC w q → ¬ D q := by first | exact fun _ _ _ _ => id | (intro q h1 h2 hx h3; omega)) : MapOk P U base mb w' := by
  obtain ⟨mm, h1, h2⟩ := h
  exact ⟨mm, h1.to c hm, fun x hx => (h2 x hx).to c hd fun q hq => ⟨hq.1, Nat.lt_of_lt_of_le hq.2.1 c.size, hq.2.2⟩⟩
theorem MapOk.keep {P : Pol} {U : Nat → Prop} {base mb : Nat} {w w' : World} (h : MapOk P U base mb w) (c : Ch No w w') : MapOk P U base mb w' := h.to c id fun _ _ _ _ => id
theorem MapOk.lt {P : Pol} {U : Nat → Prop} {base mb : Nat} {w : World} (h : MapOk P U base mb w) : mb < w.heap.size := by
  obtain ⟨mm, h1, _⟩ := h
  exact h1.lt
theorem MapOk.more {P : Pol} {U U' : Nat → Prop} {base mb : Nat} {w : World} (h : MapOk P U base mb w) (hU : ∀ x, x < w.heap.size → U' x → U x) : MapOk P U' base mb w := by
  obtain ⟨mm, h1, h2⟩ := h
  exact ⟨mm, h1, fun x hx => (h2 x hx).to (Ch.refl No w) (fun _ _ _ _ => id) fun q hq => ⟨hq.1, hq.2.1, fun hu => hq.2.2 (hU q hq.2.1 hu)⟩⟩
theorem MapOk.put {P : Pol} {U : Nat → Prop} {base mb : Nat} {w w' : World} (c : Ch (Is mb) w w') {mm : List (Int × Value)} {k : Int} {v : Value} (h1 : MpG (Value.int .i64 ·) w' mb (mset1 mm k v)) (h0 : MpG (Value.int .i64 ·) w mb mm) (h2 : ∀ x ∈ mm, Ent P (SU base w.heap.size U) w x.1 x.2) (hv : Ent P (SU base w.heap.size U) w k v) (hb : mb < base) : MapOk P U base mb w' := by
  have hd : ∀ q, q < w.heap.size → SU base w.heap.size U q → isC w q → ¬ Is mb q := fun q _ hq _ e => by have := hq.1; have : q = mb := e; omega
  have hs : ∀ q, SU base w.heap.size U q → SU base w'.heap.size U q := fun q hq => ⟨hq.1, Nat.lt_of_lt_of_le hq.2.1 c.size, hq.2.2⟩
  refine ⟨_, h1, fun x hx => ?_⟩
  rcases mem_mset1 hx with rfl | hx
  · exact hv.to c hd hs
  · exact (h2 x hx).to c hd hs
theorem MapOk.toG {P : Pol} {U : Nat → Prop} {base mb B : Nat} {w w' : World} (g : Gn B w w') (h : MapOk P U base mb w) (hB : mb < B) : MapOk P U base mb w' := h.to g (fun h => by have := h.1; omega) fun _ _ _ hx => notC hx
def CheapOk (P : Pol) (q mb base : Nat) (n : Int) : Prop := ∀ (U : Nat → Prop) (w : World), Chr w q mb P → MapOk P U base mb w → q < base → base ≤ w.heap.size → (∀ x, U x → x < w.heap.size) →
  Calls Tryz.prog 127 #[.pointer (some ⟨q, 0, none⟩), .int .i64 n] w (Ret fun v w' => Ent P (SU base w'.heap.size U) w' n v ∧ MapOk P U base mb w' ∧ Ch (Is mb) w w')
abbrev UX (U : Nat → Prop) (a b : Nat) : Nat → Prop := fun x => U x ∨ x = a ∨ x = b
theorem fresh_SU {base hi lo hi' a b : Nat} {U : Nat → Prop} (h1 : base ≤ lo) (h2 : hi' ≤ hi) (hU : ∀ x, U x → x < lo) (ha : a < lo) (hb : b < lo) : ∀ x, In lo hi' x → SU base hi (UX U a b) x :=
  fun x h => ⟨by omega, by omega, fun hu => by
    rcases hu with hu | hu | hu
    · have := hU x hu; omega
    · omega
    · omega⟩
theorem grow_SU {base hi hi' : Nat} {U : Nat → Prop} (h : hi ≤ hi') : ∀ x, SU base hi U x → SU base hi' U x := fun _ hx => ⟨hx.1, Nat.lt_of_lt_of_le hx.2.1 h, hx.2.2⟩
structure CF (P : Pol) (q mb : Nat) (n : Int) (p1 p2 p3 p7 p9 : Nat) (w : World) : Prop where
  b2 : Bk w p1 #[.pointer (some ⟨q, 0, none⟩)] 150
  b3 : Bk w p2 #[.int .i64 n] 3
  b4 : Bk w p3 #[.int .i64 0, .int .i64 0, .slice none 0 0, .int .i64 0] 149
  b8 : Bk w p9 #[.func (.func 153) #[] #[.pointer (some ⟨p7, 0, none⟩)]] 196
  ch : Chr w q mb P
theorem CF.toG {B : Nat} {w w' : World} (g : Gn B w w') {P : Pol} {q mb : Nat} {n : Int} {p1 p2 p3 p7 p9 : Nat} (h : CF P q mb n p1 p2 p3 p7 p9 w) : CF P q mb n p1 p2 p3 p7 p9 w' := ⟨h.b2.toG g, h.b3.toG g, h.b4.toG g, h.b8.toG g, h.ch.toG g⟩
def bestI (P : Pol) (n : Int) (i : Nat) : Ord × Int := ((headsM P n).take i).foldl (fun b o => offerM b o (lcost o.kind o.n)) (.mk 0 0 [], -1)
theorem bestI_succ {P : Pol} {n : Int} {i : Nat} {o : Ord} (h : (headsM P n)[i]? = some o) : bestI P n (i + 1) = offerM (bestI P n i) o (lcost o.kind o.n) := by
  unfold bestI
  rw [List.take_add_one, h]
  simp
theorem bestI_all {P : Pol} {n : Int} : bestI P n (headsM P n).length = best0 P n := by unfold bestI best0; rw [List.take_length]
def bestJ (P : Pol) (n a : Int) (r b : Ord × Int) (i : Nat) : Ord × Int := ((headsM P a).take i).foldl (offerH n a r) b
theorem bestJ_succ {P : Pol} {n a : Int} {r b : Ord × Int} {i : Nat} {o : Ord} (h : (headsM P a)[i]? = some o) : bestJ P n a r b (i + 1) = offerH n a r (bestJ P n a r b i) o := by
  unfold bestJ
  rw [List.take_add_one, h]
  simp
theorem bestJ_all {P : Pol} {n a : Int} {r b : Ord × Int} : bestJ P n a r b (headsM P a).length = (headsM P a).foldl (offerH n a r) b := by unfold bestJ; rw [List.take_length]
theorem offerM_bd {b : Ord × Int} {o : Ord} {c : Int} (h1 : -1 ≤ b.2 ∧ b.2 ≤ 4611686018427387905) (h2 : 0 ≤ c ∧ c ≤ 4611686018427387905) : -1 ≤ (offerM b o c).2 ∧ (offerM b o c).2 ≤ 4611686018427387905 := by
  unfold offerM
  split
  · exact ⟨by simp only; omega, h2.2⟩
  · exact h1
theorem hardM_le {P : Pol} {l : List Int} {n : Int} (h : hardM P l n = true) : n ≤ 8192 := by
  unfold hardM at h
  simp only [Bool.and_eq_true, decide_eq_true_eq] at h
  exact h.2
theorem heads_len (P : Pol) (a : Int) : (headsM P a).length ≤ 2 := by
  unfold headsM
  rw [List.length_append]
  split <;> split <;> simp
theorem Ent.of {P : Pol} {S : Nat → Prop} {w : World} {k : Int} {r : Ord × Int} {A : Option Addr} {c p : Nat} {t : TypeId} (_ : Bk w p (pricedC r A c) t) (h1 : Best P k r) (h2 : -1 ≤ r.2 ∧ r.2 ≤ 4611686018427387905) (h3 : RdK S w A r.1.kids) : Ent P S w k (.agg (pricedC r A c)) := ⟨r, A, c, h1, h2.1, h2.2, rfl, h3⟩
theorem bld149_1w8 {v1 : Value} (h : [v1].all Value.oneCell' = true) (w : World) : (Instr.build 149 ([(1, v1)] : List (Nat × Value)).toArray).run Tryz.prog w = .ok (.agg #[.int .i64 0, .int .i64 0, .slice none 0 0, v1]) w := by
  simp only [List.all_cons, Bool.and_eq_true, List.all_nil, and_true] at h
  have hv1 := oneCell_cells (v := v1) (by simp_all)
  have h1 := fill_set (fun i => ([(0, 3), (3, 1)] : List (Nat × Nat))[i]?) [(1, v1)] [.int .i64 0, .int .i64 0, .slice none 0 0, .int .i64 0] (by simp [okF, agg_cells, hv1, Nat.beq, Nat.ble])
  simp [setF, agg_cells, hv1] at h1
  simp [Instr.build, Tryz.runUnderlying149, ζ149, ς3, ς53, agg_cells, h1]
theorem cheapest_hit (P : Pol) (q mb base : Nat) (n : Int) (hn : 1 ≤ n) (hn2 : n ≤ 16384) (U : Nat → Prop) (w : World) (ch : Chr w q mb P) (mk0 : MapOk P U base mb w) (hq : q < base) (hb : base ≤ w.heap.size) (hU : ∀ x, U x → x < w.heap.size) (mm : List (Int × Value)) (mp : MpG (Value.int .i64 ·) w mb mm) (r : Ord × Int) (A : Option Addr) (c : Nat) (hf : mfind mm n = some (.agg (pricedC r A c))) (hr1 : Best P n r) (hr2 : -1 ≤ r.2) (hr3 : r.2 ≤ 4611686018427387905) (rd : RdK (SU base w.heap.size U) w A r.1.kids) :
  Calls Tryz.prog 127 #[.pointer (some ⟨q, 0, none⟩), .int .i64 n] w (Ret (fun v w' => Ent P (SU base w'.heap.size U) w' n v ∧ MapOk P U base mb w' ∧ Ch (Is mb) w w')) := by
 have lq := ch.lt; have lm := mk0.lt
 obtain ⟨FA, fc, S, bq, sl, hS, hfl, hqm⟩ := id ch
 refine calls_of_VCM (args := [.pointer (some ⟨q, 0, none⟩), .int .i64 n]) Tryz.func127 rfl Tryz.ntmps127 rfl (Qe (Qb (Oq (Cj rfl) rfl ?_)))
 rintro _ w1 ⟨p1, rfl, N1⟩
 have c1 := N1.ch
 have e1 := N1.p; have z1 := N1.size
 have b2 := Bk.new N1
 refine Oq (Cj rfl) rfl ?_
 rintro _ w2 ⟨p2, rfl, N2⟩
 have c2 := N2.ch
 have e2 := N2.p; have z2 := N2.size
 have b3 := Bk.new N2
 refine Oq (Cc ζ149) rfl ?_
 rintro _ w3 ⟨p3, rfl, N3⟩
 have c3 := N3.ch
 have e3 := N3.p; have z3 := N3.size
 have b4 := Bk.new N3
 refine Qf (Qa (Qe (Qe (Ci 11 [(0, true), (1, true), (2, true), (3, true), (4, true), (5, true), (6, true), (7, true), (8, true), (9, false), (10, false)] (fun w1 w' => Ch (No) w1 w') mixed (by kernel_rfl) (fun _ _ => Ch.refl _ _) ?_))))
 intro w4 D4
 have c4 := Ch.of_drew D4; have z4 := c4.size
 have bq_4 := bq.keep (c1.trans (c2.trans (c3.trans c4)))
 have sl_4 := sl.keep (c1.trans (c2.trans (c3.trans c4)))
 have mp_4 := mp.keep (c1.trans (c2.trans (c3.trans c4)))
 have b2_4 := b2.keep (c2.trans (c3.trans c4))
 have b3_4 := b3.keep (c3.trans c4)
 have b4_4 := b4.keep c4
 refine Hm (fun w' hS => Qh ι150 rfl ((b2_4.keep hS).cell rfl)) rfl (Hm (fun w' hS => Ql rfl) rfl (Hm (fun w' hS => Qg υ194 rfl ς192 rfl rfl rfl) rfl (Hm (fun w' hS => Qh ι192 rfl ((bq_4.keep hS).cell rfl)) rfl (Hm (fun w' hS => Qh ι3 rfl ((b3_4.keep hS).cell rfl)) rfl (Hm (fun w' hS => Rn.lookup_some υ192 (KeyK.int υ3) rfl rfl (mp_4.keep hS) hf) rfl (Hm (fun w' hS => Qc rfl) rfl (Hm (fun w' hS => Qq rfl rfl) rfl ?_)))))))
 refine Hm (fun w' hS => Qq rfl rfl) rfl (Hq (Cc ζ149) rfl ?_)
 rintro _ w5 ⟨p5, rfl, N5⟩
 have c5 := N5.ch
 have e5 := N5.p; have z5 := N5.size
 have b5 := Bk.new N5
 have RD_5 := (Ch.refl (No) w4).and c5
 refine ⟨RD_5, ?_⟩
 refine Hz (Cf ς149 rfl rfl rfl rfl b5 (Nat.le_of_ble_eq_true rfl)) rfl ?_
 intro _ w6 Z6
 have c6 := Z6.ch; have z6 := Z6.size
 have b5_6 := Bk.put Z6
 have RD_6 : Ch (No) w4 w6 := RD_5.then c6
 refine ⟨RD_6, ?_⟩
 refine Cn (Om (Qd rfl) rfl (Qf (Qx (Qa (Qe (Qb (Om (Qc rfl) rfl ?_)))))))
 refine Qf (Qa (Cw rfl (Qe (Qb (Om (Qr ι149 ς149 rfl rfl (b5_6.all' rfl)) rfl ?_)))))
 have cc_4_6 : Ch No w4 w6 := (Ch.then (E := No) c5 c6 (by intro q h1 h2; rcases h2 with h2 | h2 <;> first | exact h2 | (exfalso; omega)))
 have b4_6 := b4_4.keep cc_4_6
 refine Oz (Cf ς149 rfl rfl rfl rfl b4_6 (Nat.le_of_ble_eq_true rfl)) rfl ?_
 intro _ w7 Z7
 have c7 := Z7.ch; have z7 := Z7.size
 have b4_7 := Bk.put Z7
 refine Qf (Qa (Qp (Qu (VQ.toM (Rk rfl rfl ι149 ς149 rfl (b4_7.all' rfl) (Ret.mk ?_))))))
 have cc_0_7 : Ch No w w7 := (Ch.then (E := No) (Ch.then (E := No) ((((c1.and c2).and c3).and c4).and c5) c6 (by intro q h1 h2; rcases h2 with h2 | h2 <;> first | exact h2 | (exfalso; omega))) c7 (by intro q h1 h2; rcases h2 with h2 | h2 <;> first | exact h2 | (exfalso; omega)))
 have CH_7 := (Ch.refl (Is mb) w).and cc_0_7
 have zz := CH_7.size
 have rd_7 := rd.keep cc_0_7
 have mk_7 := mk0.keep cc_0_7
 exact ⟨⟨r, A, c, hr1, hr2, hr3, rfl, rd_7.weak fun x h => ⟨h.1, by omega, h.2.2⟩⟩, mk_7, CH_7⟩
set_option maxHeartbeats 4000000 in
theorem cheapest_miss (P : Pol) (q mb base : Nat) (n : Int) (hn : 1 ≤ n) (hn2 : n ≤ 16384) (U : Nat → Prop) (w : World) (ch : Chr w q mb P) (mk0 : MapOk P U base mb w) (hq : q < base) (hb : base ≤ w.heap.size) (hU : ∀ x, U x → x < w.heap.size) (mm : List (Int × Value)) (mp : MpG (Value.int .i64 ·) w mb mm) (hf : mfind mm n = none) (ih1 : ∀ a : Int, 2 ≤ a → a < n → n % a = 0 → CheapOk P q mb base (n / a)) (ih2 : hardM P (facs n) n = true → CheapOk P q mb base (up2 (2 * n - 1))) :
  Calls Tryz.prog 127 #[.pointer (some ⟨q, 0, none⟩), .int .i64 n] w (Ret (fun v w' => Ent P (SU base w'.heap.size U) w' n v ∧ MapOk P U base mb w' ∧ Ch (Is mb) w w')) := by
 have lq := ch.lt; have lm := mk0.lt; have hhl := heads_len P n
 obtain ⟨FA, fc, S, bq, sl, hS, hfl, hqm⟩ := id ch
 refine calls_of_VCM (args := [.pointer (some ⟨q, 0, none⟩), .int .i64 n]) Tryz.func127 rfl Tryz.ntmps127 rfl (Qe (Qb (Oq (Cj rfl) rfl ?_)))
 rintro _ w1 ⟨p1, rfl, N1⟩
 have c1 := N1.ch
 have e1 := N1.p; have z1 := N1.size
 have b2 := Bk.new N1
 refine Oq (Cj rfl) rfl ?_
 rintro _ w2 ⟨p2, rfl, N2⟩
 have c2 := N2.ch
 have e2 := N2.p; have z2 := N2.size
 have b3 := Bk.new N2
 refine Oq (Cc ζ149) rfl ?_
 rintro _ w3 ⟨p3, rfl, N3⟩
 have c3 := N3.ch
 have e3 := N3.p; have z3 := N3.size
 have b4 := Bk.new N3
 refine Qf (Qa (Qe (Qe (Ci 11 [(0, true), (1, true), (2, true), (3, true), (4, true), (5, true), (6, true), (7, true), (8, true), (9, false), (10, false)] (fun w1 w' => Ch (No) w1 w') mixed (by kernel_rfl) (fun _ _ => Ch.refl _ _) ?_))))
 intro w4 D4
 have c4 := Ch.of_drew D4; have z4 := c4.size
 have bq_4 := bq.keep (c1.trans (c2.trans (c3.trans c4)))
 have sl_4 := sl.keep (c1.trans (c2.trans (c3.trans c4)))
 have mp_4 := mp.keep (c1.trans (c2.trans (c3.trans c4)))
 have b2_4 := b2.keep (c2.trans (c3.trans c4))
 have b3_4 := b3.keep (c3.trans c4)
 have b4_4 := b4.keep c4
 refine Hm (fun w' hS => Qh ι150 rfl ((b2_4.keep hS).cell rfl)) rfl (Hm (fun w' hS => Ql rfl) rfl (Hm (fun w' hS => Qg υ194 rfl ς192 rfl rfl rfl) rfl (Hm (fun w' hS => Qh ι192 rfl ((bq_4.keep hS).cell rfl)) rfl (Hm (fun w' hS => Qh ι3 rfl ((b3_4.keep hS).cell rfl)) rfl (Hm (fun w' hS => Rn.lookup_none υ192 (KeyK.int υ3) ζ149 rfl rfl (mp_4.keep hS) hf) rfl (Hm (fun w' hS => Qc rfl) rfl (Hm (fun w' hS => Qq rfl rfl) rfl ?_)))))))
 refine Hm (fun w' hS => Qq rfl rfl) rfl (Hq (Cc ζ149) rfl ?_)
 rintro _ w5 ⟨p5, rfl, N5⟩
 have c5 := N5.ch
 have e5 := N5.p; have z5 := N5.size
 have b5 := Bk.new N5
 have RD_5 := (Ch.refl (No) w4).and c5
 refine ⟨RD_5, ?_⟩
 refine Hz (Cf ς149 rfl rfl rfl rfl b5 (Nat.le_of_ble_eq_true rfl)) rfl ?_
 intro _ w6 Z6
 have c6 := Z6.ch; have z6 := Z6.size
 have b5_6 := Bk.put Z6
 have RD_6 : Ch (No) w4 w6 := RD_5.then c6
 refine ⟨RD_6, ?_⟩
 refine Cn (Om (Qd rfl) rfl (Qf (Qx (Qa (Qe (Qb (Om (Qc rfl) rfl ?_)))))))
 refine Qf (Qa (Ca rfl (Qn (Qa (Qe (Qb (Om (Cl rfl (bld149_1w8 rfl)) rfl ?_)))))))
 refine Oq (Cc ζ149) rfl ?_
 rintro _ w7 ⟨p7, rfl, N7⟩
 have c7 := N7.ch
 have e7 := N7.p; have z7 := N7.size
 have b7 := Bk.new N7
 refine Oz (Cf ς149 rfl rfl rfl rfl b7 (Nat.le_of_ble_eq_true rfl)) rfl ?_
 intro _ w8 Z8
 have c8 := Z8.ch; have z8 := Z8.size
 have b7_8 := Bk.put Z8
 refine Qf (Qa (Qe (Qb (Om (Rn.func rfl rfl) rfl (Oq (Cc Tryz.zeroValue196) rfl ?_)))))
 rintro _ w9 ⟨p9, rfl, N9⟩
 have c9 := N9.ch
 have e9 := N9.p; have z9 := N9.size
 have b8 := Bk.new N9
 refine Oz (Rh Tryz.sizeOf196 rfl rfl rfl rfl b8 rfl) rfl ?_
 intro _ w10 Z10
 have c10 := Z10.ch; have z10 := Z10.size
 have b8_10 := Bk.put Z10
 refine Qf (Qa (Qe (Qe ?_)))
 have mk0' : MapOk P (UX U p3 p7) base mb w := mk0.more (fun x hx hu => by rcases hu with hu | hu | hu; exact hu; omega; omega)
 refine Qb ?_
 have cc_4_10 : Ch No w4 w10 := (Ch.then (E := No) ((Ch.then (E := No) ((Ch.then (E := No) c5 c6 (by intro q h1 h2; rcases h2 with h2 | h2 <;> first | exact h2 | (exfalso; omega))).and c7) c8 (by intro q h1 h2; rcases h2 with h2 | h2 <;> first | exact h2 | (exfalso; omega))).and c9) c10 (by intro q h1 h2; rcases h2 with h2 | h2 <;> first | exact h2 | (exfalso; omega)))
 have b2_10 := b2_4.keep cc_4_10
 refine Om (Qh ι150 rfl (b2_10.cell rfl)) rfl ?_
 have b3_10 := b3_4.keep cc_4_10
 refine Om (Qh ι3 rfl (b3_10.cell rfl)) rfl ?_
 have cc_0_10 : Ch No w w10 := (Ch.then (E := No) ((Ch.then (E := No) ((Ch.then (E := No) ((((c1.and c2).and c3).and c4).and c5) c6 (by intro q h1 h2; rcases h2 with h2 | h2 <;> first | exact h2 | (exfalso; omega))).and c7) c8 (by intro q h1 h2; rcases h2 with h2 | h2 <;> first | exact h2 | (exfalso; omega))).and c9) c10 (by intro q h1 h2; rcases h2 with h2 | h2 <;> first | exact h2 | (exfalso; omega)))
 have ch_10 := ch.keep cc_0_10
 refine Oq (Qi Tryz.call154 rfl (chooser_heads _ _ _ _ _ ch_10)) rfl ?_
 rintro _ w11 ⟨hA11, hk11, rfl, hd11, c11⟩
 have z11 := c11.size
 refine Om (Ra υ51 rfl) rfl (Om (Qc rfl) rfl (Qf (Qa (Qw ?_))))
 have cc_8_11 : Ch No w8 w11 := ((Ch.then (E := No) c9 c10 (by intro q h1 h2; rcases h2 with h2 | h2 <;> first | exact h2 | (exfalso; omega))).and c11)
 have b7_11 := b7_8.keep cc_8_11
 have b2_11 := b2_10.keep c11
 have b3_11 := b3_10.keep c11
 have cc_4_11 : Ch No w4 w11 := ((Ch.then (E := No) ((Ch.then (E := No) ((Ch.then (E := No) c5 c6 (by intro q h1 h2; rcases h2 with h2 | h2 <;> first | exact h2 | (exfalso; omega))).and c7) c8 (by intro q h1 h2; rcases h2 with h2 | h2 <;> first | exact h2 | (exfalso; omega))).and c9) c10 (by intro q h1 h2; rcases h2 with h2 | h2 <;> first | exact h2 | (exfalso; omega))).and c11)
 have b4_11 := b4_4.keep cc_4_11
 have b8_11 := b8_10.keep c11
 have ch_11 := ch_10.keep c11
 have cc_0_11 : Ch No w w11 := ((Ch.then (E := No) ((Ch.then (E := No) ((Ch.then (E := No) ((((c1.and c2).and c3).and c4).and c5) c6 (by intro q h1 h2; rcases h2 with h2 | h2 <;> first | exact h2 | (exfalso; omega))).and c7) c8 (by intro q h1 h2; rcases h2 with h2 | h2 <;> first | exact h2 | (exfalso; omega))).and c9) c10 (by intro q h1 h2; rcases h2 with h2 | h2 <;> first | exact h2 | (exfalso; omega))).and c11)
 have mk2_11 := mk0'.keep cc_0_11
 have CH_11 := (Ch.refl (Is mb) w).and cc_0_11
 refine Cp (σ := Nat) (fun i => [(2, .pointer (some ⟨p1, 0, none⟩)), (3, .pointer (some ⟨p2, 0, none⟩)), (4, .pointer (some ⟨p3, 0, none⟩)), (7, .pointer (some ⟨p7, 0, none⟩)), (8, .pointer (some ⟨p9, 0, none⟩)), (34, .slice hA11 (headsM P n).length hk11), (35, .int .i64 (headsM P n).length), (36, .int .i64 i)]) (fun i w' => i ≤ (headsM P n).length ∧ (-1 ≤ (bestI P n i).2 ∧ (bestI P n i).2 ≤ 4611686018427387905) ∧ (∃ B e, Bk w' p7 (pricedC (bestI P n i) B e) 149 ∧ RdK (SU base w'.heap.size (UX U p3 p7)) w' B (bestI P n i).1.kids) ∧ CF P q mb n p1 p2 p3 p7 p9 w' ∧ MapOk P (UX U p3 p7) base mb w' ∧ RdK (In w10.heap.size w11.heap.size) w' hA11 (headsM P n) ∧ w11.heap.size ≤ w'.heap.size ∧ Ch (Is mb) w w') (fun i => (headsM P n).length - i) 0 ?_ ⟨rfl, rfl, rfl, rfl, rfl, rfl, rfl, rfl, trivial⟩ ?_
 · exact ⟨Nat.zero_le _, by constructor <;> simp [bestI], ⟨_, _, b7_11, RdK.nil _ _⟩, ⟨b2_11, b3_11, b4_11, b8_11, ch_11⟩, mk2_11, hd11, Nat.le_refl _, CH_11⟩
 rintro i w12 ⟨i1, ibd, ⟨B, e, b7_12, kb_12⟩, cf, mk2_12, hd_12, hsz, CH_12⟩
 show VC _ _ _ _ [(2, .pointer (some ⟨p1, 0, none⟩)), (3, .pointer (some ⟨p2, 0, none⟩)), (4, .pointer (some ⟨p3, 0, none⟩)), (7, .pointer (some ⟨p7, 0, none⟩)), (8, .pointer (some ⟨p9, 0, none⟩)), (34, .slice hA11 (headsM P n).length hk11), (35, .int .i64 (headsM P n).length), (36, .int .i64 i)] _
 have b2_12 := cf.b2; have b3_12 := cf.b3; have b4_12 := cf.b4; have b8_12 := cf.b8; have ch_12 := cf.ch
 refine Qe (Qb (Om (Cs rfl rfl) rfl (Qf (Qa (Qe (Qj rfl (fun hc1 => ?_) (fun hc1 => ?_)))))))
 ·
  refine Qn (Qa (Qe (Qw (Qe ?_))))
  obtain ⟨ko, hko⟩ : ∃ ko, (headsM P n)[i]? = some ko := ⟨_, List.getElem?_eq_getElem (by omega)⟩
  obtain ⟨kA, kc, ka, kr⟩ := hd_12.kid hko
  obtain ⟨h1k, h2k, h3k⟩ := mem_heads (List.mem_of_getElem? hko)
  obtain ⟨kk, kn, kks⟩ := ko
  simp only [Ord.kind, Ord.n, Ord.kids] at h1k h2k h3k
  subst h3k
  subst kn
  have hlc := lcost_bd (k := kk) (n := n) (by omega) (by omega)
  refine Qb (Om (Cb υ51 ς53 rfl rfl (hd_12.ne (by omega)) (by omega) (by omega)) rfl (Om (Qr ι53 ς53 rfl rfl ka.1) rfl (Oq (Cc ζ53) rfl ?_)))
  rintro _ w13 ⟨p13, rfl, N13⟩
  have c13 := N13.ch
  have e13 := N13.p; have z13 := N13.size
  have b10 := Bk.new N13
  refine Oz (Cf ς53 rfl rfl rfl rfl b10 (Nat.le_of_ble_eq_true rfl)) rfl ?_
  intro _ w14 Z14
  have c14 := Z14.ch; have z14 := Z14.size
  have b10_14 := Bk.put Z14
  refine Qf (Qa (Ci 5 [(0, true), (1, true), (2, true), (3, false), (4, false)] (fun w1 w' => Ch (Is p7) w1 w') mixed (by kernel_rfl) (fun _ _ => Ch.refl _ _) ?_))
  intro w15 D15
  have c15 := Ch.of_drew D15; have z15 := c15.size
  have cc_12_15 : Ch No w12 w15 := ((Ch.then (E := No) c13 c14 (by intro q h1 h2; rcases h2 with h2 | h2 <;> first | exact h2 | (exfalso; omega))).and c15)
  have b2_15 := b2_12.keep cc_12_15
  have b3_15 := b3_12.keep cc_12_15
  have b4_15 := b4_12.keep cc_12_15
  have b7_15 := b7_12.keep cc_12_15
  have b8_15 := b8_12.keep cc_12_15
  have ka_15 := ka.keep cc_12_15
  have b10_15 := b10_14.keep c15
  refine Hm (fun w' hS => Qh Tryz.isAgg196 rfl ((b8_15.to hS).cell rfl)) rfl (Hm (fun w' hS => Qr ι53 ς53 rfl rfl ((b10_15.to hS).all' rfl)) rfl (Hm (fun w' hS => Qr ι53 ς53 rfl rfl ((b10_15.to hS).all' rfl)) rfl (Hq (Qi Tryz.call155 rfl (planner_cost kk n _ _ _ h1k (by omega) (by omega))) rfl ?_)))
  rintro _ w16 ⟨rfl, c16⟩
  have z16 := c16.size
  have RD_16 := (Ch.refl (Is p7) w15).and c16
  refine ⟨RD_16, ?_⟩
  have b7_16 := b7_15.keep c16
  have cc_12_16 : Ch No w12 w16 := (((Ch.then (E := No) c13 c14 (by intro q h1 h2; rcases h2 with h2 | h2 <;> first | exact h2 | (exfalso; omega))).and c15).and c16)
  have kr_16 := kr.keep cc_12_16
  have kb_16 := kb_12.keep cc_12_16
  refine Hq (Wd Tryz.call153 rfl rfl (by rfl) (offer (.mk kk n []) (lcost kk n) _ _ (bestI P n i) B e p7 (SU base w16.heap.size (UX U p3 p7)) _ b7_16 ((kr_16).weak (fresh_SU (by omega) (by omega) (fun y h => by have := hU y h; omega) (by omega) (by omega))) ((kb_16).weak (grow_SU (by omega))) (fun h => h.2.2 (.inr (.inr rfl))))) rfl ?_
  rintro _ w17 ⟨rfl, ⟨B17, e17x, b7_17, kb_17⟩, c17⟩
  have z17 := c17.size
  have RD_17 : Ch (Is p7) w15 w17 := RD_16.then c17
  refine ⟨RD_17, ?_⟩
  refine Cn (Qf (Qx (Qo (Qa (Qb ?_)))))
  refine Om (Ce rfl rfl (by rw [IntKind.wrap_i64]; omega)) rfl ?_
  refine Om (Qc rfl) rfl (Qf ?_)
  refine Ck (i + 1) (by first | omega | (dsimp only; omega)) ?_ ⟨rfl, rfl, rfl, rfl, rfl, rfl, rfl, rfl, trivial⟩
  have hbs := bestI_succ hko
  have b2_16 := b2_15.keep c16
  have b2_17 := b2_16.to c17
  have b3_16 := b3_15.keep c16
  have b3_17 := b3_16.to c17
  have b4_16 := b4_15.keep c16
  have b4_17 := b4_16.to c17
  have b8_16 := b8_15.keep c16
  have b8_17 := b8_16.to c17
  have ch_16 := ch_12.keep cc_12_16
  have ch_17 := ch_16.to c17 (by first | exact fun _ _ _ _ => id | (intro x h1 h2 hx h3; omega))
  have mk2_16 := mk2_12.keep cc_12_16
  have mk2_17 := mk2_16.to c17 (by first | exact id | omega) (by first | exact fun _ _ _ _ => id | (intro x h1 h2 hx h3; omega) | (intro x h1 h2 hx h3; exact h2.2.2 (.inr (by omega))))
  have hd_16 := hd_12.keep cc_12_16
  have hd_17 := hd_16.to c17
  have CH_16 := CH_12.and cc_12_16
  have CH_17 : Ch (Is mb) w w17 := CH_16.then c17
  refine ⟨by omega, ?_, ⟨_, _, by rw [hbs]; exact b7_17, by rw [hbs]; exact (kb_17).weak (grow_SU (by omega))⟩, ⟨b2_17, b3_17, b4_17, b8_17, ch_17⟩, mk2_17, hd_17, by omega, CH_17⟩
  rw [hbs]; exact offerM_bd ibd (by exact ⟨hlc.1, Int.le_trans hlc.2 (by decide)⟩)
 ·
  refine Cr (Qk (Qk (Qz (Qa (Qe (Qe (Qb ?_)))))))
  refine Om (Qh ι3 rfl (b3_12.cell rfl)) rfl (Oq (Qi Tryz.call156 rfl (primes_Divisors _ _)) rfl ?_)
  rintro _ w18 ⟨pd, rfl, hpd, hpd2, c18⟩
  have z18 := c18.size
  refine Qf (Qa (Qw ?_))
  have hi' : i = (headsM P n).length := by omega
  subst hi'
  rw [bestI_all] at ibd b7_12 kb_12
  have hpl := hpd.lt
  refine VC.rangeFunc rfl Tryz.call192 (divisors_stops n pd _ (by omega) (by omega) hpd) (fun h h' => KpB.trans h h') (KpB.putObj (B := w18.heap.size) (by omega)) (Below.refl _ _) rfl rfl (fun pre W => ∃ b B e, GoB P n (pre.map (·.1)) b ∧ (-1 ≤ b.2 ∧ b.2 ≤ 4611686018427387905) ∧ Bk W p7 (pricedC b B e) 149 ∧ RdK (SU base W.heap.size (UX U p3 p7)) W B b.1.kids ∧ CF P q mb n p1 p2 p3 p7 p9 W ∧ MapOk P (UX U p3 p7) base mb W ∧ Ch (Is mb) w W ∧ w18.heap.size ≤ W.heap.size) (fun _ _ _ => False) ?_ (fun _ _ _ _ _ h => h.elim) ?_ ?_ ?_ (fun _ _ _ _ _ _ h => h.elim)
  ·
   rintro s A2 W2 row ⟨b, B2, e2x, i1, i2, i3, i4, i5, i6, i7, i8⟩ hg hr
   have g := Gn.of hg hr
   exact ⟨b, B2, e2x, i1, i2, i3.toG g, (i4.toG g).weak (grow_SU g.size), i5.toG g, MapOk.toG g i6 (by omega), i7.toG g (by omega), Nat.le_trans i8 g.size⟩
  ·
   have b7_18 := b7_12.keep c18
   have kb_18 := kb_12.keep c18
   have b2_18 := b2_12.keep c18
   have b3_18 := b3_12.keep c18
   have b4_18 := b4_12.keep c18
   have b8_18 := b8_12.keep c18
   have ch_18 := ch_12.keep c18
   have mk2_18 := mk2_12.keep c18
   have CH_18 := CH_12.and c18
   exact ⟨best0 P n, _, _, GoB.nil P n, ibd, b7_18, (kb_18).weak (grow_SU (by omega)), ⟨b2_18, b3_18, b4_18, b8_18, ch_18⟩, mk2_18, CH_18, Nat.le_refl _⟩
  ·
   rintro l pre x w19 ⟨b, B, e, hgo, hbd, b7_19, kb_19, cf, mk2_19, CH_19, hsz2⟩ hlen
   have b2_19 := cf.b2; have b3_19 := cf.b3; have b4_19 := cf.b4; have b8_19 := cf.b8; have ch_19 := cf.ch
   have hx1 := x.2.1; have hx2 := x.2.2.1; have hhl2 := heads_len P x.1
   have hqd := divE_ok (n := n) (d := x.1) hn x.2.1 x.2.2.2
   refine Qw (Qe (Qe (Ry rfl (Om (Qc rfl) rfl (Om (Cs rfl rfl) rfl (Om (Qc rfl) rfl ?_))))))
   refine Rd (b := _) 4 51 55 rfl (fun hc2 Jhc2 => by
     refine Oy rfl (Oy rfl (Oy rfl (Om (Qt rfl rfl) rfl ?_)))
     exact (Qs rfl (Qs rfl (Qs rfl Jhc2)))) (fun hc2 Jhc2 => by
     try simp only [bX] at hc2
     refine Om (Qc rfl) rfl (Om (Qh ι3 rfl (b3_19.cell rfl)) rfl (Om (Cm rfl rfl) rfl (Om (Qm rfl rfl) rfl ?_)))
     exact (Qs rfl (Qs rfl (Qs rfl Jhc2)))) ?_
   refine Qf (Wf (Qa (Cu rfl (fun hc3 => ?_) (fun hc3 => ?_))))
   ·
    try simp only [bX] at hc3
    refine Cr (Qk (Qz ?_))
    refine VQ.roundF (Ch.refl (fun y => y = mb ∨ y = p7) w19) (fun y hy => by rcases hy with hy | hy <;> omega) (KpB.of (Ch.refl (fun y => y = mb ∨ y = p7) w19) (by intro hy; rcases hy with hy | hy <;> omega)) ?_
    exact ⟨b, B, e, by rw [List.map_append]; exact hgo.skip (.inl hc3), hbd, b7_19, (kb_19).weak (grow_SU (by omega)), ⟨b2_19, b3_19, b4_19, b8_19, ch_19⟩, mk2_19, CH_19, by omega⟩
   ·
    try simp only [bX] at hc3
    refine Qn (Qa (Qe (Ry rfl (Om (Qh ι150 rfl (b2_19.cell rfl)) rfl (Om (Qc rfl) rfl (Oq (Qi Tryz.call154 rfl (chooser_heads _ _ _ _ _ ch_19)) rfl ?_))))))
    rintro _ w20 ⟨hA20, hk20, rfl, hd20, c20⟩
    have z20 := c20.size
    refine Om (Qd rfl) rfl (Qf (Wf (Qa (Qe (Qe (Ry rfl (Om (Qc rfl) rfl ?_)))))))
    refine Om (Ra υ51 rfl) rfl (Om (Cm rfl rfl) rfl (Qf (Wf (Qa (Qj rfl (fun hc4 => ?_) (fun hc4 => ?_))))))
    ·
     refine Cr (Qk (Qz ?_))
     have CR_20 := (Ch.refl (fun y => y = mb ∨ y = p7) w19).and c20
     refine VQ.roundF CR_20 (fun y hy => by rcases hy with hy | hy <;> omega) (KpB.of CR_20 (by intro hy; rcases hy with hy | hy <;> omega)) ?_
     have b7_20 := b7_19.keep c20
     have kb_20 := kb_19.keep c20
     have b2_20 := b2_19.keep c20
     have b3_20 := b3_19.keep c20
     have b4_20 := b4_19.keep c20
     have b8_20 := b8_19.keep c20
     have ch_20 := ch_19.keep c20
     have mk2_20 := mk2_19.keep c20
     have CH_20 := CH_19.and c20
     exact ⟨b, B, e, by rw [List.map_append]; exact hgo.skip (.inr (show headsM P x.1 = [] from List.eq_nil_of_length_eq_zero (by omega))), hbd, b7_20, (kb_20).weak (grow_SU (by omega)), ⟨b2_20, b3_20, b4_20, b8_20, ch_20⟩, mk2_20, CH_20, by omega⟩
    ·
     refine Qn (Qa (VC.cut (σ := Nat) (fun pb => [(2, .pointer (some ⟨p1, 0, none⟩)), (3, .pointer (some ⟨p2, 0, none⟩)), (4, .pointer (some ⟨p3, 0, none⟩)), (7, .pointer (some ⟨p7, 0, none⟩)), (8, .pointer (some ⟨p9, 0, none⟩)), (11, .int .i64 x.1), (12, .slice hA20 (headsM P x.1).length hk20), (13, .pointer (some ⟨pb, 0, none⟩))]) (fun pb w' => ∃ r rA rc, (Best P (n / x.1) r ∧ -1 ≤ r.2 ∧ r.2 ≤ 4611686018427387905) ∧ w20.heap.size ≤ pb ∧ Bk w' pb (pricedC r rA rc) 149 ∧ RdK (SU base w'.heap.size (UX U p3 p7)) w' rA r.1.kids ∧ Bk w' p7 (pricedC b B e) 149 ∧ RdK (SU base w'.heap.size (UX U p3 p7)) w' B b.1.kids ∧ CF P q mb n p1 p2 p3 p7 p9 w' ∧ MapOk P (UX U p3 p7) base mb w' ∧ w20.heap.size ≤ w'.heap.size ∧ Ch (Is mb) w w' ∧ RdK (In w19.heap.size w20.heap.size) w' hA20 (headsM P x.1) ∧ Ch (fun y => y = mb ∨ y = p7) w19 w') ?_ ?_))
     ·
      obtain ⟨WB, hWB⟩ : ∃ WB, WB = w20.heap.size := ⟨_, rfl⟩
      have mk2_20 := mk2_19.keep c20
      have mkF := (mk2_20).more (U' := fun y => UX U p3 p7 y ∨ WB ≤ y) (fun y hy hu => by rcases hu with hu | hu; exact hu; omega)
      refine VC.drawsTR 6 (.mv 0 (.mv 1 (.mv 2 (.mv 3 (.two 4 (.wk 5 .nil) 5 (.wk 4 .nil)))))) (fun w1 w' => Ch (Is mb) w1 w') mixed rfl (by kernel_rfl) (fun _ _ => Ch.refl _ _) ?_
      intro w21 D21
      have c21 := Ch.of_drew D21; have z21 := c21.size
      have b2_21 := b2_19.keep (c20.trans c21)
      have b3_21 := b3_19.keep (c20.trans c21)
      have b4_21 := b4_19.keep (c20.trans c21)
      have b8_21 := b8_19.keep (c20.trans c21)
      have b7_21 := b7_19.keep (c20.trans c21)
      refine Ct (fun w' hS => Qh ι150 rfl ((b2_21.to hS).cell rfl)) rfl rfl rfl rfl (Ct (fun w' hS => Qh ι3 rfl ((b3_21.to hS).cell rfl)) rfl rfl rfl rfl (Ct (fun w' hS => Qc rfl) rfl rfl rfl rfl (Ct (fun w' hS => Rn.quo0 rfl rfl (by omega) (by omega) (by omega)) rfl rfl rfl rfl (Wg ?_ ?_))))
      ·
       have ch_21 := ch_19.keep (c20.trans c21)
       have mkF_21 := mkF.keep c21
       refine Rg (Qi Tryz.call127 rfl (ih1 x.1 (by omega) (by omega) x.2.2.2 (fun y => UX U p3 p7 y ∨ (WB ≤ y ∧ y < w21.heap.size)) _ ch_21 ((mkF_21).more (fun y hy hu => hu.imp id (fun h => h.1))) hq (by omega) (fun y hy => by rcases hy with (hy | hy | hy) | hy; (have := hU y hy; omega); omega; omega; omega))) rfl rfl rfl rfl ?_
       rintro _ w22 ⟨⟨r, rA, rc, hr1, hr2, hr3, rfl, rk⟩, mkn, c22⟩
       have z22 := c22.size
       have RD_22 : Ch (Is mb) w21 w22 := (Ch.refl (Is mb) w21).then c22
       refine ⟨RD_22, ?_⟩
       refine Rg (Cc ζ149) rfl rfl rfl rfl ?_
       rintro _ w23 ⟨p23, rfl, N23⟩
       have c23 := N23.ch
       have e23 := N23.p; have z23 := N23.size
       have b13 := Bk.new N23
       have RD_23 := RD_22.and c23
       refine ⟨RD_23, ?_⟩
       refine Rj (Oz (Cf ς149 rfl rfl rfl rfl b13 (Nat.le_of_ble_eq_true rfl)) rfl ?_)
       intro _ w24 Z24
       have c24 := Z24.ch; have z24 := Z24.size
       have b13_24 := Bk.put Z24
       refine Qf (Wf (VQ.cut p23 ?_ ⟨rfl, rfl, rfl, rfl, rfl, rfl, rfl, rfl, trivial⟩))
       have cc_22_24 : Ch No w22 w24 := (Ch.then (E := No) c23 c24 (by intro q h1 h2; rcases h2 with h2 | h2 <;> first | exact h2 | (exfalso; omega)))
       have rk_24 := rk.keep cc_22_24
       have b7_22 := b7_21.to c22
       have b7_24 := b7_22.keep cc_22_24
       have kb_21 := kb_19.keep (c20.trans c21)
       have kb_22 := kb_21.to c22 (by first | exact fun _ _ _ _ => id | (intro x h1 h2 hx h3; omega) | (intro x h1 h2 hx h3; exact h2.2.2 (.inr (by omega))))
       have kb_24 := kb_22.keep cc_22_24
       have b2_22 := b2_21.to c22
       have b2_24 := b2_22.keep cc_22_24
       have b3_22 := b3_21.to c22
       have b3_24 := b3_22.keep cc_22_24
       have b4_22 := b4_21.to c22
       have b4_24 := b4_22.keep cc_22_24
       have b8_22 := b8_21.to c22
       have b8_24 := b8_22.keep cc_22_24
       have ch_22 := ch_21.to c22 (by first | exact fun _ _ _ _ => id | (intro x h1 h2 hx h3; omega))
       have ch_24 := ch_22.keep cc_22_24
       have mkn_24 := mkn.keep cc_22_24
       have CH_21 := CH_19.and (c20.trans c21)
       have CH_22 : Ch (Is mb) w w22 := CH_21.then c22
       have CH_24 := CH_22.and cc_22_24
       have hd_21 := hd20.keep c21
       have hd_22 := hd_21.to c22
       have hd_24 := hd_22.keep cc_22_24
       have CR_21 := (Ch.refl (fun y => y = mb ∨ y = p7) w19).and (c20.trans c21)
       have CR_22 : Ch (fun y => y = mb ∨ y = p7) w19 w22 := CR_21.then c22
       have CR_24 := CR_22.and cc_22_24
       exact ⟨r, rA, rc, ⟨hr1, hr2, hr3⟩, by omega, b13_24, (rk_24).weak (fun y h => ⟨h.1, by omega, fun hu => h.2.2 (.inl hu)⟩), b7_24, (kb_24).weak (grow_SU (by omega)), ⟨b2_24, b3_24, b4_24, b8_24, ch_24⟩, (mkn_24).more (fun y _ hu => .inl hu), by omega, CH_24, hd_24, CR_24⟩
      ·
       refine Rg (Cc ζ149) rfl rfl rfl rfl ?_
       rintro _ w25 ⟨p25, rfl, N25⟩
       have c25 := N25.ch
       have e25 := N25.p; have z25 := N25.size
       have b13 := Bk.new N25
       have RD_25 := (Ch.refl (Is mb) w21).and c25
       refine ⟨RD_25, ?_⟩
       have ch_25 := ch_19.keep (c20.trans (c21.trans c25))
       have mkF_25 := mkF.keep (c21.trans c25)
       refine Rg (Qi Tryz.call127 rfl (ih1 x.1 (by omega) (by omega) x.2.2.2 (fun y => UX U p3 p7 y ∨ (WB ≤ y ∧ y < w25.heap.size)) _ ch_25 ((mkF_25).more (fun y hy hu => hu.imp id (fun h => h.1))) hq (by omega) (fun y hy => by rcases hy with (hy | hy | hy) | hy; (have := hU y hy; omega); omega; omega; omega))) rfl rfl rfl rfl ?_
       rintro _ w26 ⟨⟨r, rA, rc, hr1, hr2, hr3, rfl, rk⟩, mkn, c26⟩
       have z26 := c26.size
       have RD_26 : Ch (Is mb) w21 w26 := RD_25.then c26
       refine ⟨RD_26, ?_⟩
       refine Rj ?_
       have b13_26 := b13.to c26
       refine Oz (Cf ς149 rfl rfl rfl rfl b13_26 (Nat.le_of_ble_eq_true rfl)) rfl ?_
       intro _ w27 Z27
       have c27 := Z27.ch; have z27 := Z27.size
       have b13_27 := Bk.put Z27
       refine Qf (Wf (VQ.cut p25 ?_ ⟨rfl, rfl, rfl, rfl, rfl, rfl, rfl, rfl, trivial⟩))
       have rk_27 := rk.to c27 (by first | exact fun _ _ _ _ => id | (intro x h1 h2 hx h3; omega) | (intro x h1 h2 hx h3; exact h2.2.2 (.inr (by omega))))
       have b7_25 := b7_21.keep c25
       have b7_26 := b7_25.to c26
       have b7_27 := b7_26.to c27
       have kb_25 := kb_19.keep (c20.trans (c21.trans c25))
       have kb_26 := kb_25.to c26 (by first | exact fun _ _ _ _ => id | (intro x h1 h2 hx h3; omega) | (intro x h1 h2 hx h3; exact h2.2.2 (.inr (by omega))))
       have kb_27 := kb_26.to c27 (by first | exact fun _ _ _ _ => id | (intro x h1 h2 hx h3; omega) | (intro x h1 h2 hx h3; exact h2.2.2 (.inr (by omega))))
       have b2_25 := b2_21.keep c25
       have b2_26 := b2_25.to c26
       have b2_27 := b2_26.to c27
       have b3_25 := b3_21.keep c25
       have b3_26 := b3_25.to c26
       have b3_27 := b3_26.to c27
       have b4_25 := b4_21.keep c25
       have b4_26 := b4_25.to c26
       have b4_27 := b4_26.to c27
       have b8_25 := b8_21.keep c25
       have b8_26 := b8_25.to c26
       have b8_27 := b8_26.to c27
       have ch_26 := ch_25.to c26 (by first | exact fun _ _ _ _ => id | (intro x h1 h2 hx h3; omega))
       have ch_27 := ch_26.to c27 (by first | exact fun _ _ _ _ => id | (intro x h1 h2 hx h3; omega))
       have mkn_27 := mkn.to c27 (by first | exact id | omega) (by first | exact fun _ _ _ _ => id | (intro x h1 h2 hx h3; omega) | (intro x h1 h2 hx h3; exact h2.2.2 (.inr (by omega))))
       have CH_25 := CH_19.and (c20.trans (c21.trans c25))
       have CH_26 : Ch (Is mb) w w26 := CH_25.then c26
       have CH_27 : Ch (Is mb) w w27 := CH_26.then c27
       have hd_25 := hd20.keep (c21.trans c25)
       have hd_26 := hd_25.to c26
       have hd_27 := hd_26.to c27
       have CR_25 := (Ch.refl (fun y => y = mb ∨ y = p7) w19).and (c20.trans (c21.trans c25))
       have CR_26 : Ch (fun y => y = mb ∨ y = p7) w19 w26 := CR_25.then c26
       have CR_27 : Ch (fun y => y = mb ∨ y = p7) w19 w27 := CR_26.then c27
       exact ⟨r, rA, rc, ⟨hr1, hr2, hr3⟩, by omega, b13_27, (rk_27).weak (fun y h => ⟨h.1, by omega, fun hu => h.2.2 (.inl hu)⟩), b7_27, (kb_27).weak (grow_SU (by omega)), ⟨b2_27, b3_27, b4_27, b8_27, ch_27⟩, (mkn_27).more (fun y _ hu => .inl hu), by omega, CH_27, hd_27, CR_27⟩
     rintro pb w28 ⟨r, rA, rc, ⟨hr1, hr2, hr3⟩, hpb, b13_28, rk_28, b7_28, kb_28, cf, mk2_28, hszc, CH_28, hd_28, CR_28⟩
     show VC _ _ _ _ [(2, .pointer (some ⟨p1, 0, none⟩)), (3, .pointer (some ⟨p2, 0, none⟩)), (4, .pointer (some ⟨p3, 0, none⟩)), (7, .pointer (some ⟨p7, 0, none⟩)), (8, .pointer (some ⟨p9, 0, none⟩)), (11, .int .i64 x.1), (12, .slice hA20 (headsM P x.1).length hk20), (13, .pointer (some ⟨pb, 0, none⟩))] _
     have b2_28 := cf.b2; have b3_28 := cf.b3; have b4_28 := cf.b4; have b8_28 := cf.b8; have ch_28 := cf.ch
     refine Qe (Ry rfl (Om (Qc rfl) rfl (Om (Ra υ51 rfl) rfl (Om (Qc rfl) rfl (Qf (Wf (Qa ?_)))))))
     refine Qw (Cp (σ := Nat) (fun i => [(2, .pointer (some ⟨p1, 0, none⟩)), (3, .pointer (some ⟨p2, 0, none⟩)), (4, .pointer (some ⟨p3, 0, none⟩)), (7, .pointer (some ⟨p7, 0, none⟩)), (8, .pointer (some ⟨p9, 0, none⟩)), (11, .int .i64 x.1), (13, .pointer (some ⟨pb, 0, none⟩)), (67, .slice hA20 (headsM P x.1).length hk20), (68, .int .i64 (headsM P x.1).length), (69, .int .i64 i)]) (fun i w' => i ≤ (headsM P x.1).length ∧ (-1 ≤ (bestJ P n x.1 r b i).2 ∧ (bestJ P n x.1 r b i).2 ≤ 4611686018427387905) ∧ (∃ B e, Bk w' p7 (pricedC (bestJ P n x.1 r b i) B e) 149 ∧ RdK (SU base w'.heap.size (UX U p3 p7)) w' B (bestJ P n x.1 r b i).1.kids) ∧ Bk w' pb (pricedC r rA rc) 149 ∧ RdK (SU base w'.heap.size (UX U p3 p7)) w' rA r.1.kids ∧ CF P q mb n p1 p2 p3 p7 p9 w' ∧ MapOk P (UX U p3 p7) base mb w' ∧ RdK (In w19.heap.size w20.heap.size) w' hA20 (headsM P x.1) ∧ w28.heap.size ≤ w'.heap.size ∧ Ch (Is mb) w w' ∧ Ch (fun y => y = mb ∨ y = p7) w19 w') (fun i => (headsM P x.1).length - i) 0 ?_ ⟨rfl, rfl, rfl, rfl, rfl, rfl, rfl, rfl, rfl, rfl, trivial⟩ ?_)
     · exact ⟨Nat.zero_le _, hbd, ⟨_, _, b7_28, (kb_28).weak (grow_SU (by omega))⟩, b13_28, (rk_28).weak (grow_SU (by omega)), ⟨b2_28, b3_28, b4_28, b8_28, ch_28⟩, mk2_28, hd_28, Nat.le_refl _, CH_28, CR_28⟩
     rintro i w29 ⟨i1, ibd, ⟨B, e, b7_29, kb_29⟩, b13_29, rk_29, cf, mk2_29, hd_29, hsz3, CH_29, CR_29⟩
     show VC _ _ _ _ [(2, .pointer (some ⟨p1, 0, none⟩)), (3, .pointer (some ⟨p2, 0, none⟩)), (4, .pointer (some ⟨p3, 0, none⟩)), (7, .pointer (some ⟨p7, 0, none⟩)), (8, .pointer (some ⟨p9, 0, none⟩)), (11, .int .i64 x.1), (13, .pointer (some ⟨pb, 0, none⟩)), (67, .slice hA20 (headsM P x.1).length hk20), (68, .int .i64 (headsM P x.1).length), (69, .int .i64 i)] _
     have b2_29 := cf.b2; have b3_29 := cf.b3; have b4_29 := cf.b4; have b8_29 := cf.b8; have ch_29 := cf.ch
     refine Qe (Ry rfl (Om (Cs rfl rfl) rfl (Qf (Wf (Qa (Qe (Qj rfl (fun hc5 => ?_) (fun hc5 => ?_))))))))
     ·
      refine Qn (Qa (Qe (Qw (Qe ?_))))
      obtain ⟨ko, hko⟩ : ∃ ko, (headsM P x.1)[i]? = some ko := ⟨_, List.getElem?_eq_getElem (by omega)⟩
      obtain ⟨kA, kc, ka, kr⟩ := hd_29.kid hko
      obtain ⟨h1k, h2k, h3k⟩ := mem_heads (List.mem_of_getElem? hko)
      obtain ⟨kk, kn, kks⟩ := ko
      simp only [Ord.kind, Ord.n, Ord.kids] at h1k h2k h3k
      subst h3k
      subst kn
      have hlc := lcost_bd (k := kk) (n := x.1) (by omega) (by omega)
      refine Ry rfl (Om (Cb υ51 ς53 rfl rfl (hd_29.ne (by omega)) (by omega) (by omega)) rfl (Om (Qr ι53 ς53 rfl rfl ka.1) rfl (Oq (Cc ζ53) rfl ?_)))
      rintro _ w30 ⟨p30, rfl, N30⟩
      have c30 := N30.ch
      have e30 := N30.p; have z30 := N30.size
      have b15 := Bk.new N30
      refine Oz (Cf ς53 rfl rfl rfl rfl b15 (Nat.le_of_ble_eq_true rfl)) rfl ?_
      intro _ w31 Z31
      have c31 := Z31.ch; have z31 := Z31.size
      have b15_31 := Bk.put Z31
      refine Qf (Wf (Qa (Qe (Ry rfl (Om (Qg υ149 rfl ς3 rfl rfl rfl) rfl ?_)))))
      have cc_29_31 : Ch No w29 w31 := (Ch.then (E := No) c30 c31 (by intro q h1 h2; rcases h2 with h2 | h2 <;> first | exact h2 | (exfalso; omega)))
      have b13_31 := b13_29.keep cc_29_31
      refine Om (Qh ι3 rfl (b13_31.cell rfl)) rfl (Om (Wb rfl rfl) rfl (Qf (Wf (Qa (Qj rfl (fun hc6 => ?_) (fun hc6 => ?_))))))
      ·
       refine VC.drawsR 18 [(0, true), (1, true), (2, true), (3, true), (5, true), (6, true), (7, true), (8, true), (9, true), (11, true), (12, true), (13, true), (14, true), (15, true), (4, false), (10, false), (16, false), (17, false)] (fun w1 w' => Ch (Is p7) w1 w') mixed rfl (by kernel_rfl) (fun _ _ => Ch.refl _ _) ?_
       intro w32 D32
       have c32 := Ch.of_drew D32; have z32 := c32.size
       have cc_29_32 : Ch No w29 w32 := ((Ch.then (E := No) c30 c31 (by intro q h1 h2; rcases h2 with h2 | h2 <;> first | exact h2 | (exfalso; omega))).and c32)
       have b2_32 := b2_29.keep cc_29_32
       have b3_32 := b3_29.keep cc_29_32
       have b4_32 := b4_29.keep cc_29_32
       have b8_32 := b8_29.keep cc_29_32
       have b7_32 := b7_29.keep cc_29_32
       have b13_32 := b13_31.keep c32
       have ka_32 := ka.keep cc_29_32
       have b15_32 := b15_31.keep c32
       refine Hm (fun w' hS => Qh Tryz.isAgg196 rfl ((b8_32.to hS).cell rfl)) rfl (Hm (fun w' hS => Qr ι53 ς53 rfl rfl ((b15_32.to hS).all' rfl)) rfl (Hm (fun w' hS => Qg υ149 rfl ς53 rfl rfl rfl) rfl (Hm (fun w' hS => Qr ι53 ς53 rfl rfl ((b13_32.to hS).part 3 rfl)) rfl (Hm (fun w' hS => Qc rfl) rfl (Hm (fun w' hS => Qh ι3 rfl ((b3_32.to hS).cell rfl)) rfl (Hm (fun w' hS => Qc rfl) rfl (Hm (fun w' hS => Rn.quo0 rfl rfl (by omega) (by omega) (by omega)) rfl ?_)))))))
       refine Hm (fun w' hS => Qr ι53 ς53 rfl rfl ((b15_32.to hS).all' rfl)) rfl (Hm (fun w' hS => Qg υ149 rfl ς3 rfl rfl rfl) rfl (Hm (fun w' hS => Qh ι3 rfl ((b13_32.to hS).cell rfl)) rfl (Hm (fun w' hS => Qg υ53 rfl ς3 rfl rfl rfl) rfl (Hm (fun w' hS => Qh ι3 rfl ((b15_32.to hS).cell rfl)) rfl (Hm (fun w' hS => Cm rfl rfl) rfl ?_)))))
       have kr_32 := kr.keep cc_29_32
       have rk_32 := rk_29.keep cc_29_32
       refine Hq (Qi Tryz.call157 rfl (order_Times (.mk kk x.1 []) r.1 _ _ _ _ 0 _ 0 _ _ ((kr_32).weak (fun y h => ⟨Nat.zero_le _, by omega⟩)) (Nat.le_refl _) ((rk_32).weak (fun y h => ⟨Nat.zero_le _, by omega⟩)) (Nat.le_refl _))) rfl ?_
       rintro _ w33 ⟨nA33, nc33, rfl, kn33, c33⟩
       have z33 := c33.size
       have RD_33 := (Ch.refl (Is p7) w32).and c33
       refine ⟨RD_33, ?_⟩
       refine Hq (Qi Tryz.call155 rfl (planner_cost kk x.1 _ _ _ h1k (by omega) (by omega))) rfl ?_
       rintro _ w34 ⟨rfl, c34⟩
       have z34 := c34.size
       have RD_34 := RD_33.and c34
       refine ⟨RD_34, ?_⟩
       refine Hq (Qi Tryz.call158 rfl (planner_timesCost x.1 (n / x.1) (lcost kk x.1) r.2 (decide (kk = 2)) _ (by omega) (by omega) (by omega) (by omega) (by omega) (by omega) (by omega) (by omega))) rfl ?_
       rintro _ w35 ⟨rfl, c35⟩
       have z35 := c35.size
       have RD_35 := RD_34.and c35
       refine ⟨RD_35, ?_⟩
       have b7_35 := b7_32.keep (c33.trans (c34.trans c35))
       have kn_35 := kn33.keep (c34.trans c35)
       have cc_29_35 : Ch No w29 w35 := (((((Ch.then (E := No) c30 c31 (by intro q h1 h2; rcases h2 with h2 | h2 <;> first | exact h2 | (exfalso; omega))).and c32).and c33).and c34).and c35)
       have kb_35 := kb_29.keep cc_29_35
       refine Hq (Wd Tryz.call153 rfl rfl (by rfl) (offer (.mk 3 0 [.mk kk x.1 [], r.1]) (timesC x.1 (n / x.1) (lcost kk x.1) r.2 (decide (kk = 2))) _ _ (bestJ P n x.1 r b i) B e p7 (SU base w35.heap.size (UX U p3 p7)) _ b7_35 ((kn_35).weak (fresh_SU (by omega) (by omega) (fun y h => by have := hU y h; omega) (by omega) (by omega))) ((kb_35).weak (grow_SU (by omega))) (fun h => h.2.2 (.inr (.inr rfl))))) rfl ?_
       rintro _ w36 ⟨rfl, ⟨B36, e36x, b7_36, kb_36⟩, c36⟩
       have z36 := c36.size
       have RD_36 : Ch (Is p7) w32 w36 := RD_35.then c36
       refine ⟨RD_36, ?_⟩
       refine Cn (Qf (Wf (Qo (Qa (Ry rfl ?_)))))
       refine Om (Ce rfl rfl (by rw [IntKind.wrap_i64]; omega)) rfl ?_
       refine Om (Qc rfl) rfl (Qf (Wf ?_))
       refine Ck (i + 1) (by first | omega | (dsimp only; omega)) ?_ ⟨rfl, rfl, rfl, rfl, rfl, rfl, rfl, rfl, rfl, rfl, trivial⟩
       have hbs := bestJ_succ (n := n) (r := r) (b := b) hko
       have hbo : offerH n x.1 r (bestJ P n x.1 r b i) (.mk kk x.1 []) = offerM (bestJ P n x.1 r b i) (.mk 3 0 [.mk kk x.1 [], r.1]) (timesC x.1 (n / x.1) (lcost kk x.1) r.2 (decide (kk = 2))) := by unfold offerH; rw [if_pos hc6]; rfl
       rw [hbo] at hbs
       have b13_35 := b13_32.keep (c33.trans (c34.trans c35))
       have b13_36 := b13_35.to c36
       have rk_35 := rk_32.keep (c33.trans (c34.trans c35))
       have rk_36 := rk_35.to c36 (by first | exact fun _ _ _ _ => id | (intro x h1 h2 hx h3; omega) | (intro x h1 h2 hx h3; exact h2.2.2 (.inr (by omega))))
       have b2_35 := b2_32.keep (c33.trans (c34.trans c35))
       have b2_36 := b2_35.to c36
       have b3_35 := b3_32.keep (c33.trans (c34.trans c35))
       have b3_36 := b3_35.to c36
       have b4_35 := b4_32.keep (c33.trans (c34.trans c35))
       have b4_36 := b4_35.to c36
       have b8_35 := b8_32.keep (c33.trans (c34.trans c35))
       have b8_36 := b8_35.to c36
       have ch_35 := ch_29.keep cc_29_35
       have ch_36 := ch_35.to c36 (by first | exact fun _ _ _ _ => id | (intro x h1 h2 hx h3; omega))
       have mk2_35 := mk2_29.keep cc_29_35
       have mk2_36 := mk2_35.to c36 (by first | exact id | omega) (by first | exact fun _ _ _ _ => id | (intro x h1 h2 hx h3; omega) | (intro x h1 h2 hx h3; exact h2.2.2 (.inr (by omega))))
       have hd_35 := hd_29.keep cc_29_35
       have hd_36 := hd_35.to c36
       have CH_35 := CH_29.and cc_29_35
       have CH_36 : Ch (Is mb) w w36 := CH_35.then c36
       have CR_35 := CR_29.and cc_29_35
       have CR_36 : Ch (fun y => y = mb ∨ y = p7) w19 w36 := CR_35.then c36
       refine ⟨by omega, ?_, ⟨_, _, by rw [hbs]; exact b7_36, by rw [hbs]; exact (kb_36).weak (grow_SU (by omega))⟩, b13_36, (rk_36).weak (grow_SU (by omega)), ⟨b2_36, b3_36, b4_36, b8_36, ch_36⟩, mk2_36, hd_36, by omega, CH_36, CR_36⟩
       rw [hbs]; exact offerM_bd ibd (timesC_bd (by omega) (by omega) (by omega) (by omega) (by omega) (by omega))
      ·
       refine Qn (Qo (Qa (Ry rfl ?_)))
       refine Om (Ce rfl rfl (by rw [IntKind.wrap_i64]; omega)) rfl ?_
       refine Om (Qc rfl) rfl (Qf (Wf ?_))
       refine Ck (i + 1) (by first | omega | (dsimp only; omega)) ?_ ⟨rfl, rfl, rfl, rfl, rfl, rfl, rfl, rfl, rfl, rfl, trivial⟩
       have hbs := bestJ_succ (n := n) (r := r) (b := b) hko
       have hbo : offerH n x.1 r (bestJ P n x.1 r b i) (.mk kk x.1 []) = (bestJ P n x.1 r b i) := by unfold offerH; rw [if_neg hc6]
       rw [hbo] at hbs
       have b7_31 := b7_29.keep cc_29_31
       have kb_31 := kb_29.keep cc_29_31
       have rk_31 := rk_29.keep cc_29_31
       have b2_31 := b2_29.keep cc_29_31
       have b3_31 := b3_29.keep cc_29_31
       have b4_31 := b4_29.keep cc_29_31
       have b8_31 := b8_29.keep cc_29_31
       have ch_31 := ch_29.keep cc_29_31
       have mk2_31 := mk2_29.keep cc_29_31
       have hd_31 := hd_29.keep cc_29_31
       have CH_31 := CH_29.and cc_29_31
       have CR_31 := CR_29.and cc_29_31
       refine ⟨by omega, by rw [hbs]; exact ibd, ⟨_, _, by rw [hbs]; exact b7_31, by rw [hbs]; exact (kb_31).weak (grow_SU (by omega))⟩, b13_31, (rk_31).weak (grow_SU (by omega)), ⟨b2_31, b3_31, b4_31, b8_31, ch_31⟩, mk2_31, hd_31, by omega, CH_31, CR_31⟩
     ·
      refine Cr (Qk (Qk (Qz (Qo ?_))))
      have hi9 : i = (headsM P x.1).length := by omega
      subst hi9
      rw [bestJ_all] at ibd b7_29 kb_29
      refine VQ.roundF CR_29 (fun y hy => by rcases hy with hy | hy <;> omega) (KpB.of CR_29 (by intro hy; rcases hy with hy | hy <;> omega)) ?_
      exact ⟨_, B, e, by rw [List.map_append]; exact hgo.step (show ¬ (x.1 < 2 ∨ x.1 = n) from by omega) hr1, ibd, b7_29, (kb_29).weak (grow_SU (by omega)), ⟨b2_29, b3_29, b4_29, b8_29, ch_29⟩, mk2_29, CH_29, by omega⟩
  rintro D xs w37 hD hS ⟨b, B, e, hgo, hbd, b7_37, kb_37, cf, mk2_37, CH_37, hsz2⟩ hK
  have df_37 : Df w37 D := ⟨hK⟩
  have b2_37 := cf.b2; have b3_37 := cf.b3; have b4_37 := cf.b4; have b8_37 := cf.b8; have ch_37 := cf.ch
  obtain ⟨ee, hE, hxs⟩ := hS
  rw [hxs, isq_eq hE hn2] at hgo
  refine Qo (Qa (Qe (Qe (Qb (Om (Qh ι150 rfl (b2_37.cell rfl)) rfl (Om (Qh ι3 rfl (b3_37.cell rfl)) rfl (Oq (Qi Tryz.call159 rfl (chooser_hard _ _ _ _ _ ch_37 (by omega) (by omega))) rfl ?_)))))))
  rintro _ w38 ⟨rfl, c38⟩
  have z38 := c38.size
  refine Qf (Qa (Cu rfl (fun hc7 => ?_) (fun hc7 => ?_)))
  ·
   try simp only [bX] at hc7
   have h8 := hardM_le hc7
   have hu2 := up2_le (x := 2 * n - 1) (j := 14) (by omega) (by omega) (by omega)
   simp only [Int.reducePow] at hu2
   have hu3 := up2_pos (x := 2 * n - 1) (by omega) (by omega)
   refine Qe (Qb ?_)
   have b3_38 := b3_37.keep c38
   refine Om (Qh ι3 rfl (b3_38.cell rfl)) rfl (Oq (Qi Tryz.call160 rfl (chirp_Size _ _ (by omega) (by omega))) rfl ?_)
   rintro _ _ ⟨rfl, rfl⟩
   refine Om (Qc rfl) rfl (Om (Qq rfl rfl) rfl (Om (Qq rfl rfl) rfl (Om (Qd rfl) rfl (Om (Qd rfl) rfl (Qf (Qa (Qe ?_)))))))
   refine Qb (Om (Qc rfl) rfl (Om (Wc υ28 rfl) rfl (Qf (Qa (Cw rfl (VC.cut (σ := Nat) (fun pb => [(2, .pointer (some ⟨p1, 0, none⟩)), (3, .pointer (some ⟨p2, 0, none⟩)), (4, .pointer (some ⟨p3, 0, none⟩)), (7, .pointer (some ⟨p7, 0, none⟩)), (8, .pointer (some ⟨p9, 0, none⟩)), (16, .int .i64 (up2 (2 * n - 1))), (18, .pointer (some ⟨pb, 0, none⟩))]) (fun pb w' => ∃ r2 rA2 rc2, (Best P (up2 (2 * n - 1)) r2 ∧ -1 ≤ r2.2 ∧ r2.2 ≤ 4611686018427387905) ∧ w38.heap.size ≤ pb ∧ Bk w' pb (pricedC r2 rA2 rc2) 149 ∧ RdK (SU base w'.heap.size (UX U p3 p7)) w' rA2 r2.1.kids ∧ Bk w' p7 (pricedC b B e) 149 ∧ RdK (SU base w'.heap.size (UX U p3 p7)) w' B b.1.kids ∧ CF P q mb n p1 p2 p3 p7 p9 w' ∧ MapOk P (UX U p3 p7) base mb w' ∧ w38.heap.size ≤ w'.heap.size ∧ Ch (Is mb) w w' ∧ Df w' D) ?_ ?_))))))
   ·
    obtain ⟨WB, hWB⟩ : ∃ WB, WB = w38.heap.size := ⟨_, rfl⟩
    have mk2_38 := mk2_37.keep c38
    have mkF := (mk2_38).more (U' := fun y => UX U p3 p7 y ∨ WB ≤ y) (fun y hy hu => by rcases hu with hu | hu; exact hu; omega)
    refine Qb ?_
    have b2_38 := b2_37.keep c38
    refine Om (Qh ι150 rfl (b2_38.cell rfl)) rfl (Om (Qc rfl) rfl ?_)
    have ch_38 := ch_37.keep c38
    refine Oq (Qi Tryz.call127 rfl (ih2 hc7 (fun y => UX U p3 p7 y ∨ (WB ≤ y ∧ y < w38.heap.size)) _ ch_38 ((mkF).more (fun y hy hu => hu.imp id (fun h => h.1))) hq (by omega) (fun y hy => by rcases hy with (hy | hy | hy) | hy; (have := hU y hy; omega); omega; omega; omega))) rfl ?_
    rintro _ w39 ⟨⟨r2, rA2, rc2, hs1, hs2, hs3, rfl, rk2⟩, mkn2, c39⟩
    have z39 := c39.size
    refine Oq (Cc ζ149) rfl ?_
    rintro _ w40 ⟨p40, rfl, N40⟩
    have c40 := N40.ch
    have e40 := N40.p; have z40 := N40.size
    have b18 := Bk.new N40
    refine Oz (Cf ς149 rfl rfl rfl rfl b18 (Nat.le_of_ble_eq_true rfl)) rfl ?_
    intro _ w41 Z41
    have c41 := Z41.ch; have z41 := Z41.size
    have b18_41 := Bk.put Z41
    refine Qf (VQ.cut p40 ?_ ⟨rfl, rfl, rfl, rfl, rfl, rfl, rfl, trivial⟩)
    have cc_39_41 : Ch No w39 w41 := (Ch.then (E := No) c40 c41 (by intro q h1 h2; rcases h2 with h2 | h2 <;> first | exact h2 | (exfalso; omega)))
    have rk2_41 := rk2.keep cc_39_41
    have b7_38 := b7_37.keep c38
    have b7_39 := b7_38.to c39
    have b7_41 := b7_39.keep cc_39_41
    have kb_38 := kb_37.keep c38
    have kb_39 := kb_38.to c39 (by first | exact fun _ _ _ _ => id | (intro x h1 h2 hx h3; omega) | (intro x h1 h2 hx h3; exact h2.2.2 (.inr (by omega))))
    have kb_41 := kb_39.keep cc_39_41
    have b2_39 := b2_38.to c39
    have b2_41 := b2_39.keep cc_39_41
    have b3_39 := b3_38.to c39
    have b3_41 := b3_39.keep cc_39_41
    have b4_38 := b4_37.keep c38
    have b4_39 := b4_38.to c39
    have b4_41 := b4_39.keep cc_39_41
    have b8_38 := b8_37.keep c38
    have b8_39 := b8_38.to c39
    have b8_41 := b8_39.keep cc_39_41
    have ch_39 := ch_38.to c39 (by first | exact fun _ _ _ _ => id | (intro x h1 h2 hx h3; omega))
    have ch_41 := ch_39.keep cc_39_41
    have mkn_41 := mkn2.keep cc_39_41
    have CH_38 := CH_37.and c38
    have CH_39 : Ch (Is mb) w w39 := CH_38.then c39
    have CH_41 := CH_39.and cc_39_41
    have df_38 := df_37.keep c38
    have df_39 := df_38.to c39
    have df_41 := df_39.keep cc_39_41
    exact ⟨r2, rA2, rc2, ⟨hs1, hs2, hs3⟩, by omega, b18_41, (rk2_41).weak (fun y h => ⟨h.1, by omega, fun hu => h.2.2 (.inl hu)⟩), b7_41, (kb_41).weak (grow_SU (by omega)), ⟨b2_41, b3_41, b4_41, b8_41, ch_41⟩, (mkn_41).more (fun y _ hu => .inl hu), by omega, CH_41, df_41⟩
   rintro pb w42 ⟨r2, rA2, rc2, ⟨hs1, hs2, hs3⟩, hpb, b18_42, rk2_42, b7_42, kb_42, cf, mk2_42, hszc, CH_42, df_42⟩
   show VC _ _ _ _ [(2, .pointer (some ⟨p1, 0, none⟩)), (3, .pointer (some ⟨p2, 0, none⟩)), (4, .pointer (some ⟨p3, 0, none⟩)), (7, .pointer (some ⟨p7, 0, none⟩)), (8, .pointer (some ⟨p9, 0, none⟩)), (16, .int .i64 (up2 (2 * n - 1))), (18, .pointer (some ⟨pb, 0, none⟩))] _
   have b2_42 := cf.b2; have b3_42 := cf.b3; have b4_42 := cf.b4; have b8_42 := cf.b8; have ch_42 := cf.ch
   refine Ci 11 [(0, true), (1, true), (2, true), (3, true), (5, true), (6, true), (7, true), (8, true), (4, false), (9, false), (10, false)] (fun w1 w' => Ch (Is p7) w1 w') mixed (by kernel_rfl) (fun _ _ => Ch.refl _ _) ?_
   intro w43 D43
   have c43 := Ch.of_drew D43; have z43 := c43.size
   have b2_43 := b2_42.keep c43
   have b3_43 := b3_42.keep c43
   have b4_43 := b4_42.keep c43
   have b8_43 := b8_42.keep c43
   have b7_43 := b7_42.keep c43
   have b18_43 := b18_42.keep c43
   refine Hm (fun w' hS => Qh Tryz.isAgg196 rfl ((b8_43.to hS).cell rfl)) rfl (Hm (fun w' hS => Qh ι3 rfl ((b3_43.to hS).cell rfl)) rfl (Hm (fun w' hS => Qg υ149 rfl ς53 rfl rfl rfl) rfl (Hm (fun w' hS => Qr ι53 ς53 rfl rfl ((b18_43.to hS).part 3 rfl)) rfl (Hm (fun w' hS => Qh ι3 rfl ((b3_43.to hS).cell rfl)) rfl (Hm (fun w' hS => Qc rfl) rfl (Hm (fun w' hS => Qg υ149 rfl ς3 rfl rfl rfl) rfl (Hm (fun w' hS => Qh ι3 rfl ((b18_43.to hS).cell rfl)) rfl ?_)))))))
   have rk2_43 := rk2_42.keep c43
   refine Hq (Qi Tryz.call161 rfl (order_Blue n r2.1 _ _ 0 _ _ ((rk2_43).weak (fun y h => ⟨Nat.zero_le _, by omega⟩)) (Nat.le_refl _))) rfl ?_
   rintro _ w44 ⟨nA44, nc44, rfl, kn44, c44⟩
   have z44 := c44.size
   have RD_44 := (Ch.refl (Is p7) w43).and c44
   refine ⟨RD_44, ?_⟩
   refine Hq (Qi Tryz.call162 rfl (planner_blueCost _ _ _ _ (by omega) (by omega) (by omega) (by omega) (by omega) (by omega))) rfl ?_
   rintro _ w45 ⟨rfl, c45⟩
   have z45 := c45.size
   have RD_45 := RD_44.and c45
   refine ⟨RD_45, ?_⟩
   have b7_45 := b7_43.keep (c44.trans c45)
   have kn_45 := kn44.keep c45
   have kb_45 := kb_42.keep (c43.trans (c44.trans c45))
   refine Hq (Wd Tryz.call153 rfl rfl (by rfl) (offer (.mk 4 n [r2.1]) (blueC n (up2 (2 * n - 1)) r2.2) _ _ b B e p7 (SU base w45.heap.size (UX U p3 p7)) _ b7_45 ((kn_45).weak (fresh_SU (by omega) (by omega) (fun y h => by have := hU y h; omega) (by omega) (by omega))) ((kb_45).weak (grow_SU (by omega))) (fun h => h.2.2 (.inr (.inr rfl))))) rfl ?_
   rintro _ w46 ⟨rfl, ⟨B46, e46x, b7_46, kb_46⟩, c46⟩
   have z46 := c46.size
   have RD_46 : Ch (Is p7) w43 w46 := RD_45.then c46
   refine ⟨RD_46, ?_⟩
   refine Cn (Qf ?_)
   have hbest := hgo.hard hc7 hs1
   have hbf := offerM_bd (o := .mk 4 n [r2.1]) hbd (blueC_bd (n := n) (m := up2 (2 * n - 1)) (cm := r2.2) (by omega) (by omega) (by omega) (by omega) (by omega))
   refine Qx (Qa (Qe ?_))
   have ch_45 := ch_42.keep (c43.trans (c44.trans c45))
   have ch_46 := ch_45.to c46 (by first | exact fun _ _ _ _ => id | (intro x h1 h2 hx h3; omega))
   obtain ⟨FA2, fc2, S2, bq2, sl2, hS2, hfl2, hqm2⟩ := ch_46.ex
   have hv28 := Ent.of b7_46 hbest hbf ((kb_46).weak (grow_SU (hi' := w46.heap.size) (by omega)))
   have mk2_45 := mk2_42.keep (c43.trans (c44.trans c45))
   have mk2_46 := mk2_45.to c46 (by first | exact id | omega) (by first | exact fun _ _ _ _ => id | (intro x h1 h2 hx h3; omega) | (intro x h1 h2 hx h3; exact h2.2.2 (.inr (by omega))))
   obtain ⟨mm2, mp2, hm2⟩ := mk2_46
   refine Ci 6 [(0, true), (1, true), (2, true), (3, true), (4, true), (5, true)] (fun w1 w' => Ch (No) w1 w') mixed (by kernel_rfl) (fun _ _ => Ch.refl _ _) ?_
   intro w47 D47
   have c47 := Ch.of_drew D47; have z47 := c47.size
   have b2_45 := b2_43.keep (c44.trans c45)
   have b2_46 := b2_45.to c46
   have b2_47 := b2_46.keep c47
   have b3_45 := b3_43.keep (c44.trans c45)
   have b3_46 := b3_45.to c46
   have b3_47 := b3_46.keep c47
   have b4_45 := b4_43.keep (c44.trans c45)
   have b4_46 := b4_45.to c46
   have b4_47 := b4_46.keep c47
   have b8_45 := b8_43.keep (c44.trans c45)
   have b8_46 := b8_45.to c46
   have b8_47 := b8_46.keep c47
   have b7_47 := b7_46.keep c47
   have b18_45 := b18_43.keep (c44.trans c45)
   have b18_46 := b18_45.to c46
   have b18_47 := b18_46.keep c47
   have bq_47 := bq2.keep c47
   have mp_47 := mp2.keep c47
   refine Hm (fun w' hS => Qh ι150 rfl ((b2_47.keep hS).cell rfl)) rfl (Hm (fun w' hS => Ql rfl) rfl (Hm (fun w' hS => Qg υ194 rfl ς192 rfl rfl rfl) rfl (Hm (fun w' hS => Qh ι192 rfl ((bq_47.keep hS).cell rfl)) rfl (Hm (fun w' hS => Qh ι3 rfl ((b3_47.keep hS).cell rfl)) rfl (Hm (fun w' hS => Qr ι149 ς149 rfl rfl ((b7_47.keep hS).all' rfl)) rfl (Cn (Oz (Wk.mapPut υ192 (KeyK.int υ3) rfl rfl rfl mp_47) rfl ?_)))))))
   rintro _ w48 ⟨c48, zs48, mpn⟩
   have z48 := c48.size
   have C28_47 := (Ch.refl (Is mb) w46).and c47
   have C28_48 : Ch (Is mb) w46 w48 := C28_47.then c48
   have mk3 := MapOk.put C28_48 mpn mp2 hm2 hv28 (by omega)
   refine Qf (Qx (Qa (Qe (Qb ?_))))
   have b7_48 := b7_47.to c48
   refine Om (Qr ι149 ς149 rfl rfl (b7_48.all' rfl)) rfl ?_
   have b4_48 := b4_47.to c48
   refine Oz (Cf ς149 rfl rfl rfl rfl b4_48 (Nat.le_of_ble_eq_true rfl)) rfl ?_
   intro _ w49 Z49
   have c49 := Z49.ch; have z49 := Z49.size
   have b4_49 := Bk.put Z49
   refine Qf (Qa (Qp ?_))
   have df_45 := df_42.keep (c43.trans (c44.trans c45))
   have df_46 := df_45.to c46
   have df_47 := df_46.keep c47
   have df_48 := df_47.to c48
   have df_49 := df_48.to c49
   refine VQ.dropD df_49.blk ?_
   intro w50 W50
   have g50 : Gn w18.heap.size w49 w50 := by rw [W50]; exact Gn.put df_49.blk hD
   have z50 := g50.size
   refine VQ.toM ?_
   have b4_50 := b4_49.toG g50
   refine Rk rfl rfl ι149 ς149 rfl (b4_50.all' rfl) (Ret.mk ?_)
   have CH_45 := CH_42.and (c43.trans (c44.trans c45))
   have CH_46 : Ch (Is mb) w w46 := CH_45.then c46
   have CH_47 := CH_46.and c47
   have CH_48 : Ch (Is mb) w w48 := CH_47.then c48
   have CH_49 : Ch (Is mb) w w49 := CH_48.then c49
   have CH_50 := CH_49.toG g50 (by omega)
   have zz9 := CH_50.size
   have kb_47 := kb_46.keep c47
   have kb_48 := kb_47.to c48 (by first | exact fun _ _ _ _ => id | (intro x h1 h2 hx h3; omega) | (intro x h1 h2 hx h3; exact h2.2.2 (.inr (by omega))))
   have kb_49 := kb_48.to c49 (by first | exact fun _ _ _ _ => id | (intro x h1 h2 hx h3; omega) | (intro x h1 h2 hx h3; exact h2.2.2 (.inr (by omega))))
   have kb_50 := kb_49.toG g50
   have mk2_49 := mk3.to c49 (by first | exact id | omega) (by first | exact fun _ _ _ _ => id | (intro x h1 h2 hx h3; omega) | (intro x h1 h2 hx h3; exact h2.2.2 (.inr (by omega))))
   have mk2_50 := mk2_49.toG g50 (by omega)
   exact ⟨⟨_, _, _, hbest, hbf.1, hbf.2, rfl, (kb_50).weak (fun x h => ⟨h.1, by omega, fun hu => h.2.2 (.inl hu)⟩)⟩, (mk2_50).more (fun x _ hu => .inl hu), CH_50⟩
  ·
   try simp only [bX] at hc7
   have hbest := hgo.plain hc7
   have hbf := hbd
   refine Qn (Qa (Qe ?_))
   have ch_38 := ch_37.keep c38
   obtain ⟨FA2, fc2, S2, bq2, sl2, hS2, hfl2, hqm2⟩ := ch_38.ex
   have b7_38 := b7_37.keep c38
   have kb_38 := kb_37.keep c38
   have hv28 := Ent.of b7_38 hbest hbf ((kb_38).weak (grow_SU (hi' := w38.heap.size) (by omega)))
   have mk2_38 := mk2_37.keep c38
   obtain ⟨mm2, mp2, hm2⟩ := mk2_38
   refine Ci 6 [(0, true), (1, true), (2, true), (3, true), (4, true), (5, true)] (fun w1 w' => Ch (No) w1 w') mixed (by kernel_rfl) (fun _ _ => Ch.refl _ _) ?_
   intro w51 D51
   have c51 := Ch.of_drew D51; have z51 := c51.size
   have b2_51 := b2_37.keep (c38.trans c51)
   have b3_51 := b3_37.keep (c38.trans c51)
   have b4_51 := b4_37.keep (c38.trans c51)
   have b8_51 := b8_37.keep (c38.trans c51)
   have b7_51 := b7_38.keep c51
   have bq_51 := bq2.keep c51
   have mp_51 := mp2.keep c51
   refine Hm (fun w' hS => Qh ι150 rfl ((b2_51.keep hS).cell rfl)) rfl (Hm (fun w' hS => Ql rfl) rfl (Hm (fun w' hS => Qg υ194 rfl ς192 rfl rfl rfl) rfl (Hm (fun w' hS => Qh ι192 rfl ((bq_51.keep hS).cell rfl)) rfl (Hm (fun w' hS => Qh ι3 rfl ((b3_51.keep hS).cell rfl)) rfl (Hm (fun w' hS => Qr ι149 ς149 rfl rfl ((b7_51.keep hS).all' rfl)) rfl (Cn (Oz (Wk.mapPut υ192 (KeyK.int υ3) rfl rfl rfl mp_51) rfl ?_)))))))
   rintro _ w52 ⟨c52, zs52, mpn⟩
   have z52 := c52.size
   have C28_51 := (Ch.refl (Is mb) w38).and c51
   have C28_52 : Ch (Is mb) w38 w52 := C28_51.then c52
   have mk3 := MapOk.put C28_52 mpn mp2 hm2 hv28 (by omega)
   refine Qf (Qx (Qa (Qe (Qb ?_))))
   have b7_52 := b7_51.to c52
   refine Om (Qr ι149 ς149 rfl rfl (b7_52.all' rfl)) rfl ?_
   have b4_52 := b4_51.to c52
   refine Oz (Cf ς149 rfl rfl rfl rfl b4_52 (Nat.le_of_ble_eq_true rfl)) rfl ?_
   intro _ w53 Z53
   have c53 := Z53.ch; have z53 := Z53.size
   have b4_53 := Bk.put Z53
   refine Qf (Qa (Qp ?_))
   have df_51 := df_37.keep (c38.trans c51)
   have df_52 := df_51.to c52
   have df_53 := df_52.to c53
   refine VQ.dropD df_53.blk ?_
   intro w54 W54
   have g54 : Gn w18.heap.size w53 w54 := by rw [W54]; exact Gn.put df_53.blk hD
   have z54 := g54.size
   refine VQ.toM ?_
   have b4_54 := b4_53.toG g54
   refine Rk rfl rfl ι149 ς149 rfl (b4_54.all' rfl) (Ret.mk ?_)
   have CH_51 := CH_37.and (c38.trans c51)
   have CH_52 : Ch (Is mb) w w52 := CH_51.then c52
   have CH_53 : Ch (Is mb) w w53 := CH_52.then c53
   have CH_54 := CH_53.toG g54 (by omega)
   have zz9 := CH_54.size
   have kb_51 := kb_38.keep c51
   have kb_52 := kb_51.to c52 (by first | exact fun _ _ _ _ => id | (intro x h1 h2 hx h3; omega) | (intro x h1 h2 hx h3; exact h2.2.2 (.inr (by omega))))
   have kb_53 := kb_52.to c53 (by first | exact fun _ _ _ _ => id | (intro x h1 h2 hx h3; omega) | (intro x h1 h2 hx h3; exact h2.2.2 (.inr (by omega))))
   have kb_54 := kb_53.toG g54
   have mk2_53 := mk3.to c53 (by first | exact id | omega) (by first | exact fun _ _ _ _ => id | (intro x h1 h2 hx h3; omega) | (intro x h1 h2 hx h3; exact h2.2.2 (.inr (by omega))))
   have mk2_54 := mk2_53.toG g54 (by omega)
   exact ⟨⟨_, _, _, hbest, hbf.1, hbf.2, rfl, (kb_54).weak (fun x h => ⟨h.1, by omega, fun hu => h.2.2 (.inl hu)⟩)⟩, (mk2_54).more (fun x _ hu => .inl hu), CH_54⟩
end Go.Tm
namespace Go.Tm
open Go.RowKit Go.Proofs
open Classical in
noncomputable def mu (n : Int) : Nat := if ∃ j : Nat, n = 2 ^ j then n.toNat else n.toNat + 20000
theorem mfind_mem {m : List (Int × Value)} {k : Int} {v : Value} (h : mfind m k = some v) : (k, v) ∈ m := by
  unfold mfind at h
  cases hf : m.find? (fun x => k == x.1) with
  | none => rw [hf] at h; cases h
  | some x =>
    rw [hf] at h
    injection h with h
    have h1 := List.mem_of_find?_eq_some hf
    have h2 := List.find?_some hf
    have h3 : k = x.1 := by simpa using h2
    subst h
    subst h3
    exact h1
theorem cheap_all (P : Pol) (hp : 2 ≤ P.prime) (q mb base : Nat) : ∀ (m : Nat) (n : Int), 1 ≤ n → n ≤ 16384 → mu n < m → CheapOk P q mb base n := by
  intro m
  induction m with
  | zero => intro n _ _ h; omega
  | succ m ih =>
    intro n hn hn2 hmu U w ch mk hq hb hU
    obtain ⟨mm, mp, hmm⟩ := id mk
    cases hf : mfind mm n with
    | none =>
      refine cheapest_miss P q mb base n hn hn2 U w ch mk hq hb hU mm mp hf ?_ ?_
      · intro a ha han hd
        have h1 := divE_ok hn (show 1 ≤ a by omega) hd
        have h2 : n / a * a = n := Int.ediv_mul_cancel (Int.dvd_of_emod_eq_zero hd)
        have h3 : n / a < n := by
          have := Int.mul_le_mul_of_nonneg_left ha (show 0 ≤ n / a by omega)
          omega
        refine ih _ h1.1 (by omega) ?_
        unfold mu at hmu ⊢
        by_cases hp2 : ∃ j : Nat, n = 2 ^ j
        · rw [if_pos hp2] at hmu
          rw [if_pos (pow2_quo hn (by omega) hd hp2)]
          omega
        · rw [if_neg hp2] at hmu
          split <;> omega
      · intro hh
        have h8 := hardM_le hh
        have hu := up2_spec (x := 2 * n - 1) (by omega) (by omega)
        have hu2 := up2_le (x := 2 * n - 1) (j := 14) (by omega) (by omega) (by omega)
        simp only [Int.reducePow] at hu2
        have hu3 := up2_pos (x := 2 * n - 1) (by omega) (by omega)
        refine ih _ hu3 (by omega) ?_
        unfold mu at hmu ⊢
        rw [if_pos hu.1]
        by_cases hp2 : ∃ j : Nat, n = 2 ^ j
        · rw [hard_pow2 hp hn2 hp2] at hh
          cases hh
        · rw [if_neg hp2] at hmu
          omega
    | some v =>
      obtain ⟨r, A, c, h1, h2, h3, h4, h5⟩ := hmm _ (mfind_mem hf)
      simp only at h4 h1
      subst h4
      exact cheapest_hit P q mb base n hn hn2 U w ch mk hq hb hU mm mp r A c hf h1 h2 h3 h5
theorem cheap_ok (P : Pol) (hp : 2 ≤ P.prime) (q mb base : Nat) (n : Int) (hn : 1 ≤ n) (hn2 : n ≤ 16384) : CheapOk P q mb base n := cheap_all P hp q mb base _ n hn hn2 (Nat.lt_succ_self _)
set_option maxRecDepth 100000 in
theorem planner_Choose (P : Pol) (hp : PolOk P) (hl : P.flies.length ≤ 100) (n : Int) (hn : 1 ≤ n) (hn2 : n ≤ 4096) (FA : Option Addr) (fc lo hi : Nat) (w : World) (sl : SlR (In lo hi) w FA P.flies.length 1 (P.flies.map (.int .i64 ·))) (hh : hi ≤ w.heap.size) :
  Calls Tryz.prog 90 #[.int .i64 n, .agg #[.int .i64 P.direct, .slice FA P.flies.length fc, .int .i64 P.prime]] w (Ret (fun v w' => ∃ r A c, v = .tuple #[ordV r.1 A c, .nilIface] ∧ Best P n r ∧ RdK (In w.heap.size w'.heap.size) w' A r.1.kids ∧ Ch No w w')) := by
 refine calls_of_VC (args := [.int .i64 n, .agg #[.int .i64 P.direct, .slice FA P.flies.length fc, .int .i64 P.prime]]) Tryz.func90 rfl Tryz.ntmps90 rfl (Qe (Qb (Oq (Cj rfl) rfl ?_)))
 rintro _ w1 ⟨p1, rfl, N1⟩
 have c1 := N1.ch
 have e1 := N1.p; have z1 := N1.size
 have b3 := Bk.new N1
 refine Oq (Cc ζ53) rfl ?_
 rintro _ w2 ⟨p2, rfl, N2⟩
 have c2 := N2.ch
 have e2 := N2.p; have z2 := N2.size
 have b4 := Bk.new N2
 refine Om (Qd rfl) rfl (Qf (Qa (Qe (Qe (Qb (Om (Qc rfl) rfl (Om (Cs rfl rfl) rfl ?_)))))))
 refine Om (Qc rfl) rfl ?_
 refine Rd (b := _) 3 8 11 rfl (fun hc1 Jhc1 => by
   refine Oy rfl (Oy rfl (Om (Qt rfl rfl) rfl ?_))
   exact (Qs rfl (Qs rfl Jhc1))) (fun hc1 Jhc1 => by
   try simp only [bX] at hc1
   refine Om (Qc rfl) rfl (Om (Rb rfl rfl) rfl (Om (Qm rfl rfl) rfl ?_))
   exact (Qs rfl (Qs rfl Jhc1))) ?_
 refine Qf (Qa (Cu rfl (fun hc2 => ?_) (fun hc2 => ?_)))
 ·
  try simp only [bX] at hc2
  omega
 ·
  try simp only [bX] at hc2
  refine Qn (Qa (Qe (Qe (Qb ?_))))
  have b3_2 := b3.keep c2
  refine Om (Qr ι79 ς79 rfl rfl (b3_2.all' rfl)) rfl ?_
  have sl_2 := sl.keep (c1.trans c2)
  refine Oq (Qi Tryz.call125 rfl (planner_Check P _ _ _ _ _ sl_2 (by omega) hp (by omega))) rfl ?_
  rintro _ w3 ⟨rfl, c3⟩
  have z3 := c3.size
  refine Om (Cg υ28 rfl) rfl (Qf (Qa (Ca rfl (Qn (Qa (Qe (Qb ?_)))))))
  have b3_3 := b3_2.keep c3
  refine Om (Qr ι79 ς79 rfl rfl (b3_3.all' rfl)) rfl ?_
  have sl_3 := sl_2.keep c3
  refine Oq (Qi Tryz.call126 rfl (planner_newChooser P _ _ _ _ _ sl_3 (by omega) (by omega))) rfl ?_
  rintro _ w4 ⟨q, mb, rfl, ch, mp, hq0, c4⟩
  have z4 := c4.size
  refine Om (Qc rfl) rfl ?_
  have lq := ch.lt
  refine Oq (Qi Tryz.call127 rfl (cheap_ok P hp.2.2.1 q mb w4.heap.size n hn (by omega) (fun y => False) _ ch ⟨[], mp, fun x hx => by cases hx⟩ (by omega) (Nat.le_refl _) (fun y hy => hy.elim))) rfl ?_
  rintro _ w5 ⟨⟨r, rA, rc, hr1, hr2, hr3, rfl, rk⟩, mkn, c5⟩
  have z5 := c5.size
  refine Om (Rn.fieldV υ149 rfl ι53 ς53 rfl) rfl ?_
  have b4_4 := b4.keep (c3.trans c4)
  have b4_5 := b4_4.to c5
  refine Oz (Cf ς53 rfl rfl rfl rfl b4_5 (Nat.le_of_ble_eq_true rfl)) rfl ?_
  intro _ w6 Z6
  have c6 := Z6.ch; have z6 := Z6.size
  have b4_6 := Bk.put Z6
  refine Om (Qd rfl) rfl (Qf (Qa (Qp (VQ.retct rfl rfl ι53 ς53 rfl (b4_6.all' rfl) rfl (Ret.mk ?_)))))
  have CH_4 := (Ch.refl (No) w).and (c1.trans (c2.trans (c3.trans c4)))
  have CH_5 : Ch (No) w w5 := CH_4.then c5
  have CH_6 : Ch (No) w w6 := CH_5.then c6
  have zz := CH_6.size
  have rk_6 := rk.to c6
  exact ⟨r, rA, rc, rfl, hr1, (rk_6).weak (fun y h => ⟨by omega, by omega⟩), CH_6⟩
end Go.Tm
namespace Go.Tm
open Go.RowKit
abbrev isT (t : TypeId) (w : World) (q : Nat) : Prop := ∃ cs fr, w.heap[q]? = some (.cells cs t fr)
def KT (t : TypeId) (B : Nat) (w w' : World) : Prop := Ch (fun q => B ≤ q ∧ isT t w q) w w'
section
variable {t : TypeId} {B : Nat} {w w' : World} (g : KT t B w w')
include g
end
section
variable {P : Program} {n : Fr} {k : K} {w : World} {d : Option Tmp} {ty : TypeId} {pos : String} {aft : Array Edge} {g : Option (Nat × Bool)}
theorem Wk.appendX {r : Nat} {t u e : TypeId} {x y : Operand} (ht : P.underlying t = some (.slice e)) (hu : P.underlying u = some .string) (hi : Inf P e (.int .u8 0) 1 1)
    {A : Option Addr} {l c : Nat} {cs : List Value} {s : ByteArray} (hex : ev k x = some (.slice A l c)) (hey : ev k y = some (.string s)) (hown : Ow w r e 1 A l c cs) (hbytes : l + s.size ≤ 140737488355328) :
    Wk P n k w { dst := d, op := .call { callee := .builtin .append, args := #[x, y], argTypes := #[t, u] }, type := ty, pos := pos, after := aft, guard := g }
      (fun v w' => ∃ r' A' c', v = .slice A' (l + s.size) c' ∧ Ow w' r' e 1 A' (l + s.size) c' (cs ++ Lib.strCells s) ∧ Ch (At r) w w' ∧ (r' = r ∨ w.heap.size < r')) := by
  obtain ⟨i, hi, hz, hs, hb⟩ := hi
  have key : ∃ r' A' c' w', (Builtin.append_ #[t, u] ty #[.slice A l c, .string s]).run P w = .ok (.slice A' (l + s.size) c') w' ∧ Ow w' r' e 1 A' (l + s.size) c' (cs ++ Lib.strCells s) ∧ Ch (At r) w w' ∧ (r' = r ∨ w.heap.size < r') := by
    obtain ⟨hlen0, hown⟩ := hown
    have hlen : (cs ++ Lib.strCells s).length = (l + s.size) * 1 := by rw [List.length_append, hlen0, Lib.strCells_length]; omega
    have grown : ∀ (old : Nat), old < l + s.size →
        Ow (w.drew.alloc (.cells (cs.toArray ++ (Lib.strCells s).toArray ++ Builtin.zeroCells (Value.int .u8 0).cells (grownCap w (l + s.size) old e - (l + s.size))) e)) (w.heap.size + 1) e 1 (some ⟨w.heap.size, 0, none⟩) (l + s.size) (grownCap w (l + s.size) old e) (cs ++ Lib.strCells s) ∧
        Ch (At r) w (w.drew.alloc (.cells (cs.toArray ++ (Lib.strCells s).toArray ++ Builtin.zeroCells (Value.int .u8 0).cells (grownCap w (l + s.size) old e - (l + s.size))) e)) := by
      intro old ho
      have hge := grownCap_ge w (l + s.size) old e
      have hcm : grownCap w (l + s.size) old e ≤ maxLen := grownCap_le_maxLen w (l + s.size) old e (by simp only [maxLen]; omega)
      refine ⟨⟨hlen, .inr ⟨w.heap.size, _, rfl, rfl, heap_alloc_new w.drew _, hge, hcm, ?_, ?_⟩⟩, ⟨rfl, rfl, rfl, by simp, fun q x _ hx => (heap_alloc_old w.drew _ (blk_lt hx)).trans hx⟩⟩
      · have hz1 : (Value.int IntKind.u8 0).cells.size = 1 := rfl
        simp only [Array.size_append, List.size_toArray, size_zeroCells, hz1, hlen0, Lib.strCells_length]
        omega
      · simp only [Array.toList_append, List.append_assoc]
        rw [← List.append_assoc, ← hlen]
        exact List.take_left
    rcases hown with ⟨rfl, rfl, rfl, rfl⟩ | ⟨p, cur, rfl, rfl, hg, hnc, hcm, hcs, htake⟩
    · have hx : cs = [] := List.eq_nil_of_length_eq_zero (by simpa using hlen0)
      subst hx
      by_cases hm : s.size = 0
      · have hn : Lib.strCells s = [] := List.eq_nil_of_length_eq_zero (by rw [Lib.strCells_length]; exact hm)
        refine ⟨0, none, 0, w, ?_, by rw [hm, hn]; exact Ow.nil _ _ _, Ch.refl _ _, .inl rfl⟩
        have hf := Lib.run_firstCells_string (P := P) w 1 s
        rw [hm] at hf
        simp [Builtin.append_, run_underlying ht, run_underlying hu, sizeOf, typeInfo, hi, hs, Builtin.lenOf, hm, hf]
      · have hr := run_append_nil_string (P := P) w t u ty e i (.int .u8 0) ht hu hi hz s (by omega) (by omega) (by rw [hb]; omega)
        have hgr := grown 0 (by omega)
        simp only [Nat.zero_add, List.nil_append, Array.empty_append] at hgr ⊢
        have e1 : (s.data.map fun b => Value.int .u8 b.toNat) = (Lib.strCells s).toArray := by
          apply Array.ext'
          simp [Lib.strCells]
        rw [e1] at hr
        exact ⟨_, _, _, _, hr, hgr.1, hgr.2, .inr (by omega)⟩
    · by_cases hroom : l + s.size ≤ c
      · have hr := Lib.run_append_room_string (P := P) w t u ty e i ht hu hi hs p l c cur hg s hroom (by omega)
        refine ⟨_, _, _, _, hr, ⟨hlen, .inr ⟨p, _, rfl, rfl, setRow_heap w p cur _ e _ hg, hroom, hcm, ?_, ?_⟩⟩, (Sts.of_row rfl hg).ch.more (fun q _ hq => by rw [hq]), .inl rfl⟩
        · simp only [List.size_toArray, List.length_append, List.length_take, List.length_drop, Array.length_toList, Lib.strCells_length]
          omega
        · have ht' : cur.toList.take l = cs := by simpa using htake
          rw [ht', ← hlen]
          exact List.take_left
      · have holds : ∀ j u, cs[j]? = some u → w.cell? ((⟨p, 0, none⟩ : Addr).add j) = some u := by
          have := Ow.sl (c := c) ⟨hlen0, .inr ⟨p, cur, rfl, rfl, hg, hnc, hcm, hcs, htake⟩⟩
          exact this.cells _ rfl
        have hr := Lib.run_append_grow_string (P := P) w t u ty e i (.int .u8 0) ht hu hi hz ⟨p, 0, none⟩ l c cs (by rw [hs]; exact hlen0) holds s (by omega) (by omega) (by rw [hb]; exact growslice_fits (by omega) (by omega))
        have hgr := grown c (by omega)
        exact ⟨_, _, _, _, hr, hgr.1, hgr.2, .inr (by omega)⟩
  refine Rm fun a ha => ?_
  obtain ⟨r', A', c', w', hr, ho, hc, hq⟩ := key
  exact ⟨_, w', by simp [execOp, resolve, invoke, builtin, ha.eval hex, ha.eval hey, hr], r', A', c', rfl, ho, hc, hq⟩
theorem Rn.bytes_string {S : Nat → Prop} {s t e : TypeId} {x : Operand} {A : Option Addr} {l c : Nat} {bs : List UInt8} (hs : P.underlying s = some (.slice e)) (he : P.underlying e = some (.int .u8)) (hd : P.underlying t = some .string) (hx : ev k x = some (.slice A l c)) (hl : 0 < l) (h : SlR S w A l 1 (bs.map fun b => Value.int .u8 b.toNat)) :
    Rn P n k w { dst := d, op := .convert s t x, type := ty, pos := pos, after := aft, guard := g } (.string ⟨bs.toArray⟩) := by
  obtain ⟨ad, rfl⟩ := h.ne hl
  have hlen : bs.length = l := by have := h.len; simpa using this
  subst hlen
  intro a ha
  have hr := run_convert_bytes_back (P := P) w s t e ad c bs hs he hd (fun j hj => h.cells ad rfl j _ (by simp [hj]))
  simp [execOp, ha.eval hx, hr]
end
end Go.Tm
namespace Go.Tm
open Go.RowKit
def tx : Ord → List UInt8
  | .mk k n ks =>
    if k = 1 then 100 :: Lib.itoa n else if k = 2 then 102 :: Lib.itoa n else if k = 3 then (match ks with
      | [a, b] => [40] ++ tx a ++ [32, 120, 32] ++ tx b ++ [41]
      | _ => []) else (match ks with
      | [a] => [98] ++ Lib.itoa n ++ [40] ++ tx a ++ [41]
      | _ => [])
def okO : Ord → Prop
  | .mk k n ks => 0 ≤ n ∧ n ≤ 16384 ∧ ((k = 1 ∨ k = 2) ∧ ks = [] ∨ k = 3 ∧ (match ks with
      | [a, b] => okO a ∧ okO b
      | _ => False) ∨ k = 4 ∧ (match ks with
      | [a] => okO a
      | _ => False))
theorem okO_n {o : Ord} (h : okO o) : 0 ≤ o.n ∧ o.n ≤ 16384 := by
  obtain ⟨k, n, ks⟩ := o
  unfold okO at h
  exact ⟨h.1, h.2.1⟩
theorem okO_cases {k n : Int} {ks : List Ord} (h : okO (.mk k n ks)) : ((k = 1 ∨ k = 2) ∧ ks = []) ∨ (k = 3 ∧ ∃ a b, ks = [a, b] ∧ okO a ∧ okO b) ∨ (k = 4 ∧ ∃ a, ks = [a] ∧ okO a) := by
  unfold okO at h
  obtain ⟨_, _, h⟩ := h
  rcases h with h | h | h
  · exact .inl h
  · refine .inr (.inl ⟨h.1, ?_⟩)
    obtain ⟨_, h⟩ := h
    split at h
    · exact ⟨_, _, rfl, h⟩
    · exact h.elim
  · refine .inr (.inr ⟨h.1, ?_⟩)
    obtain ⟨_, h⟩ := h
    split at h
    · exact ⟨_, rfl, h⟩
    · exact h.elim
theorem okO_three {o : Ord} (h : okO o) (hk : o.kind = 3) : ∃ a b, o.kids[0]? = some a ∧ o.kids[1]? = some b ∧ o.kids = [a, b] ∧ okO a ∧ okO b ∧ tx o = [40] ++ tx a ++ [32, 120, 32] ++ tx b ++ [41] := by
  obtain ⟨k, n, ks⟩ := o
  simp only [Ord.kind] at hk
  subst hk
  rcases okO_cases h with ⟨h, _⟩ | ⟨_, a, b, rfl, ha, hb⟩ | ⟨h, _⟩
  · omega
  · exact ⟨a, b, rfl, rfl, rfl, ha, hb, by simp [tx]⟩
  · omega
theorem okO_four {o : Ord} (h : okO o) (h1 : ¬ o.kind = 1) (h2 : ¬ o.kind = 2) (h3 : ¬ o.kind = 3) : ∃ a, o.kids[0]? = some a ∧ o.kids = [a] ∧ okO a ∧ tx o = [98] ++ Lib.itoa o.n ++ [40] ++ tx a ++ [41] := by
  obtain ⟨k, n, ks⟩ := o
  simp only [Ord.kind] at h1 h2 h3
  rcases okO_cases h with ⟨h, _⟩ | ⟨h, _⟩ | ⟨_, a, rfl, ha⟩
  · omega
  · omega
  · exact ⟨a, rfl, rfl, ha, by simp [tx, h1, h2, h3, Ord.n]⟩
theorem tx_one {o : Ord} (h : o.kind = 1) : tx o = 100 :: Lib.itoa o.n := by
  obtain ⟨k, n, ks⟩ := o
  simp only [Ord.kind] at h
  unfold tx
  rw [if_pos h]; rfl
theorem tx_two {o : Ord} (h1 : ¬ o.kind = 1) (h : o.kind = 2) : tx o = 102 :: Lib.itoa o.n := by
  obtain ⟨k, n, ks⟩ := o
  simp only [Ord.kind] at h h1
  unfold tx
  rw [if_neg h1, if_pos h]; rfl
end Go.Tm
namespace Go.Proofs
open Go.Shelf
def Tryz.lays283_ren : Go.Shelf.Ren := ⟨fun | 283 => 286 | n => n, fun | 3 => 3 | 9 => 9 | 4 => 4 | n => n, fun | n => n⟩
theorem Tryz.lays283 : Go.Proofs.Lays.n283 Tryz.prog Tryz.lays283_ren := {
  mixed := by kernel_rfl
  f283 := Tryz.func286.trans (congrArg some (by kernel_rfl))
  t3 := Tryz.underlying3
  a3 := Tryz.isAgg3
  z3 := Tryz.sizeOf3
  v3 := Tryz.zeroValue3
  t4 := Tryz.underlying4
  a4 := Tryz.isAgg4
  z4 := Tryz.sizeOf4
  v4 := Tryz.zeroValue4
  t9 := Tryz.underlying9
  a9 := Tryz.isAgg9
  z9 := Tryz.sizeOf9
  v9 := Tryz.zeroValue9 }
open Go.Lib in
theorem Tryz.internal_strconv_small (i : Nat) (h : i < 100) (w : World) :
    Calls Tryz.prog 286 #[.int .i64 i] w fun e w' => e = .returned (.string ⟨(Lib.decDigits i).toArray⟩) ∧ w' = w := Any.internal_strconv_small Tryz.lays283 i h w
def Tryz.laysM284_ren : Go.Shelf.Ren := ⟨fun | 284 => 287 | 129 => 300 | 317 => 299 | 318 => 301 | n => n, fun | 53 => 74 | 3 => 3 | 212 => 314 | 0 => 0 | 4 => 4 | 46 => 44 | 5 => 5 | 9 => 9 | n => n, fun | 17 => 21 | n => n⟩
theorem Tryz.laysM284 : Go.Proofs.LaysM.n284 Tryz.prog Tryz.laysM284_ren := {
  mixed := by kernel_rfl
  f129 := Tryz.func300.trans (congrArg some (by kernel_rfl))
  f284 := Tryz.func287.trans (congrArg some (by kernel_rfl))
  f317 := Tryz.func299.trans (congrArg some (by kernel_rfl))
  f318 := Tryz.func301.trans (congrArg some (by kernel_rfl))
  t0 := Tryz.underlying0
  a0 := Tryz.isAgg0
  z0 := Tryz.sizeOf0
  v0 := Tryz.zeroValue0
  t3 := Tryz.underlying3
  a3 := Tryz.isAgg3
  z3 := Tryz.sizeOf3
  v3 := Tryz.zeroValue3
  t4 := Tryz.underlying4
  a4 := Tryz.isAgg4
  z4 := Tryz.sizeOf4
  v4 := Tryz.zeroValue4
  t5 := Tryz.underlying5
  a5 := Tryz.isAgg5
  z5 := Tryz.sizeOf5
  v5 := Tryz.zeroValue5
  t9 := Tryz.underlying9
  a9 := Tryz.isAgg9
  z9 := Tryz.sizeOf9
  v9 := Tryz.zeroValue9
  t46 := Tryz.underlying44
  a46 := Tryz.isAgg44
  z46 := Tryz.sizeOf44
  v46 := Tryz.zeroValue44
  t53 := Tryz.underlying74
  a53 := Tryz.isAgg74
  z53 := Tryz.sizeOf74
  v53 := Tryz.zeroValue74
  t212 := Tryz.underlying314
  a212 := Tryz.isAgg314
  z212 := Tryz.sizeOf314
  v212 := Tryz.zeroValue314
  g17 := by kernel_rfl
  i0 := by kernel_rfl
  i3 := by kernel_rfl
  i4 := by kernel_rfl
  i5 := by kernel_rfl
  i9 := by kernel_rfl
  i46 := by kernel_rfl
  i53 := by kernel_rfl
  i212 := by kernel_rfl
  m17 := by kernel_rfl }
open Go.Lib in
theorem Tryz.internal_strconv_numDigits (u : Nat) (h1 : 1 ≤ u) (h2 : u < 18446744073709551616) (w : World) (htab : Lib.TabIs Tryz.prog w "internal/strconv.uint64pow10" .u64 Lib.pow10Tab) :
    Calls Tryz.prog 287 #[.int .u64 u] w fun e w' => e = .returned (.int .i64 (Lib.nDigits u)) ∧ w' = w := Any.internal_strconv_numDigits Tryz.laysM284 u h1 h2 w htab
def Tryz.lays285_ren : Go.Shelf.Ren := ⟨fun | 285 => 288 | n => n, fun | 37 => 172 | 53 => 74 | 3 => 3 | 4 => 4 | 51 => 315 | 9 => 9 | 5 => 5 | 0 => 0 | n => n, fun | n => n⟩
theorem Tryz.lays285 : Go.Proofs.Lays.n285 Tryz.prog Tryz.lays285_ren := {
  mixed := by kernel_rfl
  f285 := Tryz.func288.trans (congrArg some (by kernel_rfl))
  t0 := Tryz.underlying0
  a0 := Tryz.isAgg0
  z0 := Tryz.sizeOf0
  v0 := Tryz.zeroValue0
  t3 := Tryz.underlying3
  a3 := Tryz.isAgg3
  z3 := Tryz.sizeOf3
  v3 := Tryz.zeroValue3
  t4 := Tryz.underlying4
  a4 := Tryz.isAgg4
  z4 := Tryz.sizeOf4
  v4 := Tryz.zeroValue4
  t5 := Tryz.underlying5
  a5 := Tryz.isAgg5
  z5 := Tryz.sizeOf5
  v5 := Tryz.zeroValue5
  t9 := Tryz.underlying9
  a9 := Tryz.isAgg9
  z9 := Tryz.sizeOf9
  v9 := Tryz.zeroValue9
  t37 := Tryz.underlying172
  a37 := Tryz.isAgg172
  z37 := Tryz.sizeOf172
  v37 := Tryz.zeroValue172
  t51 := Tryz.underlying315
  a51 := Tryz.isAgg315
  z51 := Tryz.sizeOf315
  v51 := Tryz.zeroValue315
  t53 := Tryz.underlying74
  a53 := Tryz.isAgg74
  z53 := Tryz.sizeOf74
  v53 := Tryz.zeroValue74 }
open Go.RowKit Go.Sort Go.Lib in
theorem Tryz.internal_strconv_formatBase10 (blk off cap : Nat) (u : Nat) (d : Array UInt8) (w : World) (hH : Holds (fun (b : UInt8) => Value.int .u8 (b.toNat : Int)) w blk off d) (hu : u < 10 ^ d.size) (hu64 : u < 18446744073709551616) (hsz : d.size < 4611686018427387904) :
    Calls Tryz.prog 288 #[.slice (some ⟨blk, off, none⟩) d.size cap, .int .u64 u] w fun e w' =>
      e = .returned (.tuple #[]) ∧ ∃ (n v' : Nat) (dk : Array UInt8), w' = (putRow (fun (b : UInt8) => Value.int .u8 (b.toNat : Int)) w blk off dk).drewN n ∧ FmtInv d.size u 0 v' dk := Any.internal_strconv_formatBase10 Tryz.lays285 blk off cap u d w hH hu hu64 hsz
end Go.Proofs
namespace Go.Tm
set_option maxRecDepth 100000
open Go.RowKit Go.Proofs
theorem slice_cast {A : Option Addr} {l l' c : Nat} (h : l = l') : Value.slice A l c = Value.slice A l' c := by rw [h]
theorem Ow.cast {w : World} {r : Nat} {e : TypeId} {sz : Nat} {A : Option Addr} {l l' c : Nat} {cs cs' : List Value} (h : Ow w r e sz A l c cs) (hl : l = l') (hc : cs = cs') : Ow w r e sz A l' c cs' := by
  subst hl hc
  exact h
theorem fmt10 (p u : Nat) (w : World) (hb : Bk w p Lib.zeros24 298) (hu : 100 ≤ u) (hu64 : u < 18446744073709551616) :
    Calls Tryz.prog 288 #[.slice (some ⟨p, 0, none⟩) (Lib.nDigits u) 24, .int .u64 u] w (Ret fun v w' => v = .tuple #[] ∧ SlR (Is p) w' (some ⟨p, 0, none⟩) (Lib.nDigits u) 1 (Lib.byteCells (Lib.decDigits u)) ∧ Ch (Is p) w w') := by
  have hnd : Lib.nDigits u ≤ 20 := by have := Lib.numDigits_eq u (by omega) hu64; split at this <;> omega
  have hH : Go.Sort.Holds (fun (b : UInt8) => Value.int .u8 (b.toNat : Int)) w p 0 (Array.replicate (Lib.nDigits u) 0) := by
    intro j hj
    simp only [Array.size_replicate] at hj
    refine ⟨hb.cell ?_, hb.free⟩
    have hj24 : j < 24 := by omega
    show Lib.zeros24[0 + j]? = _
    rw [Nat.zero_add, Lib.zeros24_at j hj24, getElem!_pos _ j (by simpa using hj)]
    simp
  have h := Tryz.internal_strconv_formatBase10 p 0 24 u (Array.replicate (Lib.nDigits u) 0) w hH (by rw [Array.size_replicate]; exact Lib.lt_pow_nDigits u) hu64 (by rw [Array.size_replicate]; omega)
  rw [Array.size_replicate] at h
  refine h.mono ?_
  rintro e w' ⟨rfl, k, v', dk, rfl, hF⟩
  refine ⟨_, rfl, rfl, ⟨?_, fun _ => ⟨_, rfl⟩, ?_, ?_⟩, ?_⟩
  · rw [Lib.byteCells_length, Lib.decDigits_length, Nat.mul_one]
  · intro ad had j u' hj
    injection had with had
    subst had
    have hjl : j < (Lib.decDigits u).length := by
      have h5 := (List.getElem?_eq_some_iff.1 hj).1
      rwa [Lib.byteCells_length] at h5
    have e5 : (Lib.byteCells (Lib.decDigits u))[j]? = some (Value.int .u8 ((Lib.decDigits u)[j].toNat : Int)) := by simp [Lib.byteCells, hjl]
    rw [e5] at hj
    cases hj
    rw [Lib.row_is_numeral hF j hjl, Lib.add_plain, World.cell?_drewN]
    exact Go.Sort.cell?_putRow (fun (b : UInt8) => Value.int .u8 (b.toNat : Int)) _ p 0 _ dk hH (by rw [hF.size, Array.size_replicate]) j (by rw [hF.size]; rw [Lib.decDigits_length] at hjl; exact hjl)
  · intro ad had
    injection had with had
    subst had
    rfl
  · refine ⟨rfl, rfl, rfl, by simp [Go.Sort.putRow, Go.Sort.mapBlock, World.drewN], fun q x hq hx => ?_⟩
    have hq : ¬ p = q := fun e => hq e.symm
    simp [Go.Sort.putRow, Go.Sort.mapBlock, World.drewN, Array.getElem?_modify, hq, hx]
theorem Rn.sliceArr {P : Program} {n : Fr} {k : K} {w : World} {d : Option Nat} {ty : TypeId} {pos : String} {aft : Array Edge} {g : Option (Nat × Bool)} {t e : TypeId} {m sz : Nat} {x y : Operand} {ad : Addr} {q : IntKind} {h : Int} (ht : P.underlying t = some (.array m e)) (hz : ∀ w, (sizeOf e).run P w = .ok sz w)
    (hx : ev k x = some (.pointer (some ad))) (hy : ev k y = some (.int q h)) (h0 : 0 ≤ h) (h1 : h ≤ m) (hm : m ≠ 0) :
    Rn P n k w { dst := d, op := .slice t x none (some y) none, type := ty, pos := pos, after := aft, guard := g } (.slice (some (ad.add 0)) h.toNat m) :=
  fun a ha => by
    have hal : P.arrayLen t = m := by simp [Program.arrayLen, ht]
    have hel : P.elem t = e := by simp [Program.elem, ht]
    have hr := run_sliceAt_array_h w t ad (by rw [ht, hal, hel]) q h h0 (by rw [hal]; exact h1)
    rw [hal, hel, hz] at hr
    simp [execOp, ha.eval hx, ha.eval hy, hr, slicedAt, Result.andThen, hm]
def TabB (B : Nat) (w : World) : Prop := Lib.TabIs Tryz.prog w "internal/strconv.uint64pow10" .u64 Lib.pow10Tab ∧ ∀ g, Tryz.prog.globalNamed "internal/strconv.uint64pow10" = some g → g < B
theorem TabB.to {B : Nat} {D : Nat → Prop} {w w' : World} (h : TabB B w) (c : Ch D w w') (hd : ∀ q, q < w.heap.size → q < B → isC w q → ¬ D q := by first | exact fun _ _ _ _ => id | (intro q h1 h2 hx h3; omega)) : TabB B w' := by
  obtain ⟨h, hB⟩ := h
  refine ⟨?_, hB⟩
  unfold Lib.TabIs World.var? at *
  cases hg : Tryz.prog.globalNamed "internal/strconv.uint64pow10" with
  | none => simp [hg] at h
  | some g =>
    simp only [hg, Option.bind_some] at h ⊢
    cases hx : w.heap[g]? with
    | none => rw [hx] at h; simp at h
    | some x =>
      rw [hx] at h
      have hc : isC w g := by
        cases x <;> simp at h
        exact ⟨_, _, _, hx⟩
      rw [c.old _ _ (hd g (blk_lt hx) (hB g hg) hc) hx]
      exact h
theorem TabB.up {B B2 : Nat} {w : World} (h : TabB B w) (hB : B ≤ B2) : TabB B2 w := ⟨h.1, fun g hg => Nat.lt_of_lt_of_le (h.2 g hg) hB⟩
theorem TabB.keep {B : Nat} {w w' : World} (h : TabB B w) (c : Ch No w w') : TabB B w' := h.to c fun _ _ _ _ => id
theorem small10 (u : Nat) (h : u < 100) (w : World) : Calls Tryz.prog 286 #[.int .i64 u] w (Ret fun v w' => v = .string ⟨(Lib.decDigits u).toArray⟩ ∧ w = w') := by
  refine (Tryz.internal_strconv_small u h w).mono ?_
  rintro e w' ⟨rfl, rfl⟩
  exact ⟨_, rfl, rfl, rfl⟩
theorem digits10 (B u : Nat) (h1 : 1 ≤ u) (h2 : u < 18446744073709551616) (w : World) (h : TabB B w) : Calls Tryz.prog 287 #[.int .u64 u] w (Ret fun v w' => v = .int .i64 (Lib.nDigits u) ∧ w = w') := by
  refine (Tryz.internal_strconv_numDigits u h1 h2 w h.1).mono ?_
  rintro e w' ⟨rfl, rfl⟩
  exact ⟨_, rfl, rfl, rfl⟩
theorem nd20 {u : Nat} (hu : u < 18446744073709551616) : Lib.nDigits u ≤ 20 := by
  by_cases h : u = 0
  · subst h; rw [Lib.nDigits]; simp
  · have := Lib.numDigits_eq u (by omega) hu
    split at this <;> omega
theorem bytes_one (l : List UInt8) : (Lib.byteCells l).all Value.oneCell' = true := by
  simp [Lib.byteCells, Value.oneCell']
theorem inf5w10 : Inf Tryz.prog 5 (.int .u8 0) 1 1 := ⟨Tryz.t5, Tryz.type5, rfl, rfl, rfl⟩
theorem appendUint (Bd u r : Nat) (A : Option Addr) (l c : Nat) (cs : List Value) (w : World) (hu : u < 18446744073709551616) (row : Ow w r 5 1 A l c cs) (hr : r = 0 ∨ Bd < r) (hB : Bd ≤ w.heap.size) (hl : l + 21 ≤ 1000000) (tab : TabB Bd w) :
  Calls Tryz.prog 258 #[.slice A l c, .int .u64 u, .int .i64 10] w (Ret (fun v w' => ∃ r' A' c', v = .slice A' (l + (Lib.decDigits u).length) c' ∧ Ow w' r' 5 1 A' (l + (Lib.decDigits u).length) c' (cs ++ Lib.byteCells (Lib.decDigits u)) ∧ Ch (At r) w w' ∧ (r' = r ∨ w.heap.size < r'))) := by
 refine calls_of_VC (args := [.slice A l c, .int .u64 u, .int .i64 10]) Tryz.func258 rfl Tryz.ntmps258 rfl ?_
 have hd20 := nd20 hu
 have hdl : (Lib.decDigits u).length = Lib.nDigits u := Lib.decDigits_length u; have yr := row.lt
 refine Qe (Qb (Om (Qd rfl) rfl (Qf (Qa (Qe (Qe (Qb ?_)))))))
 refine Om (Qc rfl) rfl (Om (Cm rfl rfl) rfl (Qf (Qa (Qj rfl (fun hc1 => ?_) (fun hc1 => ?_)))))
 ·
  refine Qe (Qe (Qb (Om (Qc rfl) rfl (Om (Cs rfl rfl) rfl (Qf (Qa (Qj rfl (fun hc2 => ?_) (fun hc2 => ?_))))))))
  ·
   refine Qe (Qb (Om (Qc rfl) rfl (Om (Qc rfl) rfl ?_)))
   refine Om (Rn.conv_in υ74 υ3 rfl (by rw [IntKind.wrap_i64]; omega)) rfl ?_
   refine Oq (Qi Tryz.call286 rfl (small10 _ (by omega) _)) rfl ?_
   rintro _ _ ⟨rfl, rfl⟩
   refine Oq (Wk.appendX υ172 υ9 inf5w10 rfl rfl row (by rw [show ByteArray.size ⟨(Lib.decDigits u).toArray⟩ = (Lib.decDigits u).length from rfl]; omega)) rfl ?_
   rintro _ w1 ⟨r1, A1, k1, rfl, o1, c1, q1⟩
   have z1 := c1.size
   have y1 := o1.lt
   refine Om (Qd rfl) rfl (Qf (Qa (Qp (Qu (Qu (Qy rfl rfl (Ret.mk ?_)))))))
   have CH_1 : Ch (At r) w w1 := (Ch.refl (At r) w).then c1
   exact ⟨_, _, _, rfl, o1, CH_1, by omega⟩
  ·
   refine Qn (Qa (Qe (Qb (Oq (Cc Tryz.zeroValue298) rfl ?_))))
   rintro _ w2 ⟨p2, rfl, N2⟩
   have c2 := N2.ch
   have e2 := N2.p; have z2 := N2.size
   have b7 := Bk.new N2
   refine Qf (Qa (Qe (Qb (Om (Qc rfl) rfl ?_))))
   have tab_2 := tab.keep c2
   refine Oq (Qi Tryz.call287 rfl (digits10 Bd _ (by omega) (by omega) _ tab_2)) rfl ?_
   rintro _ _ ⟨rfl, rfl⟩
   refine Om (Qd rfl) rfl (Qf (Qa (Qe (Qb (Om (Qc rfl) rfl (Om (Rn.sliceArr Tryz.underlying298 ς5 rfl rfl (by omega) (by omega) (by decide)) rfl (Om (Qc rfl) rfl ?_)))))))
   refine Oq (Qi Tryz.call288 rfl (fmt10 _ _ _ b7 (by omega) (by omega))) rfl ?_
   rintro _ w3 ⟨rfl, dg3, c3⟩
   have z3 := c3.size
   refine Qf (Qa (Qe (Qb (Om (Qc rfl) rfl (Om (Qc rfl) rfl (Om (Rn.sliceArr Tryz.underlying298 ς5 rfl rfl (by omega) (by omega) (by decide)) rfl ?_))))))
   have row_2 := row.keep c2
   have row_3 := row_2.to c3
   refine Oq (Cq (S := _) υ172 inf5w10 rfl (by decide) rfl rfl row_3 dg3 (bytes_one _) (fun h => by have := Lib.nDigits_pos u; omega) (by omega) (by simp only [maxLen]; omega)) rfl ?_
   rintro _ w4 ⟨r4, A4, k4, rfl, o4, c4, q4⟩
   have z4 := c4.size
   have y4 := o4.lt
   refine Om (Qd rfl) rfl (Qf (Qa (Qp (Qu (Qy rfl rfl (Ret.mk ?_))))))
   rw [hdl]
   have CH_2 := (Ch.refl (At r) w).and c2
   have CH_3 : Ch (At r) w w3 := CH_2.then c3
   have CH_4 : Ch (At r) w w4 := CH_3.then c4
   exact ⟨_, _, _, rfl, o4, CH_4, by omega⟩
 ·
  exact absurd rfl hc1
theorem appendInt1 (Bd u r : Nat) (A : Option Addr) (l c : Nat) (cs : List Value) (w : World) (hu : u < 9223372036854775808) (row : Ow w r 5 1 A l c cs) (hr : r = 0 ∨ Bd < r) (hB : Bd ≤ w.heap.size) (hl : l + 21 ≤ 1000000) (tab : TabB Bd w) :
  Calls Tryz.prog 221 #[.slice A l c, .int .i64 u, .int .i64 10] w (Ret (fun v w' => ∃ r' A' c', v = .slice A' (l + (Lib.decDigits u).length) c' ∧ Ow w' r' 5 1 A' (l + (Lib.decDigits u).length) c' (cs ++ Lib.byteCells (Lib.decDigits u)) ∧ Ch (At r) w w' ∧ (r' = r ∨ w.heap.size < r'))) := by
 refine calls_of_VC (args := [.slice A l c, .int .i64 u, .int .i64 10]) Tryz.func221 rfl Tryz.ntmps221 rfl (Qe (Qb (Om (Qd rfl) rfl (Qf (Qa (Qe (Qb ?_)))))))
 refine Om (Qc rfl) rfl ?_
 refine Om (Rn.conv_in Tryz.underlying2 υ74 rfl (by rw [IntKind.wrap_u64]; omega)) rfl ?_
 refine Om (Qd rfl) rfl (Qf (Qa (Qe (Qe (Qb (Om (Qc rfl) rfl (Om (Cs rfl rfl) rfl ?_)))))))
 refine Qf (Qa (Qj rfl (fun hc1 => ?_) (fun hc1 => ?_)))
 ·
  omega
 ·
  refine Qn (Qa (Qe (Qb (Om (Qc rfl) rfl (Om (Qc rfl) rfl (Om (Qc rfl) rfl (Oq (Qi Tryz.call258 rfl (appendUint Bd u _ _ _ _ _ _ (by omega) row (by omega) (by omega) (by omega) tab)) rfl ?_)))))))
  rintro _ w1 ⟨r1, A1, k1, rfl, o1, c1, q1⟩
  have z1 := c1.size
  refine Om (Qd rfl) rfl (Qf (Qa (Qp (Qy rfl rfl (Ret.mk ?_)))))
  have CH_1 : Ch (At r) w w1 := (Ch.refl (At r) w).then c1
  exact ⟨_, _, _, rfl, o1, CH_1, by omega⟩
theorem appendInt (Bd u r : Nat) (A : Option Addr) (l c : Nat) (cs : List Value) (w : World) (hu : u < 9223372036854775808) (row : Ow w r 5 1 A l c cs) (hr : r = 0 ∨ Bd < r) (hB : Bd ≤ w.heap.size) (hl : l + 21 ≤ 1000000) (tab : TabB Bd w) :
  Calls Tryz.prog 171 #[.slice A l c, .int .i64 u, .int .i64 10] w (Ret (fun v w' => ∃ r' A' c', v = .slice A' (l + (Lib.decDigits u).length) c' ∧ Ow w' r' 5 1 A' (l + (Lib.decDigits u).length) c' (cs ++ Lib.byteCells (Lib.decDigits u)) ∧ Ch (At r) w w' ∧ (r' = r ∨ w.heap.size < r'))) := by
 refine calls_of_VC (args := [.slice A l c, .int .i64 u, .int .i64 10]) Tryz.func171 rfl Tryz.ntmps171 rfl (Qe (Qb (Om (Qd rfl) rfl (Qf (Qa (Qe (Qb ?_)))))))
 refine Om (Qc rfl) rfl (Om (Qc rfl) rfl (Om (Qc rfl) rfl (Oq (Qi Tryz.call221 rfl (appendInt1 Bd u _ _ _ _ _ _ (by omega) row (by omega) (by omega) (by omega) tab)) rfl ?_)))
 rintro _ w1 ⟨r1, A1, k1, rfl, o1, c1, q1⟩
 have z1 := c1.size
 refine Om (Qd rfl) rfl (Qf (Qa (Qp (Qy rfl rfl (Ret.mk ?_)))))
 have CH_1 : Ch (At r) w w1 := (Ch.refl (At r) w).then c1
 exact ⟨_, _, _, rfl, o1, CH_1, by omega⟩
end Go.Tm
