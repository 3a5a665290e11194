/- Lemmas of this claim, joined by program. Rules of a small calculus over the model's own wp: what is known of a frame is a list of slots with their values; each operation has one rule. The operations' rules: what an operation gives where its operands are known. 'Rn': the world stays; 'Wk': it may change. What is known of memory, step by step: new blocks, stores, calls that make memory. Slices: what they read as; rows that the call itself owns; append, make, literals, reslicing. Orders of work as data, and how a slice of them lies in memory. Struct values out of parts. Plain facts about numbers. Orders: their length, in plain Lean. Walks of functions: orders. Conditions: each lemma names its own. -/
import Derived.WalkKit
import Derived.WalkSpells
import Derived.WalkLawsBesides
import Derived.Deep.LoopGhost
import Derived.Sort.LoopGhostIn
import Derived.ControlIn
import Derived.OrdersIn
import Derived.Deep.Quiet
import Derived.StillTail
import Derived.Deep.RegionHeld3
import Derived.Laws.MakeOwn
import Derived.Laws.CopyOwn
import Derived.Great.BuildSlice
import Derived.Lib.Hide
import Derived.Test.YtpfglkohcfjelaaGreatDoorProg
set_option linter.all false
namespace Go.Tm
open Go.RowKit
abbrev K := List (Nat × Value)
def kget : K → Nat → Option Value
 | [], _ => none
 | (j, v) :: r, i => match Nat.beq j i with
  | true => some v
  | false => kget r i
def ev (k : K) : Operand → Option Value
 | .tmp t => kget k t
 | .const v => some v
 | .global g => some (.pointer (some ⟨g, 0, none⟩))
 | .func f => some (.func (.func f) #[] #[])
structure Fr where
  sz : Nat
  ds : List Deferred
structure Fits (n : Fr) (k : K) (a : Act) : Prop where
  defers : a.defers = n.ds
  size : a.tmps.size = n.sz
  known : ∀ i v, kget k i = some v → a.tmps[i]? = some v
theorem Fits.eval {n : Fr} {k : K} {a : Act} (h : Fits n k a) {x : Operand} {v : Value} (hx : ev k x = some v) : a.eval x = v := by
 cases x with
 | tmp t => simp only [ev] at hx; have := h.known t v hx; simp [Act.eval, this]
 | const u => simp only [ev, Option.some.injEq] at hx; exact hx
 | global g => simp only [ev, Option.some.injEq] at hx; exact hx
 | func f => simp only [ev, Option.some.injEq] at hx; exact hx
theorem kget_cons_ne {k : K} {d i : Nat} {v : Value} (h : d ≠ i) : kget ((d, v) :: k) i = kget k i := by
 have : Nat.beq d i = false := by cases hb : Nat.beq d i with
  | false => rfl
  | true => exact absurd (Nat.eq_of_beq_eq_true hb) h
 simp [kget, this]
theorem kget_cons_eq {k : K} {d : Nat} {v : Value} : kget ((d, v) :: k) d = some v := by
 simp [kget]
theorem Fits.put {n : Fr} {k : K} {a : Act} (h : Fits n k a) {d : Nat} (hd : Nat.blt d n.sz = true) (v : Value) : Fits n ((d, v) :: k) (a.put (some d) v) := by
 have hdn : d < n.sz := by simpa [Nat.blt_eq] using hd
 refine ⟨h.defers, by simp [Act.put, h.size], fun i u hi => ?_⟩
 simp only [Act.put]
 by_cases e : d = i
 ·
  subst e
  rw [kget_cons_eq] at hi
  injection hi with hi
  subst hi
  simp [h.size, hdn]
 ·
  rw [kget_cons_ne e] at hi
  have := h.known i u hi
  rw [Array.getElem?_setIfInBounds_ne e]
  exact this
def kall (k : K) : K → Prop
 | [] => True
 | (i, v) :: r => kget k i = some v ∧ kall k r
theorem Fits.less {n : Fr} {k k' : K} {a : Act} (h : Fits n k a) (hk : kall k k') : Fits n k' a := by
 refine ⟨h.defers, h.size, ?_⟩
 induction k' with
 | nil => intro i v hi; simp [kget] at hi
 | cons p r ih =>
  obtain ⟨j, u⟩ := p
  intro i v hi
  by_cases e : j = i
  ·
   subst e
   rw [kget_cons_eq] at hi
   injection hi with hi
   subst hi
   exact h.known _ _ hk.1
  ·
   rw [kget_cons_ne e] at hi
   exact ih hk.2 i v hi
def evs (k : K) : List Operand → Option (List Value)
 | [] => some []
 | x :: r => match ev k x with
  | none => none
  | some v => match evs k r with
   | none => none
   | some l => some (v :: l)
theorem Fits.evals {n : Fr} {k : K} {a : Act} (h : Fits n k a) : ∀ {xs : List Operand} {vs : List Value}, evs k xs = some vs → xs.map a.eval = vs
 | [], _, hx => by simp only [evs, Option.some.injEq] at hx; subst hx; rfl
 | x :: r, vs, hx => by
  simp only [evs] at hx
  split at hx
  · cases hx
  ·
   rename_i v hv
   split at hx
   · cases hx
   ·
    rename_i l hl
    injection hx with hx
    subst hx
    simp [h.eval hv, h.evals hl]
def Fw (r : Option Nat) : Fence := { Fence.wide with round := r }
theorem wpIn_none {P : Program} {c : Code} {Q : Exit → Act → World → Prop} {a : Act} {w : World} : c.wpIn (Fw none) 0 P Q a w ↔ c.wp P Q a w := wpIn_wide
section
variable {r : Option Nat} {P : Program} {n : Fr} {ops : Array Oper} {Q : Exit → Act → World → Prop} {k : K} {w : World} {rest : List Oper} {o : Oper}
def VC {r : Option Nat} (P : Program) (n : Fr) (c : Code) (Q : Exit → Act → World → Prop) (k : K) (w : World) : Prop := ∀ a, Fits n k a → c.wpIn (Fw r) 0 P Q a w
def VO (P : Program) (n : Fr) (ops : Array Oper) (Q : Exit → Act → World → Prop) (l : List Oper) (k : K) (w : World) : Prop := ∀ a, Fits n k a → wpList P ops Q l a w
def VQ (n : Fr) (Q : Exit → Act → World → Prop) (e : Exit) (k : K) (w : World) : Prop := ∀ a, Fits n k a → Q e a w
theorem Qe {x y : Code} (h : VC (r := r) P n x (Exit.then (y.wpIn (Fw r) 0 P Q) Q) k w) : VC (r := r) P n (.seq x y) Q k w := fun a ha => wpIn_seq (h a ha)
theorem Qn (h : VQ n Q .normal k w) : VC (r := r) P n .skip Q k w := fun a ha => wpIn_skip (h a ha)
theorem Qp (h : VQ n Q .ret k w) : VC (r := r) P n .ret Q k w := fun a ha => wpIn_ret (h a ha)
theorem Cn {id : Nat} (h : VQ n Q (.exit id) k w) : VC (r := r) P n (.exit id) Q k w := fun a ha => wpIn_exit (h a ha)
theorem Qt {id : Nat} {c : Code} (h : VC (r := r) P n c (Exit.inBlock id Q) k w) : VC (r := r) P n (.block id c) Q k w := fun a ha => wpIn_block (h a ha)
theorem Cq {c : Operand} {x y : Code} {b : Bool} (hb : ev k c = some (.bool b)) (ht : b = true → VC (r := r) P n x Q k w) (he : b = false → VC (r := r) P n y Q k w) : VC (r := r) P n (.cond c x y) Q k w :=
 fun a ha => wpIn_cond_split (ha.eval hb) (fun h => ht h a ha) (fun h => he h a ha)
theorem Qj {c : Operand} {x y : Code} {p : Prop} [Decidable p] (hb : ev k c = some (.bool (decide p))) (ht : p → VC (r := r) P n x Q k w) (he : ¬ p → VC (r := r) P n y Q k w) : VC (r := r) P n (.cond c x y) Q k w :=
 Cq hb (fun h => ht (of_decide_eq_true h)) (fun h => he (of_decide_eq_false h))
theorem Rd {c : Operand} {x y : Code} (hb : ev k c = some (.bool true)) (h : VC (r := r) P n x Q k w) : VC (r := r) P n (.cond c x y) Q k w :=
 Cq hb (fun _ => h) (fun e => by cases e)
theorem Cc {c : Operand} {x y : Code} (hb : ev k c = some (.bool false)) (h : VC (r := r) P n y Q k w) : VC (r := r) P n (.cond c x y) Q k w :=
 Cq hb (fun e => by cases e) (fun _ => h)
theorem Qb {id : Nat} {l : List Oper} (h : VO P n l.toArray Q l k w) : VC (r := none) P n (.region id l.toArray false) Q k w := fun a ha => wpIn_none.2 (wp_region_lit (h a ha))
theorem VC.loop {c : Code} (I : Nat → Act → World → Prop) (m : Nat) (h0 : ∀ a, Fits n k a → I m a w)
  (round : ∀ m a w, I m a w → c.wpIn (Fw r) 0 P (Exit.then (fun a' w' => ∃ m', m' < m ∧ I m' a' w') Q) a w) : VC (r := r) P n (.loop c) Q k w :=
 fun a ha => wpIn_loop_ghost I m (h0 a ha) round
def LoopPost (n : Fr) {σ : Type} (kf : σ → K) (J : σ → World → Prop) (m : σ → Nat) (s : σ) (a' : Act) (w' : World) : Prop := ∃ s', m s' < m s ∧ J s' w' ∧ Fits n (kf s') a'
theorem Ci {c : Code} {σ : Type} (kf : σ → K) (J : σ → World → Prop) (m : σ → Nat) (s : σ) (hJ : J s w) (hk : kall k (kf s))
  (round : ∀ s w, J s w → VC (r := r) P n c (Exit.then (LoopPost n kf J m s) Q) (kf s) w) : VC (r := r) P n (.loop c) Q k w := by
 refine VC.loop (fun i a w => ∃ s, m s = i ∧ J s w ∧ Fits n (kf s) a) (m s) (fun a ha => ⟨s, rfl, hJ, ha.less hk⟩) ?_
 rintro i a w ⟨s, rfl, hJ, hf⟩
 refine wpIn_mono (round s w hJ a hf) ?_
 intro e a' w' hq
 cases e <;> first | exact hq | skip
 obtain ⟨s', h1, h2, h3⟩ := hq
 exact ⟨m s', h1, s', rfl, h2, h3⟩
theorem Ce {σ : Type} {kf : σ → K} {J : σ → World → Prop} {m : σ → Nat} {s : σ} (s' : σ) (hm : m s' < m s) (hJ : J s' w) (hk : kall k (kf s')) :
  VQ n (Exit.then (LoopPost n kf J m s) Q) .normal k w := fun _ ha => ⟨s', hm, hJ, ha.less hk⟩
theorem Qf (h : VQ n Q .normal k w) : VO P n ops Q [] k w := fun a ha => wpList_nil (h a ha)
theorem Qa {y : Code} (h : VC (r := r) P n y Q k w) : VQ n (Exit.then (y.wpIn (Fw r) 0 P Q) Q) .normal k w := h
theorem Qw {F : Act → World → Prop} (h : VQ n Q .ret k w) : VQ n (Exit.then F Q) .ret k w := h
theorem Qk {F : Act → World → Prop} {id : Nat} (h : VQ n Q (.exit id) k w) : VQ n (Exit.then F Q) (.exit id) k w := h
theorem Ql {id : Nat} (h : VQ n Q .normal k w) : VQ n (Exit.inBlock id Q) .normal k w := h
theorem Cb {id : Nat} (h : VQ n Q .ret k w) : VQ n (Exit.inBlock id Q) .ret k w := h
theorem Qy {id : Nat} (h : VQ n Q .normal k w) : VQ n (Exit.inBlock id Q) (.exit id) k w := fun a ha => by simp only [Exit.inBlock, if_true]; exact h a ha
theorem VQ.post {fn : Func} {R : Ending → World → Prop} {v : Value} (hn : n.ds = []) (hr : ∀ a : Act, Fits n k a → (results fn a.tmps).run P w = .ok v w) (hR : R (.returned v) w) : VQ n (bodyPost P fn R) .ret k w :=
 fun a ha => bodyPost_ret (hr a ha) (ha.defers.trans hn) hR
theorem Qx {m : Nat} {fn : Func} {R : Ending → World → Prop} {t : Nat} {v : Value} (hf : fn.results = #[.tmp t]) (hv : kget k t = some v) (hR : R (.returned v) w) : VQ ⟨m, []⟩ (bodyPost P fn R) .ret k w :=
 VQ.post rfl (fun a ha => by rw [results_tmp hf]; have := ha.known t v hv; simp [this]) hR
theorem Ra {m : Nat} {fn : Func} {R : Ending → World → Prop} {t u : Nat} {v v' : Value} (hf : fn.results = #[.tmp t, .tmp u]) (hv : kget k t = some v) (hv' : kget k u = some v') (hR : R (.returned (.tuple #[v, v'])) w) : VQ ⟨m, []⟩ (bodyPost P fn R) .ret k w :=
 VQ.post rfl (fun a ha => by rw [results_tmp2 hf]; have := ha.known t v hv; have := ha.known u v' hv'; simp [*]) hR
theorem Rp {m : Nat} {fn : Func} {R : Ending → World → Prop} (hf : fn.results = #[]) (hR : R (.returned (.tuple #[])) w) : VQ ⟨m, []⟩ (bodyPost P fn R) .normal k w :=
 fun _ ha => bodyPost_end (results_none hf _ _ _) ha.defers hR
theorem VQ.ret0 {m : Nat} {fn : Func} {R : Ending → World → Prop} (hf : fn.results = #[]) (hR : R (.returned (.tuple #[])) w) : VQ ⟨m, []⟩ (bodyPost P fn R) .ret k w :=
 fun _ ha => bodyPost_ret (results_none hf _ _ _) ha.defers hR
def kargs : List Value → Nat → K
 | [], _ => []
 | v :: r, i => (i, v) :: kargs r (i + 1)
theorem kargs_known (l : List Value) : ∀ (m i : Nat) (v : Value), kget (kargs l m) i = some v → m ≤ i ∧ l[i - m]? = some v := by
 induction l with
 | nil => intro m i v h; simp [kargs, kget] at h
 | cons u r ih =>
  intro m i v h
  by_cases e : m = i
  ·
   subst e
   rw [kargs, kget_cons_eq] at h
   injection h with h
   subst h
   simp
  ·
   rw [kargs, kget_cons_ne e] at h
   obtain ⟨h1, h2⟩ := ih _ _ _ h
   refine ⟨by omega, ?_⟩
   obtain ⟨d, hd⟩ : ∃ d, i - m = d + 1 := ⟨i - m - 1, by omega⟩
   rw [hd, List.getElem?_cons_succ]
   rw [show i - (m + 1) = d by omega] at h2
   exact h2
theorem Ku {n : Nat} {f : FuncId} {fn : Func} {c : Code} {args : List Value} {R : Ending → World → Prop} (hf : P.funcs[f]? = some fn) (hb : fn.body = some c) (hn : fn.ntmps = n)
  (hlen : Nat.ble args.length n = true) (h : VC (r := none) P ⟨n, []⟩ c (bodyPost P fn R) (kargs args 0) w) : Calls P f args.toArray w R := by
 refine calls_of_wp hf hb (wpIn_none.1 (h _ ?_))
 have hl : args.length ≤ n := Nat.le_of_ble_eq_true hlen
 refine ⟨rfl, by simp [hn]; omega, fun i v hi => ?_⟩
 obtain ⟨_, h2⟩ := kargs_known args 0 i v hi
 rw [Nat.sub_zero] at h2
 have hlt : i < args.length := (List.getElem?_eq_some_iff.1 h2).1
 rw [Array.getElem?_append_left (by simpa using hlt)]
 simpa using h2
def guardOk (ops : Array Oper) (k : K) : Option (Nat × Bool) → Option Bool
 | none => some true
 | some (j, want) => match (ops[j]?).bind (·.dst) with
  | none => none
  | some t => match kget k t with
   | some (.bool b) => some (b == want)
   | _ => none
theorem guardOk_wanted {b : Bool} {a : Act} (hg : guardOk ops k o.guard = some b) (ha : Fits n k a) : Region.wanted o (yielded ops a.tmps) = b := by
 unfold guardOk at hg
 unfold Region.wanted
 split at hg
 · rename_i hn; rw [hn]; injection hg
 ·
  rename_i j want hs
  rw [hs]
  simp only
  split at hg
  · cases hg
  ·
   rename_i t ht
   split at hg
   ·
    rename_i c hc
    have h1 : (ops[j]?).bind (fun x => x.dst) = some t := ht
    have : yielded ops a.tmps j = some c := by
     unfold yielded
     rw [h1]
     simp [ha.known t _ hc]
    rw [this]
    injection hg
   · cases hg
def Rn (P : Program) (n : Fr) (k : K) (w : World) (o : Oper) (v : Value) : Prop := ∀ a, Fits n k a → (execOp a.eval o).run P w = .ok (.value v) w
def Wk (P : Program) (n : Fr) (k : K) (w : World) (o : Oper) (R : Value → World → Prop) : Prop :=
 ∀ a (Q : Exit → Act → World → Prop) (C : Act → World → Prop), Fits n k a → (∀ v w', R v w' → C (a.put o.dst v) w') → o.wp P a w C Q
theorem Rv {R : Value → World → Prop} (h : ∀ a, Fits n k a → ∃ v w', (execOp a.eval o).run P w = .ok (.value v) w' ∧ R v w') : Wk P n k w o R := by
 intro a Q C ha hC
 obtain ⟨v, w', hr, hR⟩ := h a ha
 unfold Oper.wp
 rw [hr, Oper.upon_value]
 exact hC v w' hR
theorem Wk.of_unit {R : Value → World → Prop} (h : ∀ a, Fits n k a → ∃ w', (execOp a.eval o).run P w = .ok .skip w' ∧ R undef w') : Wk P n k w o R := by
 intro a Q C ha hC
 obtain ⟨w', hr, hR⟩ := h a ha
 unfold Oper.wp
 rw [hr, Oper.upon_skip]
 exact hC _ w' hR
theorem Wk.mono {R R' : Value → World → Prop} (h : Wk P n k w o R) (hi : ∀ v w', R v w' → R' v w') : Wk P n k w o R' :=
 fun a Q C ha hC => h a Q C ha fun v w' hR => hC v w' (hi v w' hR)
theorem VO.skip {d : Nat} (hd : o.dst = some d) (hg : guardOk ops k o.guard = some false) (hn : Nat.blt d n.sz = true) (h : VO P n ops Q rest ((d, undef) :: k) w) : VO P n ops Q (o :: rest) k w := by
 intro a ha
 unfold wpList
 rw [guardOk_wanted hg ha]
 simp only [Bool.false_eq_true, if_false]
 rw [hd]
 exact h _ (ha.put hn _)
theorem VO.wk {d : Nat} {R : Value → World → Prop} (hw : Wk P n k w o R) (hd : o.dst = some d) (hg : guardOk ops k o.guard = some true) (hn : Nat.blt d n.sz = true)
  (h : ∀ v w', R v w' → VO P n ops Q rest ((d, v) :: k) w') : VO P n ops Q (o :: rest) k w := by
 intro a ha
 unfold wpList
 rw [guardOk_wanted hg ha]
 simp only [if_true]
 left
 refine hw a Q _ ha fun v w' hR => ?_
 rw [hd]
 exact h v w' hR _ (ha.put hn v)
theorem VO.wk0 {R : Value → World → Prop} (hw : Wk P n k w o R) (hd : o.dst = none) (hg : guardOk ops k o.guard = some true)
  (h : ∀ v w', R v w' → VO P n ops Q rest k w') : VO P n ops Q (o :: rest) k w := by
 intro a ha
 unfold wpList
 rw [guardOk_wanted hg ha]
 simp only [if_true]
 left
 refine hw a Q _ ha fun v w' hR => ?_
 rw [hd]
 exact h v w' hR _ ha
theorem VO.mv {d : Nat} {v : Value} (hr : Rn P n k w o v) (hd : o.dst = some d) (hg : guardOk ops k o.guard = some true) (hn : Nat.blt d n.sz = true)
  (h : VO P n ops Q rest ((d, v) :: k) w) : VO P n ops Q (o :: rest) k w :=
 VO.wk (R := fun u w' => u = v ∧ w' = w) (Rv fun a ha => ⟨v, w, hr a ha, rfl, rfl⟩) hd hg hn (by rintro u w' ⟨rfl, rfl⟩; exact h)
end
section
variable {P : Program} {md : Region.Mode} {ops : Array Oper} {Q : Exit → Act → World → Prop} {S : World → Prop} {n : Nat} {L : Array Bool → Act → World → Prop}
def wpAnyHL (P : Program) (md : Region.Mode) (ops : Array Oper) (Q : Exit → Act → World → Prop) (S : World → Prop) (n : Nat) (L : Array Bool → Act → World → Prop) : Nat → Array Bool → Act → World → Prop
 | 0, listed, a, w => L listed a w
 | f + 1, listed, a, w => Region.ready md ops listed ≠ [] ∧ ∀ i ∈ Region.ready md ops listed, i < n ∧ wpOp P ops Q i (fun a' w' => S w' ∧ wpAnyHL P md ops Q S n L f (listed.setIfInBounds i true) a' w') a w
theorem wpAny_of_headH {g : Nat} (hL : ∀ listed a w, L listed a w → wpAny P md ops Q g listed a w) :
  ∀ (f : Nat) (listed : Array Bool) (a : Act) (w : World), wpAnyHL P md ops Q S n L f listed a w → wpAny P md ops Q (f + g) listed a w
 | 0, listed, a, w, h => by rw [Nat.zero_add]; exact hL _ _ _ h
 | f + 1, listed, a, w, h => by
  rw [show f + 1 + g = (f + g) + 1 by omega]
  exact ⟨fun h0 => absurd h0 h.1, fun i hi => wpOp_mono (fun a' w' h' => wpAny_of_headH hL f _ a' w' h'.2) (h.2 i hi).2⟩
def Region.waitB (md : Region.Mode) (ops : Array Oper) (n : Nat) : Bool := decide (n = ops.size) || (decide (n < ops.size) && Region.sinkB md ops n && Region.chainB md ops n)
theorem head_only {listed : Array Bool} (hw : Region.waitB md ops n = true) (inv : HeadInv md ops n listed) {i : Nat} (hin : i < n) (hun : listed.getD i true = false) {j : Nat} (hj : j ∈ Region.ready md ops listed) : j < n := by
 simp only [Region.waitB, Bool.or_eq_true, Bool.and_eq_true, decide_eq_true_eq] at hw
 rcases hw with hw | ⟨⟨hw, hs⟩, hc⟩
 ·
  obtain ⟨_, o, ho, _⟩ := mem_ready.1 hj
  rw [hw]
  exact (Array.getElem?_eq_some_iff.1 ho).1
 ·
  rcases Nat.lt_or_ge j n with h | h
  · exact h
  · exact absurd hj (tail_waits hs hc hw inv _ i rfl hin hun j h)
theorem wpAnyHL_first {i : Nat} {oi : Oper} {v : Value} (hi : ops[i]? = some oi) (hsel : ∀ (j : Nat) (o : Oper) cs b, ops[j]? = some o → o.op ≠ .select cs b)
  (hwt : Region.waitB md ops n = true) (hin : i < n) (hQ : ∀ c a w, Q (.panic c) (a.put oi.dst v) w → Q (.panic c) a w)
  (hdone : ∀ listed a w, L listed a w → ∀ j ∈ Region.ready md ops listed, n ≤ j) :
  ∀ (f : Nat) (listed : Array Bool) (a : Act) (w : World), HeadInv md ops n listed →
   (∀ j oj, ops[j]? = some oj → j ≠ i → listed.getD j true = false → (∀ e ∈ oj.after, Region.binds md e = true → e.on ≠ i) → oi.apart ops oj = true) →
   i ∈ Region.ready md ops listed → YieldsIf P ops S oi v a → S w →
   wpAnyHL P md ops Q S n L f (listed.setIfInBounds i true) (a.put oi.dst v) w → wpAnyHL P md ops Q S n L (f + 1) listed a w := by
 intro f
 induction f with
 | zero =>
  intro listed a w inv _ hr hy hS H
  have hun := (mem_ready.1 hr).1
  refine ⟨fun h => (by rw [h] at hr; cases hr), fun j hj => ?_⟩
  have hjn : j < n := head_only hwt inv hin hun hj
  refine ⟨hjn, ?_⟩
  by_cases hji : j = i
  · subst hji; exact hy.wpOp hi hS ⟨hS, H⟩
  ·
   have := hdone _ _ _ H j (ready_mono hj hji)
   omega
 | succ f ih =>
  intro listed a w inv hfree hr hy hS H
  have hun := (mem_ready.1 hr).1
  refine ⟨fun h => (by rw [h] at hr; cases hr), fun j hj => ?_⟩
  have hjn : j < n := head_only hwt inv hin hun hj
  refine ⟨hjn, ?_⟩
  by_cases hji : j = i
  · subst hji; exact hy.wpOp hi hS ⟨hS, H⟩
  ·
   have h1 := (H.2 j (ready_mono hj hji)).2
   obtain ⟨hjun, oj, hoj, hall⟩ := mem_ready.1 hj
   have hnot : ∀ e ∈ oj.after, Region.binds md e = true → e.on ≠ i := fun e he hb heq => by
    have h1 := hall e he hb
    rw [heq, getD_both hun] at h1
    cases h1
   have h2 := wpOp_putIf hoj (hfree j oj hoj hji hjun hnot) (fun cs b => hsel i oi cs b hi) (fun cs b => hsel j oj cs b hoj) hQ hy h1
   have hfree' : ∀ k ok, ops[k]? = some ok → k ≠ i → (listed.setIfInBounds j true).getD k true = false →
     (∀ e ∈ ok.after, Region.binds md e = true → e.on ≠ i) → oi.apart ops ok = true := fun k ok hk hki hun hno => by
    refine hfree k ok hk hki ?_ hno
    by_cases hjk : j = k
    · subst hjk; exact hjun
    · rw [getD_set_ne true hjk] at hun; exact hun
   refine wpOp_mono (fun a' w' h3 => ⟨h3.2.1, ih (listed.setIfInBounds j true) a' w' (inv.set hj hjn) hfree' (ready_mono hr (Ne.symm hji)) h3.1 h3.2.1 ?_⟩) h2
   rw [Array.setIfInBounds_comm _ _ hji]
   exact h3.2.2
def Region.orderB (md : Region.Mode) (ops : Array Oper) (n : Nat) : List (Nat × Bool) → Array Bool → Bool
 | [], listed => Region.seqB md ops (ops.size - n) n listed
 | (i, true) :: r, listed => Nat.blt i n && (Region.ready md ops listed).contains i && Region.free md ops listed i && Region.orderB md ops n r (listed.setIfInBounds i true)
 | (i, false) :: r, listed => Nat.blt i n && decide (Region.ready md ops listed = [i]) && Region.orderB md ops n r (listed.setIfInBounds i true)
def Region.orderOk (md : Region.Mode) (ops : Array Oper) (n : Nat) (order : List (Nat × Bool)) : Bool :=
 Region.noSelect ops && Region.waitB md ops n && Nat.beq order.length n && Region.orderB md ops n order (Array.replicate ops.size false)
def wpOrd (P : Program) (ops : Array Oper) (Q : Exit → Act → World → Prop) (S : World → Prop) (Lq : Act → World → Prop) : List (Nat × Bool) → Act → World → Prop
 | [], a, w => Lq a w
 | (i, true) :: r, a, w => ∃ oi v, ops[i]? = some oi ∧ YieldsIf P ops S oi v a ∧ wpOrd P ops Q S Lq r (a.put oi.dst v) w
 | (i, false) :: r, a, w => wpOp P ops Q i (fun a' w' => S w' ∧ wpOrd P ops Q S Lq r a' w') a w
theorem wpAnyHL_order {Lq : Act → World → Prop} (hsel : Region.noSelect ops = true) (hwt : Region.waitB md ops n = true) (hQ : ∀ c a d v w, Q (.panic c) (Act.put a d v) w → Q (.panic c) a w) :
  ∀ (order : List (Nat × Bool)) (listed : Array Bool) (a : Act) (w : World), HeadInv md ops n listed → Region.orderB md ops n order listed = true → S w → wpOrd P ops Q S Lq order a w →
  wpAnyHL P md ops Q S n (fun listed' a' w' => Region.seqB md ops (ops.size - n) n listed' = true ∧ Lq a' w') order.length listed a w
 | [], listed, a, w, _, hB, _, h => ⟨hB, h⟩
 | (i, true) :: r, listed, a, w, inv, hB, hS, h => by
  simp only [Region.orderB, Bool.and_eq_true, Nat.blt_eq] at hB
  obtain ⟨⟨⟨hin, hr⟩, hf⟩, hB'⟩ := hB
  obtain ⟨oi, v, hoi, hy, hK⟩ := h
  have hr' : i ∈ Region.ready md ops listed := by simpa using hr
  exact wpAnyHL_first hoi (Region.noSelect_spec hsel) hwt hin (fun c a w => hQ c a _ _ w) (fun listed' a' w' hL => seqB_ready hL.1) r.length listed a w inv (Region.free_spec hoi hf) hr' hy hS
   (wpAnyHL_order hsel hwt hQ r _ _ w (inv.set hr' hin) hB' hS hK)
 | (i, false) :: r, listed, a, w, inv, hB, hS, h => by
  simp only [Region.orderB, Bool.and_eq_true, Nat.blt_eq, decide_eq_true_eq] at hB
  obtain ⟨⟨hin, hr⟩, hB'⟩ := hB
  have hr' : i ∈ Region.ready md ops listed := by rw [hr]; simp
  refine ⟨by rw [hr]; simp, fun j hj => ?_⟩
  rw [hr] at hj
  have hji : j = i := by simpa using hj
  subst hji
  exact ⟨hin, wpOp_mono (fun a' w' h' => ⟨h'.1, wpAnyHL_order hsel hwt hQ r _ a' w' (inv.set hr' hin) hB' h'.1 h'.2⟩) h⟩
theorem any_of_order {a : Act} {w : World} {l : List Oper} (n : Nat) (order : List (Nat × Bool)) (S : World → Prop) (hB : Region.orderOk .any l.toArray n order = true)
  (hQ : ∀ c a d v w, Q (.panic c) (Act.put a d v) w → Q (.panic c) a w) (hS : S w.drew) (h : wpOrd P l.toArray Q S (fun a' w' => wpList P l.toArray Q (l.drop n) a' w') order a w.drew) : wpAny P .any l.toArray Q l.toArray.size (Array.replicate l.toArray.size false) a w.drew := by
 simp only [Region.orderOk, Bool.and_eq_true] at hB
 obtain ⟨⟨⟨hsel, hwt⟩, hlen⟩, hord⟩ := hB
 have hlen := Nat.eq_of_beq_eq_true hlen
 have hn : n ≤ l.length := by
  simp only [Region.waitB, Bool.or_eq_true, Bool.and_eq_true, decide_eq_true_eq, List.size_toArray] at hwt
  rcases hwt with h | ⟨⟨h, _⟩, _⟩ <;> omega
 have hdl : (l.drop n).length = l.toArray.size - n := by simp
 have inv0 : HeadInv .any l.toArray n (Array.replicate l.toArray.size false) :=
  ⟨by simp, fun j oj _ hl => (by rw [getD_replicate_false] at hl; cases hl), fun t _ ht => getD_in (by simpa using ht) (getD_replicate_false _ _)⟩
 have H := wpAnyHL_order hsel hwt hQ order _ a w.drew inv0 hord hS h
 have := wpAny_of_headH (g := l.toArray.size - n) (fun listed a' w' hL => by
  have := wpAny_of_seq (md := .any) (Q' := Q) (l.drop n) n listed a' w' (fun j => by simp [List.getElem?_drop]) (by rw [hdl]; exact hL.1) hL.2
  rwa [hdl] at this) _ _ _ _ H
 rw [hlen, show n + (l.toArray.size - n) = l.toArray.size by simp only [List.size_toArray]; omega] at this
 exact this
theorem wp_region_order {id : Nat} {a : Act} {w : World} {l : List Oper} (n : Nat) (order : List (Nat × Bool)) (S : World → Prop) (hm : P.follows .mixedOrders = true) (hB : Region.orderOk .any l.toArray n order = true)
  (hQ : ∀ c a d v w, Q (.panic c) (Act.put a d v) w → Q (.panic c) a w) (hS : S w.drew) (h : wpOrd P l.toArray Q S (fun a' w' => wpList P l.toArray Q (l.drop n) a' w') order a w.drew) : (Code.region id l.toArray true).wp P Q a w :=
 wp_region_any hm (any_of_order n order S hB hQ hS h)
end
section
variable {P : Program} {n : Fr} {m : Nat} {ops : Array Oper} {Q : Exit → Act → World → Prop} {S : World → Prop} {Lq : Act → World → Prop} {k : K} {w : World} {o : Oper} {order : List (Nat × Bool)}
def VH (P : Program) (n : Fr) (ops : Array Oper) (Q : Exit → Act → World → Prop) (S : World → Prop) (Lq : Act → World → Prop) (order : List (Nat × Bool)) (k : K) (w : World) : Prop := ∀ a, Fits n k a → wpOrd P ops Q S Lq order a w
theorem Cf {id : Nat} {l : List Oper} (m : Nat) (order : List (Nat × Bool)) (S : World → World → Prop) (hm : P.follows .mixedOrders = true) (hB : Region.orderOk .any l.toArray m order = true) (hS : ∀ w1, w1 = w.drew → S w1 w1)
  (h : ∀ w1, w1 = w.drew → VH P n l.toArray (NoPanic Q) (S w1) (fun a' w' => wpList P l.toArray (NoPanic Q) (l.drop m) a' w') order k w1) : VC (r := none) P n (.region id l.toArray true) Q k w :=
 fun a ha => wpIn_none.2 <| wp_region_noPanic (wp_region_order m order (S w.drew) hm hB (fun _ _ _ _ _ h => h) (hS _ rfl) (h _ rfl a ha))
theorem VH.mv {i d : Nat} {v : Value} (hr : ∀ w', S w' → Rn P n k w' o v) (ho : ops[i]? = some o) (hd : o.dst = some d) (hg : guardOk ops k o.guard = some true) (hn : Nat.blt d n.sz = true)
  (h : VH P n ops Q S Lq order ((d, v) :: k) w) : VH P n ops Q S Lq ((i, true) :: order) k w := fun a ha =>
 ⟨o, v, ho, .inl ⟨guardOk_wanted hg ha, fun w' hw' => hr w' hw' a ha⟩, by rw [hd]; exact h _ (ha.put hn v)⟩
theorem VH.skip {i d : Nat} (ho : ops[i]? = some o) (hd : o.dst = some d) (hg : guardOk ops k o.guard = some false) (hn : Nat.blt d n.sz = true)
  (h : VH P n ops Q S Lq order ((d, undef) :: k) w) : VH P n ops Q S Lq ((i, true) :: order) k w := fun a ha =>
 ⟨o, undef, ho, .inr ⟨guardOk_wanted hg ha, rfl⟩, by rw [hd]; exact h _ (ha.put hn undef)⟩
theorem VH.wk {i d : Nat} {R : Value → World → Prop} (hw : Wk P n k w o R) (ho : ops[i]? = some o) (hd : o.dst = some d) (hg : guardOk ops k o.guard = some true) (hn : Nat.blt d n.sz = true)
  (h : ∀ v w', R v w' → S w' ∧ VH P n ops Q S Lq order ((d, v) :: k) w') : VH P n ops Q S Lq ((i, false) :: order) k w := by
 intro a ha
 simp only [wpOrd, wpOp, ho]
 rw [guardOk_wanted hg ha]
 simp only [if_true]
 left
 refine hw a Q _ ha fun v w' hR => ?_
 rw [hd]
 exact ⟨(h v w' hR).1, (h v w' hR).2 _ (ha.put hn v)⟩
theorem VH.wk0 {i : Nat} {R : Value → World → Prop} (hw : Wk P n k w o R) (ho : ops[i]? = some o) (hd : o.dst = none) (hg : guardOk ops k o.guard = some true)
  (h : ∀ v w', R v w' → S w' ∧ VH P n ops Q S Lq order k w') : VH P n ops Q S Lq ((i, false) :: order) k w := by
 intro a ha
 simp only [wpOrd, wpOp, ho]
 rw [guardOk_wanted hg ha]
 simp only [if_true]
 left
 refine hw a Q _ ha fun v w' hR => ?_
 rw [hd]
 exact ⟨(h v w' hR).1, (h v w' hR).2 _ ha⟩
theorem Cj {l : List Oper} {m : Nat} (h : VO P n ops Q (l.drop m) k w) : VH P n ops Q S (fun a' w' => wpList P ops Q (l.drop m) a' w') [] k w := fun a ha => h a ha
theorem Ca (h : VQ n Q .normal k w) : VQ n (NoPanic Q) .normal k w := fun a ha => NoPanic.normal (h a ha)
end
end Go.Tm
namespace Go.Tm
open Go.RowKit
section
variable {P : Program} {n : Fr} {k : K} {w : World}
variable {d : Option Tmp} {ty : TypeId} {pos : String} {aft : Array Edge} {g : Option (Nat × Bool)}
theorem Qc {x : Operand} {v : Value} (hx : ev k x = some v) : Rn P n k w { dst := d, op := .move x, type := ty, pos := pos, after := aft, guard := g } v :=
 fun a ha => by simp [execOp, ha.eval hx]
theorem Qd {x : Operand} {v : Value} (hx : ev k x = some v) : Rn P n k w { dst := d, op := .assign x, type := ty, pos := pos, after := aft, guard := g } v :=
 fun a ha => by simp [execOp, ha.eval hx]
theorem Qr {c x y : Operand} {v : Value} (hc : ev k c = some (.bool true)) (hx : ev k x = some v) : Rn P n k w { dst := d, op := .pick c x y, type := ty, pos := pos, after := aft, guard := g } v :=
 fun a ha => by simp [execOp, ha.eval hc, ha.eval hx, asBool]
theorem Qm {c x y : Operand} {v : Value} (hc : ev k c = some (.bool false)) (hy : ev k y = some v) : Rn P n k w { dst := d, op := .pick c x y, type := ty, pos := pos, after := aft, guard := g } v :=
 fun a ha => by simp [execOp, ha.eval hc, ha.eval hy, asBool]
theorem Rz {op : BinOp} {t t' : TypeId} {x y : Operand} {u v r : Value} (hx : ev k x = some u) (hy : ev k y = some v)
  (hr : ∀ x y : Operand, (do eqGuard op t x y u v; binOp op t u v : Sem Value).run P w = .ok r w) :
  Rn P n k w { dst := d, op := .binOp op t x y t', type := ty, pos := pos, after := aft, guard := g } r :=
 fun a ha => by
  have := hr x y
  simp only [execOp, ha.eval hx, ha.eval hy]
  rw [Sem.run_bind, this]
  rfl
section ints
variable {t t' : TypeId} {x y : Operand} {q : IntKind} {a b : Int}
theorem Cd (hx : ev k x = some (.int q a)) (hy : ev k y = some (.int q b)) (hb : q.wrap (a + b) = a + b := by rw [IntKind.wrap_i64]; omega) : Rn P n k w { dst := d, op := .binOp .add t x y t', type := ty, pos := pos, after := aft, guard := g } (.int q (a + b)) :=
 Rz hx hy (fun x y => by simp [eqGuard_add, binOp_add, Op.intArith, hb])
theorem Rg (hx : ev k x = some (.int q a)) (hy : ev k y = some (.int q b)) (hb : q.wrap (a - b) = a - b := by rw [IntKind.wrap_i64]; omega) : Rn P n k w { dst := d, op := .binOp .sub t x y t', type := ty, pos := pos, after := aft, guard := g } (.int q (a - b)) :=
 Rz hx hy (fun x y => by simp [eqGuard_sub, binOp_sub, Op.intArith, hb])
theorem Cy (hx : ev k x = some (.int q a)) (hy : ev k y = some (.int q b)) (hb : q.wrap (a * b) = a * b := by rw [IntKind.wrap_i64]; omega) : Rn P n k w { dst := d, op := .binOp .mul t x y t', type := ty, pos := pos, after := aft, guard := g } (.int q (a * b)) :=
 Rz hx hy (fun x y => by simp [eqGuard_mul, binOp_mul, Op.intArith, hb])
theorem Rn.quo (hx : ev k x = some (.int q a)) (hy : ev k y = some (.int q b)) (h0 : b ≠ 0) (hb : q.wrap (a.tdiv b) = a.tdiv b) : Rn P n k w { dst := d, op := .binOp .quo t x y t', type := ty, pos := pos, after := aft, guard := g } (.int q (a.tdiv b)) :=
 Rz hx hy (fun x y => by simp [eqGuard_quo, binOp_quo, Op.intDiv, h0, hb])
theorem Rn.rem (hx : ev k x = some (.int q a)) (hy : ev k y = some (.int q b)) (h0 : b ≠ 0 := by omega) : Rn P n k w { dst := d, op := .binOp .rem t x y t', type := ty, pos := pos, after := aft, guard := g } (.int q (a.tmod b)) :=
 Rz hx hy (fun x y => by simp [eqGuard_rem, binOp_rem, Op.intDiv, h0])
theorem Wc (hx : ev k x = some (.int .i64 a)) (hy : ev k y = some (.int .i64 b)) (ha : 0 ≤ a) (ha' : a ≤ 9223372036854775807) (h0 : 0 < b) : Rn P n k w { dst := d, op := .binOp .quo t x y t', type := ty, pos := pos, after := aft, guard := g } (.int .i64 (a / b)) := by
 have e : a.tdiv b = a / b := Int.tdiv_eq_ediv_of_nonneg ha
 have h1 : 0 ≤ a / b := Int.ediv_nonneg ha (by omega)
 have h2 : a / b ≤ a := Int.ediv_le_self b ha
 rw [← e]
 exact Rn.quo hx hy (by omega) (by rw [e, IntKind.wrap_i64]; omega)
theorem Rq (hx : ev k x = some (.int q a)) (hy : ev k y = some (.int q b)) (ha : 0 ≤ a := by omega) (h0 : 0 < b := by omega) : Rn P n k w { dst := d, op := .binOp .rem t x y t', type := ty, pos := pos, after := aft, guard := g } (.int q (a % b)) := by
 rw [← Int.tmod_eq_emod_of_nonneg ha]
 exact Rn.rem hx hy (by omega)
theorem Co (hx : ev k x = some (.int q a)) (hy : ev k y = some (.int q b)) : Rn P n k w { dst := d, op := .binOp .lss t x y t', type := ty, pos := pos, after := aft, guard := g } (.bool (decide (a < b))) :=
 Rz hx hy (fun x y => by simp [eqGuard_lss, binOp_lss])
theorem Ro (hx : ev k x = some (.int q a)) (hy : ev k y = some (.int q b)) : Rn P n k w { dst := d, op := .binOp .leq t x y t', type := ty, pos := pos, after := aft, guard := g } (.bool (decide (a ≤ b))) :=
 Rz hx hy (fun x y => by simp [eqGuard_leq, binOp_leq])
theorem Rb (hx : ev k x = some (.int q a)) (hy : ev k y = some (.int q b)) : Rn P n k w { dst := d, op := .binOp .gtr t x y t', type := ty, pos := pos, after := aft, guard := g } (.bool (decide (b < a))) :=
 Rz hx hy (fun x y => by simp [eqGuard_gtr, binOp_gtr])
theorem Ry (hx : ev k x = some (.int q a)) (hy : ev k y = some (.int q b)) : Rn P n k w { dst := d, op := .binOp .geq t x y t', type := ty, pos := pos, after := aft, guard := g } (.bool (decide (b ≤ a))) :=
 Rz hx hy (fun x y => by simp [eqGuard_geq, binOp_geq])
theorem Cg (hx : ev k x = some (.int q a)) (hy : ev k y = some (.int q b)) : Rn P n k w { dst := d, op := .binOp .eql t x y t', type := ty, pos := pos, after := aft, guard := g } (.bool (decide (a = b))) :=
 Rz hx hy (fun x y => by simp only [eqGuard_at_int, binOp_eql]; rfl)
theorem Wd (hx : ev k x = some (.int q a)) (hy : ev k y = some (.int q b)) : Rn P n k w { dst := d, op := .binOp .neq t x y t', type := ty, pos := pos, after := aft, guard := g } (.bool (decide (a ≠ b))) :=
 Rz hx hy (fun x y => by simp only [eqGuard_at_int, binOp_neq]; simp [bne, Bool.beq_eq_decide_eq])
theorem Rn.conv {s t : TypeId} {q' : IntKind} {ds : TypeDesc} (hs : P.underlying s = some ds) (ht : P.underlying t = some (.int q')) (hx : ev k x = some (.int q a)) : Rn P n k w { dst := d, op := .convert s t x, type := ty, pos := pos, after := aft, guard := g } (.int q' (q'.wrap a)) :=
 fun a' ha => by simp [execOp, ha.eval hx, convert, run_underlying hs, run_underlying ht, Conv.intToInt]
theorem Rn.conv_in {s t : TypeId} {q' : IntKind} {ds : TypeDesc} (hs : P.underlying s = some ds) (ht : P.underlying t = some (.int q')) (hx : ev k x = some (.int q a)) (hb : q'.wrap a = a) : Rn P n k w { dst := d, op := .convert s t x, type := ty, pos := pos, after := aft, guard := g } (.int q' a) :=
 fun a' ha => by simp [execOp, ha.eval hx, convert, run_underlying hs, run_underlying ht, Conv.intToInt, hb]
theorem Rn.neg (hx : ev k x = some (.int q a)) (hb : q.wrap (-a) = -a) : Rn P n k w { dst := d, op := .unOp .neg t x, type := ty, pos := pos, after := aft, guard := g } (.int q (-a)) :=
 fun a' ha => by simp [execOp, ha.eval hx, Op.unary, Op.intArith, hb]
end ints
theorem Rm {t : TypeId} {x : Operand} {b : Bool} (hx : ev k x = some (.bool b)) : Rn P n k w { dst := d, op := .unOp .not t x, type := ty, pos := pos, after := aft, guard := g } (.bool (!b)) :=
 fun a ha => by simp [execOp, ha.eval hx, Op.unary]
theorem Rn.not_if {t : TypeId} {x : Operand} {p : Prop} [Decidable p] (hx : ev k x = some (.bool (decide p))) : Rn P n k w { dst := d, op := .unOp .not t x, type := ty, pos := pos, after := aft, guard := g } (.bool (decide (¬ p))) :=
 fun a ha => by simp [execOp, ha.eval hx, Op.unary]
theorem Qq {x : Operand} {a : Addr} (hx : ev k x = some (.pointer (some a))) : Rn P n k w { dst := d, op := .nilCheck x, type := ty, pos := pos, after := aft, guard := g } (.pointer (some a)) :=
 fun a ha => by simp [execOp, ha.eval hx]
theorem Qu {x : Operand} {i : Nat} {vs : Array Value} {v : Value} (hx : ev k x = some (.tuple vs)) (hi : vs[i]? = some v) : Rn P n k w { dst := d, op := .extract x i, type := ty, pos := pos, after := aft, guard := g } v :=
 fun a ha => by simp [execOp, ha.eval hx, Instr.extract, hi]
theorem Rn.err_eql_nil {t t' : TypeId} {x : Operand} {u : TypeId} {z : Value} {m : Array (String × TypeId)} (ht : P.underlying t = some (.interface m)) (hx : ev k x = some (.iface u z)) :
  Rn P n k w { dst := d, op := .binOp .eql t x (.const .nilIface) t', type := ty, pos := pos, after := aft, guard := g } (.bool false) :=
 fun a ha => by
  have h : ∀ d : Nat, (Op.equalIn (d + 1) t (.iface u z) .nilIface).run P w = .ok false w := fun d => by simp [Op.equalIn, run_underlying ht]
  have h2 : (binOp .eql t (.iface u z) .nilIface).run P w = .ok (.bool false) w := by
   simp only [binOp]
   simp [Op.equal, Op.maxDepth, h 9999]
  have hc : a.eval (.const .nilIface) = .nilIface := rfl
  simp [execOp, ha.eval hx, hc, eqGuard_at_iface, h2]
theorem Wa {t t' : TypeId} {x : Operand} {m : Array (String × TypeId)} (ht : P.underlying t = some (.interface m)) (hx : ev k x = some .nilIface) :
  Rn P n k w { dst := d, op := .binOp .eql t x (.const .nilIface) t', type := ty, pos := pos, after := aft, guard := g } (.bool true) :=
 fun a ha => by
  have h : ∀ d : Nat, (Op.equalIn (d + 1) t .nilIface .nilIface).run P w = .ok true w := fun d => by simp [Op.equalIn, run_underlying ht]
  have h2 : (binOp .eql t .nilIface .nilIface).run P w = .ok (.bool true) w := by
   simp only [binOp]
   simp [Op.equal, Op.maxDepth, h 9999]
  have hc : a.eval (.const .nilIface) = .nilIface := rfl
  simp [execOp, ha.eval hx, hc, eqGuard_nil_constR, h2]
theorem Cr {t t' : TypeId} {x : Operand} {m : Array (String × TypeId)} (ht : P.underlying t = some (.interface m)) (hx : ev k x = some .nilIface) :
  Rn P n k w { dst := d, op := .binOp .neq t x (.const .nilIface) t', type := ty, pos := pos, after := aft, guard := g } (.bool false) :=
 fun a ha => by
  have h : ∀ d : Nat, (Op.equalIn (d + 1) t .nilIface .nilIface).run P w = .ok true w := fun d => by simp [Op.equalIn, run_underlying ht]
  have h2 : (binOp .neq t .nilIface .nilIface).run P w = .ok (.bool false) w := by
   simp only [binOp]
   simp [Op.equal, Op.maxDepth, h 9999]
  have hc : a.eval (.const .nilIface) = .nilIface := rfl
  simp [execOp, ha.eval hx, hc, eqGuard_nil_constR, h2]
theorem Rn.str_eql {t t' : TypeId} {x y : Operand} {a b : ByteArray} (hx : ev k x = some (.string a)) (hy : ev k y = some (.string b)) :
  Rn P n k w { dst := d, op := .binOp .eql t x y t', type := ty, pos := pos, after := aft, guard := g } (.bool (a.toList == b.toList)) :=
 Rz hx hy (fun x y => by simp [eqGuard_at_string, binOp, Op.stringOp])
theorem Qh {s : TypeId} {x : Operand} {i off : Nat} {b o sz : Nat} {fs : Array Field} {f : Field} (hs : P.underlying s = some (.struct fs)) (hf : fs[i]? = some f) (hz : ∀ w, (sizeOf f.type).run P w = .ok sz w) (hz0 : Nat.beq sz 0 = false) (ho : f.offset = off)
  (hx : ev k x = some (.pointer (some ⟨b, o, none⟩))) : Rn P n k w { dst := d, op := .fieldAddr s x i, type := ty, pos := pos, after := aft, guard := g } (.pointer (some ⟨b, o + off, none⟩)) :=
 fun a ha => by
  have hz1 : ¬ sz = 0 := fun e => by subst e; cases hz0
  subst ho
  simp [execOp, ha.eval hx, Instr.fieldAt, run_underlying hs, hf, Instr.sureAddr, fieldPlace, hz, hz1, Addr.add_lit]
theorem Qg {t : TypeId} {x : Operand} {ad : Addr} {v : Value} (ht : ∀ w, (isAgg t).run P w = .ok false w) (hx : ev k x = some (.pointer (some ad))) (hc : w.cell? ad = some v) :
  Rn P n k w { dst := d, op := .load t x, type := ty, pos := pos, after := aft, guard := g } v :=
 fun a ha => by simp [execOp, ha.eval hx, Instr.loadAt, Instr.sureAddr, loadVar, ht, hc]
def cellsAt (w : World) (ad : Addr) (cs : List Value) : Prop := ∀ j v, cs[j]? = some v → w.cell? (ad.add j) = some v
theorem run_loadCells_at {ad : Addr} {cs : List Value} (hc : cellsAt w ad cs) : (loadCells ad cs.length).run P w = .ok cs.toArray w := by
 rw [run_loadCells w ad cs.length (fun j => cs.getD j undef) (fun j hj => by rw [hc j _ (List.getElem?_eq_getElem hj)]; simp [List.getD, hj])]
 congr 2
 apply List.ext_getElem
 · simp
 ·
  intro i h1 h2
  simp at h1
  simp [List.getD, h1]
theorem Qz {t : TypeId} {x : Operand} {ad : Addr} {cs : List Value} {sz : Nat} (ht : ∀ w, (isAgg t).run P w = .ok true w) (hz : ∀ w, (sizeOf t).run P w = .ok sz w) (hx : ev k x = some (.pointer (some ad))) (hl : cs.length = sz) (hc : cellsAt w ad cs) :
  Rn P n k w { dst := d, op := .load t x, type := ty, pos := pos, after := aft, guard := g } (.agg cs.toArray) :=
 fun a ha => by
  subst hl
  simp [execOp, ha.eval hx, Instr.loadAt, Instr.sureAddr, loadVar, ht, hz, run_loadCells_at hc]
theorem Cs {t : TypeId} {x : Operand} {a : Option Addr} {l c : Nat} {e : TypeId} (ht : P.underlying t = some (.slice e)) (hx : ev k x = some (.slice a l c)) :
  Rn P n k w { dst := d, op := .call { callee := .builtin .len, args := #[x], argTypes := #[t] }, type := ty, pos := pos, after := aft, guard := g } (.int .i64 l) :=
 fun a ha => by simp [execOp, resolve, invoke, builtin, ha.eval hx, Builtin.len_, run_underlying ht, goInt]
theorem Rn.func {f : Fn} {xs ys : List Operand} {us vs : List Value} (hx : evs k xs = some us) (hy : evs k ys = some vs) : Rn P n k w { dst := d, op := .makeFunc f xs.toArray ys.toArray, type := ty, pos := pos, after := aft, guard := g } (.func f us.toArray vs.toArray) :=
 fun a ha => by
  have h1 := ha.evals hx
  have h2 := ha.evals hy
  simp [execOp, Instr.makeFunc, h1, h2]
theorem Rn.fieldV {s : TypeId} {x : Operand} {i : Nat} {cs : Array Value} {fs : Array Field} {f : Field} {sz : Nat} (hs : P.underlying s = some (.struct fs)) (hf : fs[i]? = some f) (ha : ∀ w, (isAgg f.type).run P w = .ok true w) (hz : ∀ w, (sizeOf f.type).run P w = .ok sz w) (hx : ev k x = some (.agg cs)) :
  Rn P n k w { dst := d, op := .field s x i, type := ty, pos := pos, after := aft, guard := g } (.agg (cs.extract f.offset (f.offset + sz))) :=
 fun a h => by simp [execOp, h.eval hx, Instr.field, run_underlying hs, hf, part, ha, hz, asAgg]
theorem Wk.store {t : TypeId} {x y : Operand} {ad : Addr} {v u : Value} (hz : ∀ w, (sizeOf t).run P w = .ok 1 w) (hx : ev k x = some (.pointer (some ad))) (hy : ev k y = some v) (hv : v.oneCell' = true) (hvc : v.cells = #[v]) (hc : w.cell? ad = some u) (hf : w.frozen? ad = false) :
  Wk P n k w { dst := none, op := .store t x y, type := ty, pos := pos, after := aft, guard := g } (fun _ w' => w' = w.setCell ad v) :=
 Wk.of_unit fun a ha => ⟨w.setCell ad v, by
  simp [execOp, ha.eval hx, ha.eval hy, Instr.storeAt, Instr.sureAddr, storeVar, hz, hvc, storeCells, run_store P w ad v .plain hv, hc, hf, Addr.add_zero'], rfl⟩
structure New (w w' : World) (p : Nat) (o : Obj) : Prop where
  p : p = w.heap.size
  w : w' = w.alloc o
theorem Cp {t : TypeId} {x : Operand} {v : Value} (hx : ev k x = some v) :
  Wk P n k w { dst := d, op := .box t x, type := ty, pos := pos, after := aft, guard := g } (fun u w' => ∃ p, u = .pointer (some ⟨p, 0, none⟩) ∧ New w w' p (.cells v.cells t)) :=
 Rv fun a ha => ⟨.pointer (some ⟨w.heap.size, 0, none⟩), w.alloc (.cells v.cells t), by simp [execOp, ha.eval hx, Instr.box, newVar, newRow], _, rfl, rfl, rfl⟩
theorem Ck {t : TypeId} {z : Value} (hz : ∀ w, (zeroValue t).run P w = .ok z w) :
  Wk P n k w { dst := d, op := .alloc t, type := ty, pos := pos, after := aft, guard := g } (fun u w' => ∃ p, u = .pointer (some ⟨p, 0, none⟩) ∧ New w w' p (.cells z.cells t)) :=
 Rv fun a _ => ⟨.pointer (some ⟨w.heap.size, 0, none⟩), w.alloc (.cells z.cells t), by simp [execOp, Instr.alloc, hz, newVar, newRow], _, rfl, rfl, rfl⟩
theorem Qi {f : FuncId} {xs : List Operand} {ts : Array TypeId} {vs : List Value} {R : Value → World → Prop} (hf : ∀ args w, (callFunc f args).run P w = .ok (.enter f args) w) (hx : evs k xs = some vs)
  (hc : Calls P f vs.toArray w (fun e w' => ∃ v, e = .returned v ∧ R v w')) :
  Wk P n k w { dst := d, op := .call { callee := .value (.func f), args := xs.toArray, argTypes := ts }, type := ty, pos := pos, after := aft, guard := g } R := by
 intro a Q C ha hC
 unfold Oper.wp
 have he := ha.evals hx
 have : (execOp a.eval { dst := d, op := .call { callee := .value (.func f), args := xs.toArray, argTypes := ts }, type := ty, pos := pos, after := aft, guard := g }).run P w = .ok (.enter f vs.toArray) w := by
  simp [execOp, resolve, Act.eval, Deferred.ofValue, invoke, hf]
  exact he
 rw [this, Oper.upon_enter]
 refine hc.mono ?_
 rintro e w' ⟨v, rfl, hv⟩
 exact hC v w' hv
theorem Wk.callv {x : Operand} {f : FuncId} {first captured : List Value} {xs : List Operand} {ts : Array TypeId} {vs : List Value} {R : Value → World → Prop} (hf : ∀ args w, (callFunc f args).run P w = .ok (.enter f args) w) (hv : ev k x = some (.func (.func f) first.toArray captured.toArray)) {args : List Value} (hx : evs k xs = some vs) (ha' : first ++ vs ++ captured = args)
  (hc : Calls P f args.toArray w (fun e w' => ∃ v, e = .returned v ∧ R v w')) :
  Wk P n k w { dst := d, op := .call { callee := .value x, args := xs.toArray, argTypes := ts }, type := ty, pos := pos, after := aft, guard := g } R := by
 subst ha'
 intro a Q C ha hC
 unfold Oper.wp
 have he := ha.evals hx
 have : (execOp a.eval { dst := d, op := .call { callee := .value x, args := xs.toArray, argTypes := ts }, type := ty, pos := pos, after := aft, guard := g }).run P w = .ok (.enter f (first ++ vs ++ captured).toArray) w := by
  simp [execOp, resolve, ha.eval hv, Deferred.ofValue, invoke, hf, he]
 rw [this, Oper.upon_enter]
 refine hc.mono ?_
 rintro e w' ⟨v, rfl, hv⟩
 exact hC v w' hv
end
end Go.Tm
namespace Go.Tm
open Go.RowKit
def Ret (R : Value → World → Prop) (e : Ending) (w : World) : Prop := ∃ v, e = .returned v ∧ R v w
theorem Kx {R : Value → World → Prop} {v : Value} {w : World} (h : R v w) : Ret R (.returned v) w := ⟨v, rfl, h⟩
abbrev No : Nat → Prop := fun _ => False
abbrev Is (p : Nat) : Nat → Prop := fun q => q = p
abbrev In (lo hi : Nat) : Nat → Prop := fun q => lo ≤ q ∧ q < hi
structure Ch (D : Nat → Prop) (w w' : World) : Prop where
  os : w'.os = w.os
  tape : w'.tape = w.tape
  output : w'.output = w.output
  size : w.heap.size ≤ w'.heap.size
  old : ∀ q x, ¬ D q → w.heap[q]? = some x → w'.heap[q]? = some x
theorem blk_lt {w : World} {q : Nat} {x : Obj} (hb : w.heap[q]? = some x) : q < w.heap.size := (Array.getElem?_eq_some_iff.1 hb).1
theorem Ch.refl (D : Nat → Prop) (w : World) : Ch D w w := ⟨rfl, rfl, rfl, Nat.le_refl _, fun _ _ _ h => h⟩
theorem Ch.then {D D' E : Nat → Prop} {a b c : World} (h : Ch D a b) (h' : Ch D' b c) (hd : ∀ q, q < a.heap.size → D q ∨ D' q → E q := by intro q h1 h2; rcases h2 with h2 | h2 <;> first | exact h2 | (exfalso; omega) | omega) : Ch E a c :=
 ⟨h'.os.trans h.os, h'.tape.trans h.tape, h'.output.trans h.output, Nat.le_trans h.size h'.size, fun q x hq hx => by
  have hlt := blk_lt hx
  exact h'.old q x (fun e => hq (hd q hlt (.inr e))) (h.old q x (fun e => hq (hd q hlt (.inl e))) hx)⟩
theorem Ch.trans {D : Nat → Prop} {a b c : World} (h : Ch D a b) (h' : Ch D b c) : Ch D a c := h.then h' fun _ _ h => h.elim id id
theorem Ch.and {D : Nat → Prop} {a b c : World} (h : Ch D a b) (h' : Ch No b c) : Ch D a c := h.then h' fun _ _ h => h.elim id False.elim
theorem Ch.more {D E : Nat → Prop} {a b : World} (h : Ch D a b) (hd : ∀ q, q < a.heap.size → D q → E q) : Ch E a b :=
 ⟨h.os, h.tape, h.output, h.size, fun q x hq hx => h.old q x (fun e => hq (hd q (blk_lt hx) e)) hx⟩
theorem Ch.of_drew {w w' : World} (h : w' = w.drew) : Ch No w w' := by subst h; exact ⟨rfl, rfl, rfl, Nat.le_refl _, fun _ _ _ h => h⟩
theorem Ch.of_below {w w' : World} (h : Below w.heap.size w w') : Ch No w w' := ⟨h.os, h.tape, h.output, h.size, fun q x _ hx => (h.block q (blk_lt hx)).trans hx⟩
theorem Ch.cell {D : Nat → Prop} {w w' : World} (h : Ch D w w') {a : Addr} (hd : ¬ D a.block) {v : Value} (hc : w.cell? a = some v) : w'.cell? a = some v := by
 have hlt := World.block_lt_of_cell? w a hc
 have := h.old a.block _ hd (Array.getElem?_eq_getElem hlt)
 rw [← hc]
 simp only [World.cell?, this, Array.getElem?_eq_getElem hlt]
theorem add_block (a : Addr) (j : Nat) : (a.add j).block = a.block := by unfold Addr.add; split <;> rfl
theorem New.ch {w w' : World} {p : Nat} {o : Obj} (h : New w w' p o) : Ch No w w' := by
 obtain ⟨rfl, rfl⟩ := h
 exact Ch.of_below (Below.alloc (Below.refl _ _) (Nat.le_refl _) o)
theorem New.size {w w' : World} {p : Nat} {o : Obj} (h : New w w' p o) : w'.heap.size = w.heap.size + 1 := by
 obtain ⟨rfl, rfl⟩ := h
 simp
theorem New.blk {w w' : World} {p : Nat} {o : Obj} (h : New w w' p o) : w'.heap[p]? = some o := by
 obtain ⟨rfl, rfl⟩ := h
 exact heap_alloc_new w o
theorem blk_cell {w : World} {p i : Nat} {cs : Array Value} {t : TypeId} {fr : Nat × Nat} {v : Value} (hb : w.heap[p]? = some (.cells cs t fr)) (hi : cs[i]? = some v) : w.cell? ⟨p, i, none⟩ = some v :=
 (cell_of_row w p i cs t fr hb).trans hi
theorem blk_cells {w : World} {p o : Nat} {cs : Array Value} {t : TypeId} {fr : Nat × Nat} (l : List Value) (hb : w.heap[p]? = some (.cells cs t fr)) (hl : ∀ j v, l[j]? = some v → cs[o + j]? = some v) : cellsAt w ⟨p, o, none⟩ l := by
 intro j v hj
 rw [Addr.add_lit]
 exact blk_cell hb (hl j v hj)
theorem blk_all {w : World} {p : Nat} {l : List Value} {t : TypeId} {fr : Nat × Nat} (hb : w.heap[p]? = some (.cells l.toArray t fr)) : cellsAt w ⟨p, 0, none⟩ l :=
 blk_cells l hb fun j v hj => by simpa using hj
theorem blk_free {w : World} {p i : Nat} {cs : Array Value} {t : TypeId} (hb : w.heap[p]? = some (.cells cs t (0, 0))) : w.frozen? ⟨p, i, none⟩ = false := by
 simp [World.frozen?, hb]
structure Sts (w w' : World) (p : Nat) (o : Obj) : Prop where
  ch : Ch (Is p) w w'
  size : w'.heap.size = w.heap.size
  same : w'.heap[p]? = some o
theorem Sts.of_cell {w w' : World} {p i : Nat} {v : Value} {cs : Array Value} {t : TypeId} {fr : Nat × Nat} (h : w' = w.setCell ⟨p, i, none⟩ v) (hb : w.heap[p]? = some (.cells cs t fr)) : Sts w w' p (.cells (cs.setIfInBounds i v) t fr) := by
 subst h
 refine ⟨⟨rfl, rfl, rfl, by simp [World.setCell], fun q x hq hx => ?_⟩, by simp [World.setCell], by simp [World.setCell, Array.getElem?_modify, hb]⟩
 rw [Below.heap_setCell _ _ _ _ (fun e => hq e)]
 exact hx
theorem Sts.of_row {w w' : World} {p : Nat} {cs cs' : Array Value} {t : TypeId} {fr : Nat × Nat} (h : w' = w.setRow p cs') (hb : w.heap[p]? = some (.cells cs t fr)) : Sts w w' p (.cells cs' t fr) := by
 subst h
 exact ⟨⟨rfl, rfl, rfl, by simp [World.setRow], fun q x hq hx => (setRow_other w p q _ (fun e => hq e)).trans hx⟩, by simp [World.setRow], setRow_heap w p cs cs' t fr hb⟩
structure Bk (w : World) (p : Nat) (cs : Array Value) (t : TypeId) : Prop where
  blk : w.heap[p]? = some (.cells cs t (0, 0))
theorem Bk.new {w w' : World} {p : Nat} {cs : Array Value} {t : TypeId} (h : New w w' p (.cells cs t)) : Bk w' p cs t := ⟨h.blk⟩
theorem Bk.to {w w' : World} {p : Nat} {cs : Array Value} {t : TypeId} (h : Bk w p cs t) {D : Nat → Prop} (c : Ch D w w') (hd : ¬ D p := by first | exact id | omega) : Bk w' p cs t := ⟨c.old _ _ hd h.blk⟩
theorem Bk.keep {w w' : World} {p : Nat} {cs : Array Value} {t : TypeId} (h : Bk w p cs t) (c : Ch No w w') : Bk w' p cs t := h.to c id
theorem Bk.put {w w' : World} {p : Nat} {cs : Array Value} {t : TypeId} (z : Sts w w' p (.cells cs t (0, 0))) : Bk w' p cs t := ⟨z.same⟩
theorem Bk.lt {w : World} {p : Nat} {cs : Array Value} {t : TypeId} (h : Bk w p cs t) : p < w.heap.size := blk_lt h.blk
theorem Bk.cell {w : World} {p i : Nat} {cs : Array Value} {t : TypeId} {v : Value} (h : Bk w p cs t) (hi : cs[i]? = some v) : w.cell? ⟨p, i, none⟩ = some v := blk_cell h.blk hi
theorem Bk.all' {w : World} {p : Nat} {cs : Array Value} {t : TypeId} (h : Bk w p cs t) {l : List Value} (e : cs.toList = l) : cellsAt w ⟨p, 0, none⟩ l := by
 subst e; exact blk_all (l := cs.toList) (by simpa using h.blk)
theorem Bk.part {w : World} {p o : Nat} {cs : Array Value} {t : TypeId} (h : Bk w p cs t) (m : Nat) {l : List Value} (e : (cs.toList.drop o).take m = l) : cellsAt w ⟨p, o, none⟩ l := by
 subst e
 refine blk_cells _ h.blk fun j v hj => ?_
 rw [List.getElem?_take] at hj
 split at hj
 · rw [List.getElem?_drop] at hj; simpa using hj
 · cases hj
theorem Bk.free {w : World} {p i : Nat} {cs : Array Value} {t : TypeId} (h : Bk w p cs t) : w.frozen? ⟨p, i, none⟩ = false := blk_free h.blk
section
variable {P : Program} {n : Fr} {k : K} {w : World} {d : Option Tmp} {ty : TypeId} {pos : String} {aft : Array Edge} {g : Option (Nat × Bool)}
theorem Rk {t : TypeId} {x y : Operand} {p i : Nat} {cs : Array Value} {te : TypeId} {v u : Value} (hz : ∀ w, (sizeOf t).run P w = .ok 1 w) (hx : ev k x = some (.pointer (some ⟨p, i, none⟩))) (hy : ev k y = some v) (hv : v.oneCell' = true) (hvc : v.cells = #[v]) (hb : Bk w p cs te) (hi : cs[i]? = some u) :
  Wk P n k w { dst := none, op := .store t x y, type := ty, pos := pos, after := aft, guard := g } (fun _ w' => Sts w w' p (.cells (cs.setIfInBounds i v) te (0, 0))) :=
 (Wk.store hz hx hy hv hvc (hb.cell hi) hb.free).mono fun _ _ h => Sts.of_cell h hb.blk
theorem Cl {t : TypeId} {x y : Operand} {p o sz : Nat} {l : List Value} {cs : Array Value} {te : TypeId} (hz : ∀ w, (sizeOf t).run P w = .ok sz w) (hx : ev k x = some (.pointer (some ⟨p, o, none⟩))) (hy : ev k y = some (.agg l.toArray)) (hl : l.length = sz) (h1 : l.all Value.oneCell' = true)
  (hb : Bk w p cs te) (hfit : o + l.length ≤ cs.size := by exact Nat.le_of_ble_eq_true rfl) :
  Wk P n k w { dst := none, op := .store t x y, type := ty, pos := pos, after := aft, guard := g } (fun _ w' => Sts w w' p (.cells (cs.toList.take o ++ l ++ cs.toList.drop (o + l.length)).toArray te (0, 0))) :=
 Wk.of_unit fun a ha => ⟨_, by
  have hst := run_storeCells_at P p o te l 0 cs w hb.blk (by simpa using hfit) (List.all_eq_true.1 h1)
  simp only [Nat.add_zero] at hst
  have hst' : (storeCells ⟨p, o, none⟩ l).run P w = _ := hst
  simp [execOp, ha.eval hx, ha.eval hy, Instr.storeAt, Instr.sureAddr, storeVar, hz, hl, Value.cells, hst'], Sts.of_row rfl hb.blk⟩
end
section
variable {P : Program} {n : Fr} {ops : Array Oper} {Q : Exit → Act → World → Prop} {k : K} {w : World} {l : List Oper} {S : World → Prop} {Lq : Act → World → Prop} {order : List (Nat × Bool)}
theorem Fits.set {a : Act} {t : Nat} {v : Value} (h : Fits n k a) (hv : kget k t = some v) : Fits n ((t, v) :: k) a := by
 refine ⟨h.defers, h.size, fun i u hi => ?_⟩
 by_cases e : t = i
 ·
  subst e
  rw [kget_cons_eq] at hi
  injection hi with hi
  subst hi
  exact h.known _ _ hv
 · rw [kget_cons_ne e] at hi; exact h.known i u hi
theorem Wh {b : Bool} (t : Nat) (hb : kget k t = some (.bool b)) (ht : b = true → VO P n ops Q l ((t, .bool true) :: k) w) (hf : b = false → VO P n ops Q l ((t, .bool false) :: k) w) : VO P n ops Q l k w := by
 intro a ha
 have h := ha.set hb
 cases b
 · exact hf rfl a h
 · exact ht rfl a h
theorem VO.split_if {p : Prop} [Decidable p] (t : Nat) (hb : kget k t = some (.bool (decide p))) (ht : p → VO P n ops Q l ((t, .bool true) :: k) w) (hf : ¬ p → VO P n ops Q l ((t, .bool false) :: k) w) : VO P n ops Q l k w :=
 Wh t hb (fun h => ht (of_decide_eq_true h)) (fun h => hf (of_decide_eq_false h))
theorem VH.split {b : Bool} (t : Nat) (hb : kget k t = some (.bool b)) (ht : b = true → VH P n ops Q S Lq order ((t, .bool true) :: k) w) (hf : b = false → VH P n ops Q S Lq order ((t, .bool false) :: k) w) : VH P n ops Q S Lq order k w := by
 intro a ha
 have h := ha.set hb
 cases b
 · exact hf rfl a h
 · exact ht rfl a h
theorem Wq {p : Prop} [Decidable p] (t : Nat) (hb : kget k t = some (.bool (decide p))) (ht : p → VH P n ops Q S Lq order ((t, .bool true) :: k) w) (hf : ¬ p → VH P n ops Q S Lq order ((t, .bool false) :: k) w) : VH P n ops Q S Lq order k w :=
 VH.split t hb (fun h => ht (of_decide_eq_true h)) (fun h => hf (of_decide_eq_false h))
theorem VH.late {i d : Nat} {v : Value} {o : Oper} (hr : Rn P n k w o v) (ho : ops[i]? = some o) (hd : o.dst = some d) (hg : guardOk ops k o.guard = some true) (hn : Nat.blt d n.sz = true) (hS : S w)
  (h : VH P n ops Q S Lq order ((d, v) :: k) w) : VH P n ops Q S Lq ((i, false) :: order) k w :=
 VH.wk (R := fun u w' => u = v ∧ w' = w) (Rv fun a ha => ⟨v, w, hr a ha, rfl, rfl⟩) ho hd hg hn (by rintro u w' ⟨rfl, rfl⟩; exact ⟨hS, h⟩)
theorem VQ.ret3 {m : Nat} {fn : Func} {R : Ending → World → Prop} {t u s : Nat} {v v' v'' : Value} (hf : fn.results = #[.tmp t, .tmp u, .tmp s]) (hv : kget k t = some v) (hv' : kget k u = some v') (hv'' : kget k s = some v'') (hR : R (.returned (.tuple #[v, v', v''])) w) : VQ ⟨m, []⟩ (bodyPost P fn R) .ret k w :=
 VQ.post rfl (fun a ha => by have h1 := ha.known t v hv; have h2 := ha.known u v' hv'; have h3 := ha.known s v'' hv''; simp [results, hf, h1, h2, h3]) hR
theorem Rl {m : Nat} {fn : Func} {R : Ending → World → Prop} {t sz : Nat} {ty : TypeId} {ad : Addr} {cs : List Value} (hf : fn.results = #[.cell t ty]) (hv : kget k t = some (.pointer (some ad))) (ht : ∀ w, (isAgg ty).run P w = .ok true w) (hz : ∀ w, (sizeOf ty).run P w = .ok sz w)
  (hl : cs.length = sz) (hc : cellsAt w ad cs) (hR : R (.returned (.agg cs.toArray)) w) : VQ ⟨m, []⟩ (bodyPost P fn R) .ret k w :=
 VQ.post rfl (fun a ha => by subst hl; have h1 := ha.known t _ hv; simp [results, hf, h1, loadVar, ht, hz, run_loadCells_at hc, asAddr]) hR
theorem VQ.retct {m : Nat} {fn : Func} {R : Ending → World → Prop} {t u sz : Nat} {ty : TypeId} {ad : Addr} {cs : List Value} {v : Value} (hf : fn.results = #[.cell t ty, .tmp u]) (hv : kget k t = some (.pointer (some ad))) (ht : ∀ w, (isAgg ty).run P w = .ok true w) (hz : ∀ w, (sizeOf ty).run P w = .ok sz w)
  (hl : cs.length = sz) (hc : cellsAt w ad cs) (hu : kget k u = some v) (hR : R (.returned (.tuple #[.agg cs.toArray, v])) w) : VQ ⟨m, []⟩ (bodyPost P fn R) .ret k w :=
 VQ.post rfl (fun a ha => by subst hl; have h1 := ha.known t _ hv; have h2 := ha.known u _ hu; simp [results, hf, h1, h2, loadVar, ht, hz, run_loadCells_at hc, asAddr]) hR
theorem kget_skip {k : K} {x : Nat × Value} {d : Nat} {u : Value} (hd : kget k d = none ∨ kget k d = some u) {i : Nat} {v : Value} (h : kget (x :: k) i = some v) : kget (x :: (d, u) :: k) i = some v := by
 obtain ⟨t, z⟩ := x
 by_cases e : t = i
 ·
  subst e
  rw [kget_cons_eq] at h ⊢
  exact h
 ·
  rw [kget_cons_ne e] at h ⊢
  by_cases e2 : d = i
  ·
   subst e2
   rw [kget_cons_eq]
   rcases hd with hd | hd
   · rw [hd] at h; cases h
   · rw [hd] at h; exact h
  · rw [kget_cons_ne e2]; exact h
theorem Qo {x : Nat × Value} {d : Nat} {u : Value} (hd : kget k d = none) (h : VO P n ops Q l (x :: k) w) : VO P n ops Q l (x :: (d, u) :: k) w :=
 fun a ha => h a ⟨ha.defers, ha.size, fun i v hi => ha.known i v (kget_skip (.inl hd) hi)⟩
theorem VO.fs {x : Nat × Value} {d : Nat} {u : Value} (hd : kget k d = some u) (h : VO P n ops Q l (x :: k) w) : VO P n ops Q l (x :: (d, u) :: k) w :=
 fun a ha => h a ⟨ha.defers, ha.size, fun i v hi => ha.known i v (kget_skip (.inr hd) hi)⟩
theorem Re {b0 b : Bool} (m g t : Nat) (hg : kget k g = some (.bool b0))
  (ht : b0 = true → VO P n ops Q (l.drop m) ((t, .bool b) :: (g, .bool true) :: k) w → VO P n ops Q l ((g, .bool true) :: k) w)
  (hf : b0 = false → VO P n ops Q (l.drop m) ((t, .bool false) :: (g, .bool false) :: k) w → VO P n ops Q l ((g, .bool false) :: k) w)
  (rest : VO P n ops Q (l.drop m) ((t, .bool (b0 && b)) :: k) w) : VO P n ops Q l k w := by
 intro a ha
 have h := ha.set hg
 cases b0
 · exact hf rfl (VO.fs hg rest) a h
 · exact ht rfl (VO.fs hg rest) a h
theorem Cz {b0 b : Bool} (m g t : Nat) (hg : kget k g = some (.bool b0))
  (ht : b0 = true → VO P n ops Q (l.drop m) ((t, .bool true) :: (g, .bool true) :: k) w → VO P n ops Q l ((g, .bool true) :: k) w)
  (hf : b0 = false → VO P n ops Q (l.drop m) ((t, .bool b) :: (g, .bool false) :: k) w → VO P n ops Q l ((g, .bool false) :: k) w)
  (rest : VO P n ops Q (l.drop m) ((t, .bool (b0 || b)) :: k) w) : VO P n ops Q l k w := by
 intro a ha
 have h := ha.set hg
 cases b0
 · exact hf rfl (VO.fs hg rest) a h
 · exact ht rfl (VO.fs hg rest) a h
end
section
variable {P : Program} {n : Fr} {ops : Array Oper} {Q : Exit → Act → World → Prop} {k : K} {w : World} {o : Oper} {rest : List Oper}
theorem Om {d : Nat} {v : Value} (hr : Rn P n k w o v) (hh : (o.dst, guardOk ops k o.guard, Nat.blt d n.sz) = (some d, some true, true)) (h : VO P n ops Q rest ((d, v) :: k) w) : VO P n ops Q (o :: rest) k w :=
 VO.mv hr (congrArg (·.1) hh) (congrArg (·.2.1) hh) (congrArg (·.2.2) hh) h
theorem Oq {d : Nat} {R : Value → World → Prop} (hw : Wk P n k w o R) (hh : (o.dst, guardOk ops k o.guard, Nat.blt d n.sz) = (some d, some true, true)) (h : ∀ v w', R v w' → VO P n ops Q rest ((d, v) :: k) w') : VO P n ops Q (o :: rest) k w :=
 VO.wk hw (congrArg (·.1) hh) (congrArg (·.2.1) hh) (congrArg (·.2.2) hh) h
theorem Oz {R : Value → World → Prop} (hw : Wk P n k w o R) (hh : (o.dst, guardOk ops k o.guard) = (none, some true)) (h : ∀ v w', R v w' → VO P n ops Q rest k w') : VO P n ops Q (o :: rest) k w :=
 VO.wk0 hw (congrArg (·.1) hh) (congrArg (·.2) hh) h
theorem Oy {d : Nat} (hh : (o.dst, guardOk ops k o.guard, Nat.blt d n.sz) = (some d, some false, true)) (h : VO P n ops Q rest ((d, undef) :: k) w) : VO P n ops Q (o :: rest) k w :=
 VO.skip (congrArg (·.1) hh) (congrArg (·.2.1) hh) (congrArg (·.2.2) hh) h
end
section
variable {P : Program} {n : Fr} {ops : Array Oper} {Q : Exit → Act → World → Prop} {S : World → Prop} {Lq : Act → World → Prop} {order : List (Nat × Bool)} {k : K} {w : World} {o : Oper}
theorem Hm {i d : Nat} {v : Value} (hr : ∀ w', S w' → Rn P n k w' o v) (hh : (ops[i]?, o.dst, guardOk ops k o.guard, Nat.blt d n.sz) = (some o, some d, some true, true)) (h : VH P n ops Q S Lq order ((d, v) :: k) w) : VH P n ops Q S Lq ((i, true) :: order) k w :=
 VH.mv hr (congrArg (·.1) hh) (congrArg (·.2.1) hh) (congrArg (·.2.2.1) hh) (congrArg (·.2.2.2) hh) h
theorem Hq {i d : Nat} {R : Value → World → Prop} (hw : Wk P n k w o R) (hh : (ops[i]?, o.dst, guardOk ops k o.guard, Nat.blt d n.sz) = (some o, some d, some true, true)) (h : ∀ v w', R v w' → S w' ∧ VH P n ops Q S Lq order ((d, v) :: k) w') : VH P n ops Q S Lq ((i, false) :: order) k w :=
 VH.wk hw (congrArg (·.1) hh) (congrArg (·.2.1) hh) (congrArg (·.2.2.1) hh) (congrArg (·.2.2.2) hh) h
theorem Hz {i : Nat} {R : Value → World → Prop} (hw : Wk P n k w o R) (hh : (ops[i]?, o.dst, guardOk ops k o.guard) = (some o, none, some true)) (h : ∀ v w', R v w' → S w' ∧ VH P n ops Q S Lq order k w') : VH P n ops Q S Lq ((i, false) :: order) k w :=
 VH.wk0 hw (congrArg (·.1) hh) (congrArg (·.2.1) hh) (congrArg (·.2.2) hh) h
theorem Hy {i d : Nat} (hh : (ops[i]?, o.dst, guardOk ops k o.guard, Nat.blt d n.sz) = (some o, some d, some false, true)) (h : VH P n ops Q S Lq order ((d, undef) :: k) w) : VH P n ops Q S Lq ((i, true) :: order) k w :=
 VH.skip (congrArg (·.1) hh) (congrArg (·.2.1) hh) (congrArg (·.2.2.1) hh) (congrArg (·.2.2.2) hh) h
end
theorem bX : (∀ a b : Bool, ((a && b) = true) = (a = true ∧ b = true)) ∧ (∀ a b : Bool, ((a || b) = true) = (a = true ∨ b = true)) ∧ (∀ b : Bool, ((!b) = true) = (b = false)) ∧ (∀ b : Bool, ((!b) = false) = (b = true)) ∧ (∀ x y : Bool, ((x && y) = false) ↔ (x = false ∨ y = false)) ∧ (∀ x y : Bool, ((x || y) = false) ↔ (x = false ∧ y = false)) ∧ (∀ (p : Prop) [Decidable p], (decide p = true) = p) ∧ ∀ (p : Prop) [Decidable p], (decide p = false) ↔ ¬p :=
 ⟨fun a b => by simp, fun a b => by simp, fun b => by simp, fun b => by simp, fun x y => (by cases x <;> cases y <;> simp), fun x y => (by cases x <;> cases y <;> simp), fun p _ => by simp, fun p _ => by simp⟩
section
variable {P : Program} {n : Fr} {ops : Array Oper} {Q : Exit → Act → World → Prop} {k : K} {w : World} {o : Oper} {rest : List Oper}
theorem Wu {dd : Option Tmp} {ty : TypeId} {pos : String} {aft : Array Edge} {g : Option (Nat × Bool)} {x : Operand} {d : Nat} {v : Value} (hr : ev k x = some v) (hh : (dd, guardOk ops k g, Nat.blt d n.sz) = (some d, some true, true)) (h : VO P n ops Q rest ((d, v) :: k) w) : VO P n ops Q ({ dst := dd, op := .move x, type := ty, pos := pos, after := aft, guard := g } :: rest) k w := Om (Qc hr) hh h
theorem Ww {dd : Option Tmp} {ty : TypeId} {pos : String} {aft : Array Edge} {g : Option (Nat × Bool)} {x : Operand} {d : Nat} {v : Value} (hr : ev k x = some v) (hh : (dd, guardOk ops k g, Nat.blt d n.sz) = (some d, some true, true)) (h : VO P n ops Q rest ((d, v) :: k) w) : VO P n ops Q ({ dst := dd, op := .assign x, type := ty, pos := pos, after := aft, guard := g } :: rest) k w := Om (Qd hr) hh h
end
section
variable {P : Program} {n : Fr} {ops : Array Oper} {Q : Exit → Act → World → Prop} {S : World → Prop} {Lq : Act → World → Prop} {order : List (Nat × Bool)} {k : K} {w : World} {o : Oper}
theorem Ws {i d : Nat} {v : Value} (hr : ∀ {w'}, Rn P n k w' o v) (hh : (ops[i]?, o.dst, guardOk ops k o.guard, Nat.blt d n.sz) = (some o, some d, some true, true)) (h : VH P n ops Q S Lq order ((d, v) :: k) w) : VH P n ops Q S Lq ((i, true) :: order) k w := Hm (fun _ _ => hr) hh h
theorem Wt {i d : Nat} {v : Value} (hr : ∀ {w'}, S w' → Rn P n k w' o v) (hh : (ops[i]?, o.dst, guardOk ops k o.guard, Nat.blt d n.sz) = (some o, some d, some true, true)) (h : VH P n ops Q S Lq order ((d, v) :: k) w) : VH P n ops Q S Lq ((i, true) :: order) k w := Hm (fun _ => hr) hh h
theorem Wv {dd : Option Tmp} {ty : TypeId} {pos : String} {aft : Array Edge} {g : Option (Nat × Bool)} {x : Operand} {i d : Nat} {v : Value} (hr : ev k x = some v) (hh : (ops[i]?, dd, guardOk ops k g, Nat.blt d n.sz) = (some { dst := dd, op := .move x, type := ty, pos := pos, after := aft, guard := g }, some d, some true, true)) (h : VH P n ops Q S Lq order ((d, v) :: k) w) : VH P n ops Q S Lq ((i, true) :: order) k w := Ws (Qc hr) hh h
theorem Wx {dd : Option Tmp} {ty : TypeId} {pos : String} {aft : Array Edge} {g : Option (Nat × Bool)} {x : Operand} {i d : Nat} {v : Value} (hr : ev k x = some v) (hh : (ops[i]?, dd, guardOk ops k g, Nat.blt d n.sz) = (some { dst := dd, op := .assign x, type := ty, pos := pos, after := aft, guard := g }, some d, some true, true)) (h : VH P n ops Q S Lq order ((d, v) :: k) w) : VH P n ops Q S Lq ((i, true) :: order) k w := Ws (Qd hr) hh h
end
theorem Wy {P : Program} {n : Fr} {Q : Exit → Act → World → Prop} {k : K} {w : World} {ops : Array Oper} {id : Nat} {l : List Oper} {y : Code} (h : VO P n l.toArray (Exit.then (y.wpIn (Fw none) 0 P Q) Q) l k w) : VO P n ops (Exit.then ((Code.seq (.region id l.toArray false) y).wpIn (Fw none) 0 P Q) Q) [] k w := Qf (Qa (Qe (Qb h)))
theorem Wz {P : Program} {n : Fr} {Q : Exit → Act → World → Prop} {k : K} {w : World} {ops : Array Oper} {x y : Code} (h : VC (r := none) P n x (Exit.then (y.wpIn (Fw none) 0 P Q) Q) k w) : VO P n ops (Exit.then ((Code.seq x y).wpIn (Fw none) 0 P Q) Q) [] k w := Qf (Qa (Qe h))
theorem Ka {P : Program} {n : Fr} {Q : Exit → Act → World → Prop} {k : K} {w : World} {ops : Array Oper} {y : Code} (h : VC (r := none) P n y Q k w) : VO P n ops (Exit.then (y.wpIn (Fw none) 0 P Q) Q) [] k w := Qf (Qa h)
theorem Kb {P : Program} {n : Fr} {Q : Exit → Act → World → Prop} {k : K} {w : World} {id : Nat} {l : List Oper} {y : Code} (h : VO P n l.toArray (Exit.then (y.wpIn (Fw none) 0 P Q) Q) l k w) : VC (r := none) P n (.seq (.region id l.toArray false) y) Q k w := Qe (Qb h)
section
variable {P : Program} {n : Fr} {ops : Array Oper} {Q : Exit → Act → World → Prop} {S : World → Prop} {Lq : Act → World → Prop} {order : List (Nat × Bool)} {k : K} {w : World} {o : Oper} {rest : List Oper}
theorem Kc {d : Nat} {F : Nat → Value} {X : Nat → Obj} (hw : Wk P n k w o (fun v w' => ∃ p, v = F p ∧ New w w' p (X p))) (hh : (o.dst, guardOk ops k o.guard, Nat.blt d n.sz) = (some d, some true, true)) (h : ∀ p w', New w w' p (X p) → Ch No w w' → p = w.heap.size → w'.heap.size = w.heap.size + 1 → VO P n ops Q rest ((d, F p) :: k) w') : VO P n ops Q (o :: rest) k w := Oq hw hh (by rintro v w' ⟨p, rfl, N⟩; exact h p w' N N.ch N.p N.size)
theorem Kd {i d : Nat} {F : Nat → Value} {X : Nat → Obj} (hw : Wk P n k w o (fun v w' => ∃ p, v = F p ∧ New w w' p (X p))) (hh : (ops[i]?, o.dst, guardOk ops k o.guard, Nat.blt d n.sz) = (some o, some d, some true, true)) (h : ∀ p w', New w w' p (X p) → Ch No w w' → p = w.heap.size → w'.heap.size = w.heap.size + 1 → S w' ∧ VH P n ops Q S Lq order ((d, F p) :: k) w') : VH P n ops Q S Lq ((i, false) :: order) k w := Hq hw hh (by rintro v w' ⟨p, rfl, N⟩; exact h p w' N N.ch N.p N.size)
end
theorem Sts.cz {w w2 : World} {p : Nat} {o : Obj} (h : Sts w w2 p o) : Ch (Is p) w w2 ∧ w2.heap.size = w.heap.size := ⟨h.ch, h.size⟩
theorem O {α : Sort _} {a : α} : a = a := rfl
section
variable {P : Program} {n : Fr} {r : Option Nat} {Q : Exit → Act → World → Prop} {k : K} {w : World}
theorem Ke {σ : Type} {kf : σ → K} {J : σ → World → Prop} {m : σ → Nat} {s : σ} (s' : σ) (hJ : J s' w) (hm : m s' < m s := by first | omega | (dsimp only; omega)) (hk : kall k (kf s') := by repeat (first | exact trivial | refine ⟨rfl, ?_⟩)) : VQ n (Exit.then (LoopPost n kf J m s) Q) .normal k w := Ce s' hm hJ hk
theorem Kf {c : Code} {σ : Type} (kf : σ → K) (J : σ → World → Prop) (m : σ → Nat) (s : σ) (hJ : J s w) (round : ∀ s w, J s w → VC (r := r) P n c (Exit.then (LoopPost n kf J m s) Q) (kf s) w) (hk : kall k (kf s) := by repeat (first | exact trivial | refine ⟨rfl, ?_⟩)) : VC (r := r) P n (.loop c) Q k w := Ci kf J m s hJ hk round
end
abbrev Kg (n : Int) : Value := .int .i64 n
abbrev Kh (p : Nat) : Value := .pointer (some ⟨p, 0, none⟩)
abbrev Ki (p : Nat) : Option Addr := some ⟨p, 0, none⟩
def Kk : List Nat → List (Nat × Bool)
 | [] => []
 | x :: t => (x / 2, x % 2 == 0) :: Kk t
theorem Kj {P : Program} {n : Fr} {Q : Exit → Act → World → Prop} {k : K} {w : World} {id : Nat} {l : List Oper} (m : Nat) (order : List Nat) (D : Nat → Prop) (h : ∀ w1, Ch No w w1 → w.heap.size ≤ w1.heap.size → VH P n l.toArray (NoPanic Q) (fun w' => Ch D w1 w') (fun a' w' => wpList P l.toArray (NoPanic Q) (l.drop m) a' w') (Kk order) k w1) (hm : P.follows .mixedOrders = true := by exact mixed) (hB : Region.orderOk .any l.toArray m (Kk order) = true := by kernel_rfl) : VC (r := none) P n (.region id l.toArray true) Q k w := Cf m _ (fun w1 w' => Ch D w1 w') hm hB (fun _ _ => Ch.refl _ _) (fun w1 e => h w1 (Ch.of_drew e) (Ch.of_drew e).size)
end Go.Tm
namespace Go.Tm
open Go.RowKit
def Inf (P : Program) (e : TypeId) (z : Value) (sz by' : Nat) : Prop := ∃ i, P.info? e = some i ∧ i.zero = some z ∧ i.size = sz ∧ i.bytes = by'
theorem add_add (a : Addr) (m n : Nat) : (a.add m).add n = a.add (m + n) := by
 unfold Addr.add
 by_cases hm : m = 0 <;> by_cases hn : n = 0 <;> simp [hm, hn, Nat.add_assoc]
def sAddr (A : Option Addr) : Addr := A.getD ⟨0, 0, none⟩
structure SlR (S : Nat → Prop) (w : World) (A : Option Addr) (l sz : Nat) (cs : List Value) : Prop where
  len : cs.length = l * sz
  ne : 0 < l → ∃ ad, A = Option.some ad
  cells : ∀ ad, A = Option.some ad → cellsAt w ad cs
  ok : ∀ ad, A = Option.some ad → S ad.block
theorem cell_cells {w : World} {a : Addr} {v : Value} (h : w.cell? a = some v) : ∃ cs t fr, w.heap[a.block]? = some (.cells cs t fr) := by
 unfold World.cell? at h
 split at h
 · exact ⟨_, _, _, by assumption⟩
 · cases h
abbrev isC (w : World) (q : Nat) : Prop := ∃ cs t fr, w.heap[q]? = some (.cells cs t fr)
theorem SlR.to {S D : Nat → Prop} {w w' : World} {A : Option Addr} {l sz : Nat} {cs : List Value} (h : SlR S w A l sz cs) (c : Ch D w w') (hd : ∀ q, q < w.heap.size → S q → isC w q → ¬ D q := by first | exact fun _ _ _ _ => id | (intro q h1 h2 hx h3; omega)) : SlR S w' A l sz cs :=
 ⟨h.len, h.ne, fun ad ha j v hj => by
  have h0 := h.cells ad ha j v hj
  exact c.cell (hd _ (World.block_lt_of_cell? w _ h0) (by rw [add_block]; exact h.ok ad ha) (cell_cells h0)) h0, h.ok⟩
theorem SlR.keep {S : Nat → Prop} {w w' : World} {A : Option Addr} {l sz : Nat} {cs : List Value} (h : SlR S w A l sz cs) (c : Ch No w w') : SlR S w' A l sz cs := h.to c fun _ _ _ _ => id
theorem SlR.weak {S S' : Nat → Prop} {w : World} {A : Option Addr} {l sz : Nat} {cs : List Value} (h : SlR S w A l sz cs) (hb : ∀ q, S q → S' q) : SlR S' w A l sz cs := ⟨h.len, h.ne, h.cells, fun ad ha => hb _ (h.ok ad ha)⟩
theorem SlR.nil (S : Nat → Prop) (w : World) (sz : Nat) : SlR S w none 0 sz [] := ⟨by simp, fun h => absurd h (by omega), fun _ _ j v hj => by simp at hj, fun _ h => by cases h⟩
theorem SlR.one {S : Nat → Prop} {w : World} {A : Option Addr} {l : Nat} {cs : List Value} (h : SlR S w A l 1 cs) {i : Nat} (hi : i < l) {v : Value} (hv : cs[i]? = Option.some v) : w.cell? ((sAddr A).add (i * 1)) = Option.some v := by
 obtain ⟨ad, rfl⟩ := h.ne (by omega)
 rw [Nat.mul_one]
 exact h.cells ad O _ v hv
theorem SlR.get {S : Nat → Prop} {α : Type} {f : α → Value} {w : World} {A : Option Addr} {l : Nat} {xs : List α} (h : SlR S w A l 1 (xs.map f)) (d : α) {i : Int} (h0 : 0 ≤ i) (h1 : i < l) : w.cell? ((sAddr A).add (i.toNat * 1)) = Option.some (f (xs.getD i.toNat d)) := by
 have hl : xs.length = l := by have := h.len; simp at this; omega
 refine h.one (by omega) ?_
 have : i.toNat < xs.length := by omega
 simp [List.getD, this]
theorem SlR.part {S : Nat → Prop} {w : World} {A : Option Addr} {l sz : Nat} {cs : List Value} (h : SlR S w A l sz cs) {i : Nat} (hi : i < l) {ds : List Value} (hd : ∀ j v, ds[j]? = Option.some v → cs[i * sz + j]? = Option.some v) : cellsAt w ((sAddr A).add (i * sz)) ds := by
 obtain ⟨ad, rfl⟩ := h.ne (by omega)
 intro j v hj
 rw [add_add]
 exact h.cells ad O _ v (hd j v hj)
structure CaR (S : Nat → Prop) (w : World) (ad : Addr) (cs : List Value) : Prop where
  at' : cellsAt w ad cs
  ok : S ad.block
theorem CaR.to {S D : Nat → Prop} {w w' : World} {ad : Addr} {cs : List Value} (h : CaR S w ad cs) (c : Ch D w w') (hd : ∀ q, q < w.heap.size → S q → isC w q → ¬ D q := by first | exact fun _ _ _ _ => id | (intro q h1 h2 hx h3; omega)) : CaR S w' ad cs :=
 ⟨fun j v hj => by
  have h0 := h.at' j v hj
  exact c.cell (hd _ (World.block_lt_of_cell? w _ h0) (by rw [add_block]; exact h.ok) (cell_cells h0)) h0, h.ok⟩
theorem CaR.keep {S : Nat → Prop} {w w' : World} {ad : Addr} {cs : List Value} (h : CaR S w ad cs) (c : Ch No w w') : CaR S w' ad cs := h.to c fun _ _ _ _ => id
abbrev At (r : Nat) : Nat → Prop := fun q => r = q + 1
def Ow (w : World) (r : Nat) (e : TypeId) (sz : Nat) (A : Option Addr) (l c : Nat) (cs : List Value) : Prop :=
 cs.length = l * sz ∧ ((A = none ∧ l = 0 ∧ c = 0 ∧ r = 0) ∨ ∃ g cur, A = some ⟨g, 0, none⟩ ∧ r = g + 1 ∧ w.heap[g]? = some (.cells cur e (0, 0)) ∧ l ≤ c ∧ c ≤ maxLen ∧ cur.size = c * sz ∧ cur.toList.take (l * sz) = cs)
theorem Ow.nil (w : World) (e : TypeId) (sz : Nat) : Ow w 0 e sz none 0 0 [] := ⟨by simp, .inl ⟨rfl, rfl, rfl, rfl⟩⟩
theorem Ow.sl {w : World} {r : Nat} {e : TypeId} {sz : Nat} {A : Option Addr} {l c : Nat} {cs : List Value} (h : Ow w r e sz A l c cs) : SlR (At r) w A l sz cs := by
 obtain ⟨h1, h2⟩ := h
 rcases h2 with ⟨rfl, rfl, rfl, rfl⟩ | ⟨g, cur, rfl, rfl, hg, _, _, _, ht⟩
 ·
  have : cs = [] := List.eq_nil_of_length_eq_zero (by simpa using h1)
  subst this
  exact SlR.nil _ w sz
 ·
  refine ⟨h1, fun _ => ⟨_, O⟩, ?_, ?_⟩
  ·
   intro ad ha
   injection ha with ha
   subst ha
   refine blk_cells cs hg ?_
   intro j v hj
   rw [Nat.zero_add]
   rw [← ht, List.getElem?_take] at hj
   split at hj
   · simpa using hj
   · cases hj
  ·
   intro ad ha
   injection ha with ha
   subst ha
   rfl
theorem Ow.to {D : Nat → Prop} {w w' : World} {r : Nat} {e : TypeId} {sz : Nat} {A : Option Addr} {l c : Nat} {cs : List Value} (h : Ow w r e sz A l c cs) (m : Ch D w w') (hd : ∀ q, q < w.heap.size → r = q + 1 → isC w q → ¬ D q := by first | exact fun _ _ _ _ => id | (intro q h1 h2 hx h3; omega)) : Ow w' r e sz A l c cs := by
 obtain ⟨h1, h2⟩ := h
 refine ⟨h1, ?_⟩
 rcases h2 with h2 | ⟨g, cur, rfl, ho, hg, r⟩
 · exact .inl h2
 · exact .inr ⟨g, cur, O, ho, m.old _ _ (hd g (blk_lt hg) ho ⟨_, _, _, hg⟩) hg, r⟩
theorem Ow.keep {w w' : World} {r : Nat} {e : TypeId} {sz : Nat} {A : Option Addr} {l c : Nat} {cs : List Value} (h : Ow w r e sz A l c cs) (m : Ch No w w') : Ow w' r e sz A l c cs := h.to m fun _ _ _ _ => id
theorem Ow.lt {w : World} {r : Nat} {e : TypeId} {sz : Nat} {A : Option Addr} {l c : Nat} {cs : List Value} (h : Ow w r e sz A l c cs) : r ≤ w.heap.size := by
 rcases h.2 with ⟨_, _, _, rfl⟩ | ⟨g, cur, _, rfl, hg, _⟩
 · omega
 · have := blk_lt hg; omega
theorem Ow.len {w : World} {r : Nat} {e : TypeId} {sz : Nat} {A : Option Addr} {l c : Nat} {cs : List Value} (h : Ow w r e sz A l c cs) : cs.length = l * sz := h.1
theorem Ow.of_new {w w' : World} {p : Nat} {cs : List Value} {e : TypeId} {sz l : Nat} (h : New w w' p (.cells cs.toArray e)) (hl : cs.length = l * sz) (hm : l ≤ maxLen) : Ow w' (p + 1) e sz (some ⟨p, 0, none⟩) l l cs :=
 ⟨hl, .inr ⟨p, cs.toArray, rfl, rfl, h.blk, Nat.le_refl _, hm, by simp [hl], by simp [← hl]⟩⟩
theorem SlR.of_new {w w' : World} {p : Nat} {cs : List Value} {e : TypeId} {sz l : Nat} (h : New w w' p (.cells cs.toArray e)) (hl : cs.length = l * sz) : SlR (Is p) w' (some ⟨p, 0, none⟩) l sz cs :=
 ⟨hl, fun _ => ⟨_, rfl⟩, fun ad ha => (by injection ha with ha; subst ha; exact blk_all h.blk), fun ad ha => (by injection ha with ha; subst ha; rfl)⟩
section
variable {P : Program} {n : Fr} {k : K} {w : World}
variable {d : Option Tmp} {ty : TypeId} {pos : String} {aft : Array Edge} {g : Option (Nat × Bool)}
theorem run_append_ow {S : Nat → Prop} {r : Nat} {t ty e : TypeId} {z : Value} {sz by' : Nat} (ht : P.underlying t = some (.slice e)) (hi : Inf P e z sz by') (hzs : z.cells.size = sz) (hsz : 0 < sz)
  {A : Option Addr} {l c : Nat} {cs : List Value} (hown : Ow w r e sz A l c cs) {X : Option Addr} {m xc : Nat} {news : List Value} (hx : SlR S w X m sz news) (h1 : ∀ u ∈ news, u.oneCell' = true)
  (hnil : m = 0 → X = none → xc = 0)
  (hbytes : (l + m) * by' ≤ 140737488355328) (hmax : l + m ≤ maxLen) :
  ∃ r' A' c' w', (Builtin.append_ #[t, t] ty #[.slice A l c, .slice X m xc]).run P w = .ok (.slice A' (l + m) c') w' ∧ Ow w' r' e sz A' (l + m) c' (cs ++ news) ∧ Ch (At r) w w' ∧ (r' = r ∨ w.heap.size < r') := by
 obtain ⟨i, hi, hz, rfl, rfl⟩ := hi
 have hsmall : l + m ≤ 9223372036854775807 := by simp only [maxLen] at hmax; omega
 have hl : news.length = m * i.size := hx.len
 obtain ⟨hlen0, hown⟩ := hown
 have hlen : (cs ++ news).length = (l + m) * i.size := by rw [List.length_append, hlen0, hl, Nat.add_mul]
 have grown : ∀ (old : Nat), old < l + m →
   Ow (w.drew.alloc (.cells (cs.toArray ++ news.toArray ++ Builtin.zeroCells z.cells (grownCap w (l + m) old e - (l + m))) e)) (w.heap.size + 1) e i.size (some ⟨w.heap.size, 0, none⟩) (l + m) (grownCap w (l + m) old e) (cs ++ news) ∧
   Ch (At r) w (w.drew.alloc (.cells (cs.toArray ++ news.toArray ++ Builtin.zeroCells z.cells (grownCap w (l + m) old e - (l + m))) e)) := by
  intro old ho
  have hge := grownCap_ge w (l + m) old e
  have hcm : grownCap w (l + m) old e ≤ maxLen := grownCap_le_maxLen w (l + m) old e hmax
  refine ⟨⟨hlen, .inr ⟨w.heap.size, _, O, O, heap_alloc_new w.drew _, hge, hcm, ?_, ?_⟩⟩, ⟨O, O, O, by simp, fun q x _ hx => (heap_alloc_old w.drew _ (blk_lt hx)).trans hx⟩⟩
  ·
   simp only [Array.size_append, List.size_toArray, size_zeroCells, hzs, hlen0, hl, ← Nat.add_mul]
   congr 1
   omega
  ·
   simp only [Array.toList_append, List.append_assoc]
   rw [← List.append_assoc, ← hlen]
   exact List.take_left
 by_cases hm : m = 0
 ·
  subst hm
  have hn : news = [] := List.eq_nil_of_length_eq_zero (by simpa using hl)
  subst hn
  refine ⟨r, A, c, w, ?_, ?_, Ch.refl _ _, .inl O⟩
  ·
   have hlc : l ≤ c := by rcases hown with ⟨_, rfl, rfl, _⟩ | ⟨_, _, _, _, _, h, _⟩ <;> omega
   have hf : (Builtin.firstCells i.size 0 (.slice X 0 xc)).run P w = .ok #[] w := by cases X <;> simp [Builtin.firstCells, loadCells, loadCellsFrom]
   cases A <;> simp [Builtin.append_, run_underlying ht, sizeOf, typeInfo, hi, Builtin.lenOf, hlc, hf, storeCells]
  ·
   simp only [List.append_nil]
   exact ⟨hlen0, hown⟩
 ·
  obtain ⟨a, rfl⟩ := hx.ne (by omega)
  have hnews : ∀ j u, news[j]? = some u → w.cell? (a.add j) = some u := hx.cells a rfl
  rcases hown with ⟨rfl, rfl, rfl, rfl⟩ | ⟨p, cur, rfl, rfl, hg, hnc, hcm, hcs, htake⟩
  ·
   have hxs : cs = [] := List.eq_nil_of_length_eq_zero (by simpa using hlen0)
   subst hxs
   have hr := run_append_nil (P := P) w t ty e i z ht hi hz a m xc news hl hnews (by omega) (by omega) (by have hb := hbytes; simp only [Nat.zero_add] at hb; omega)
   have hgr := grown 0 (by omega)
   simp only [Nat.zero_add, List.nil_append, Array.empty_append] at hgr ⊢
   exact ⟨_, _, _, _, hr, hgr.1, hgr.2, .inr (by omega)⟩
  ·
   by_cases hroom : l + m ≤ c
   ·
    have hfit : l * i.size + news.length ≤ cur.size := by rw [hl, hcs, ← Nat.add_mul]; exact Nat.mul_le_mul_right _ hroom
    have hr := run_append_room (P := P) w t ty e i ht hi p l c cur hg a m xc news hl hnews h1 hroom hfit
    refine ⟨_, _, _, _, hr, ⟨hlen, .inr ⟨p, _, O, O, setRow_heap w p cur _ e _ hg, hroom, hcm, ?_, ?_⟩⟩, (Sts.of_row O hg).ch.more (fun q _ hq => by rw [hq]), .inl O⟩
    ·
     simp only [List.size_toArray, List.length_append, List.length_take, List.length_drop, Array.length_toList]
     omega
    ·
     rw [htake, ← hlen]
     exact List.take_left
   ·
    have holds : ∀ j u, cs[j]? = some u → w.cell? ((⟨p, 0, none⟩ : Addr).add j) = some u := by
     have := Ow.sl (c := c) ⟨hlen0, .inr ⟨p, cur, rfl, rfl, hg, hnc, hcm, hcs, htake⟩⟩
     exact this.cells _ O
    have hr := run_append_grow (P := P) w t ty e i z ht hi hz ⟨p, 0, none⟩ l c cs hlen0 holds a m xc news hl hnews (by omega) (by omega) (growslice_fits (by omega) hbytes)
    have hgr := grown c (by omega)
    exact ⟨_, _, _, _, hr, hgr.1, hgr.2, .inr (by omega)⟩
theorem Cm {S : Nat → Prop} {r : Nat} {t e : TypeId} {z : Value} {sz by' : Nat} {x y : Operand} (ht : P.underlying t = some (.slice e)) (hi : Inf P e z sz by') (hzs : z.cells.size = sz) (hsz : 0 < sz) 
  {A : Option Addr} {l c : Nat} {cs : List Value} {X : Option Addr} {m xc : Nat} {news : List Value} (hex : ev k x = some (.slice A l c)) (hey : ev k y = some (.slice X m xc)) (hown : Ow w r e sz A l c cs) (hx : SlR S w X m sz news) (h1 : news.all Value.oneCell' = true)
  (hnil : m = 0 → X = none → xc = 0) (hbytes : (l + m) * by' ≤ 140737488355328) (hmax : l + m ≤ maxLen) :
  Wk P n k w { dst := d, op := .call { callee := .builtin .append, args := #[x, y], argTypes := #[t, t] }, type := ty, pos := pos, after := aft, guard := g }
   (fun v w' => ∃ r' A' c', v = .slice A' (l + m) c' ∧ Ow w' r' e sz A' (l + m) c' (cs ++ news) ∧ Ch (At r) w w' ∧ (r' = r ∨ w.heap.size < r')) :=
 Rv fun a ha => by
  obtain ⟨r', A', c', w', hr, ho, hg, hf⟩ := run_append_ow (P := P) (ty := ty) ht hi hzs hsz hown hx (List.all_eq_true.1 h1) hnil hbytes hmax
  exact ⟨_, w', by simp [execOp, resolve, invoke, builtin, ha.eval hex, ha.eval hey, hr], r', A', c', O, ho, hg, hf⟩
theorem Wk.make {t e : TypeId} {z : Value} {sz by' : Nat} {x y : Operand} {ql qc : IntKind} {l c : Int} (ht : P.underlying t = some (.slice e)) (hi : Inf P e z sz by') (hx : ev k x = some (.int ql l)) (hy : ev k y = some (.int qc c))
  (h0 : 0 ≤ l) (hlc : l ≤ c) (hb : (by' : Int) * c ≤ 281474976710656) (hm : c ≤ 9223372036854775807) :
  Wk P n k w { dst := d, op := .makeSlice t x y, type := ty, pos := pos, after := aft, guard := g }
   (fun v w' => ∃ p, v = .slice (some ⟨p, 0, none⟩) l.toNat c.toNat ∧ New w w' p (.cells (madeCells z.cells (c.toNat * sz)) e)) :=
 Rv fun a ha => by
  obtain ⟨i, hi, hz, rfl, rfl⟩ := hi
  have hr := run_make (P := P) w t e i z ht hi hz ql qc l c h0 hlc hb hm
  exact ⟨_, _, by simp [execOp, ha.eval hx, ha.eval hy, hr], _, O, O, O⟩
def evp (k : K) : List (Nat × Operand) → Option (List (Nat × Value))
 | [] => some []
 | (i, x) :: r => match ev k x with
  | none => none
  | some v => match evp k r with
   | none => none
   | some l => some ((i, v) :: l)
theorem Fits.evalp {a : Act} (h : Fits n k a) : ∀ {xs : List (Nat × Operand)} {vs : List (Nat × Value)}, evp k xs = some vs → xs.map (fun (i, x) => (i, a.eval x)) = vs
 | [], _, hx => by simp only [evp, Option.some.injEq] at hx; subst hx; rfl
 | (i, x) :: r, vs, hx => by
  simp only [evp] at hx
  split at hx
  · cases hx
  ·
   rename_i v hv
   split at hx
   · cases hx
   ·
    rename_i l hl
    injection hx with hx
    subst hx
    simp [h.eval hv, h.evalp hl]
theorem Ct {t : TypeId} {xs : List (Nat × Operand)} {ps : List (Nat × Value)} {v : Value} (hx : evp k xs = some ps) (hr : ∀ w, (Instr.build t ps.toArray).run P w = .ok v w) :
  Rn P n k w { dst := d, op := .build t xs.toArray, type := ty, pos := pos, after := aft, guard := g } v :=
 fun a ha => by
  have h := ha.evalp hx
  have h' : Array.map (fun (x : Nat × Operand) => (x.1, a.eval x.2)) xs.toArray = ps.toArray := by rw [← h]; simp
  simp [execOp, h', hr]
def idxOk : List (Nat × Operand) → Nat → Bool
 | [], _ => true
 | (j, _) :: r, i => Nat.beq j i && idxOk r (i + 1)
theorem evals_idx (a : Act) : ∀ (xs : List (Nat × Operand)) (i : Nat) (vs : List Value), idxOk xs i = true → (xs.map (·.2)).map a.eval = vs → xs.map (fun x => (x.1, a.eval x.2)) = (vs.zipIdx i).map fun x => (x.2, x.1)
 | [], _, _, _, h => by subst h; rfl
 | (j, x) :: r, i, vs, ho, h => by
  simp only [idxOk, Bool.and_eq_true] at ho
  have hj := Nat.eq_of_beq_eq_true ho.1
  subst hj
  subst h
  simp only [List.map_cons, List.zipIdx_cons]
  rw [evals_idx a r (j + 1) _ ho.2 rfl]
def flat (vs : List Value) : List Value := vs.flatMap fun v => v.cells.toList
theorem Cv {t e : TypeId} {m : Nat} {z : Value} {sz by' : Nat} {xs : List (Nat × Operand)} {vs : List Value} (ht : P.underlying t = some (.slice e)) (hi : Inf P e z sz by') (hsz : 0 < sz) (hx : evs k (xs.map (·.2)) = some vs) (ho : idxOk xs 0 = true)
  (hl : vs.length = m) (hm : m * sz ≤ 16777216) (h0 : 0 < m) (hv : vs.all (fun v => Nat.beq v.cells.size sz) = true) :
  Wk P n k w { dst := d, op := .buildSlice t m xs.toArray, type := ty, pos := pos, after := aft, guard := g } (fun v w' => ∃ p, v = .slice (some ⟨p, 0, none⟩) m m ∧ New w w' p (.cells (flat vs).toArray e)) :=
 Rv fun a ha => by
  have h := evals_idx a xs 0 vs ho (ha.evals hx)
  have h' : Array.map (fun (x : Nat × Operand) => (x.1, a.eval x.2)) xs.toArray = ((vs.zipIdx 0).map fun x => (x.2, x.1)).toArray := by rw [← h]; simp
  have hv : ∀ v ∈ vs, v.cells.size = sz := fun v h => Nat.eq_of_beq_eq_true (List.all_eq_true.1 hv v h)
  obtain ⟨i, hi, hz, hs, rfl⟩ := hi
  have hpos : 0 < m * sz := Nat.mul_pos h0 hsz
  have hf := Great.fill_whole hsz vs ((Array.range (m * sz)).map (z.cells[· % z.cells.size]!)) hv (by simp [hl])
  have hr := run_buildSlice (P := P) w t e m ((vs.zipIdx 0).map fun x => (x.2, x.1)).toArray (flat vs).toArray i z ht hi hz (by rw [hs]; omega) (by rw [hs]; omega) (by rw [hs]; exact hf)
  exact ⟨_, _, by simp only [execOp, h']; simp [hr], _, O, O, O⟩
theorem Kl {t e : TypeId} {m : Nat} {z : Value} {sz by' : Nat} {xs : List (Nat × Operand)} {vs : List Value} (ht : P.underlying t = some (.slice e)) (hi : Inf P e z sz by') (hx : evs k (xs.map (·.2)) = some vs) (ho : idxOk xs 0 = true) (hsz : 0 < sz := by decide) (hl : vs.length = m := by rfl) (hm : m * sz ≤ 16777216 := by decide) (h0 : 0 < m := by decide) (hv : vs.all (fun v => Nat.beq v.cells.size sz) = true := by rfl) :
  Wk P n k w { dst := d, op := .buildSlice t m xs.toArray, type := ty, pos := pos, after := aft, guard := g } (fun v w' => ∃ p, v = .slice (some ⟨p, 0, none⟩) m m ∧ New w w' p (.cells (flat vs).toArray e)) := Cv ht hi hsz hx ho hl hm h0 hv
theorem Qs {t e : TypeId} {x y : Operand} {A : Option Addr} {l c sz : Nat} {q : IntKind} {i : Int} (ht : P.underlying t = some (.slice e)) (hz : ∀ w, (sizeOf e).run P w = .ok sz w)
  (hx : ev k x = some (.slice A l c)) (hy : ev k y = some (.int q i)) (hA : ∃ ad, A = some ad) (h0 : 0 ≤ i := by omega) (h1 : i < l := by omega) :
  Rn P n k w { dst := d, op := .indexAddr t x y, type := ty, pos := pos, after := aft, guard := g } (.pointer (some ((sAddr A).add (i.toNat * sz)))) := by
 obtain ⟨ad, rfl⟩ := hA
 exact fun a ha => by simp [execOp, ha.eval hx, ha.eval hy, Instr.indexAt, run_underlying ht, asIntOf, h0, h1, hz, sAddr]
theorem Rn.fieldA {s : TypeId} {x : Operand} {i off : Nat} {ad : Addr} {sz : Nat} {fs : Array Field} {f : Field} (hs : P.underlying s = some (.struct fs)) (hf : fs[i]? = some f) (hz : ∀ w, (sizeOf f.type).run P w = .ok sz w) (hz0 : Nat.beq sz 0 = false) (ho : f.offset = off)
  (hx : ev k x = some (.pointer (some ad))) : Rn P n k w { dst := d, op := .fieldAddr s x i, type := ty, pos := pos, after := aft, guard := g } (.pointer (some (ad.add off))) :=
 fun a ha => by
  have hz1 : ¬ sz = 0 := fun e => by subst e; cases hz0
  subst ho
  simp [execOp, ha.eval hx, Instr.fieldAt, run_underlying hs, hf, Instr.sureAddr, fieldPlace, hz, hz1]
end
section
variable {P : Program} {n : Fr} {ops : Array Oper} {Q : Exit → Act → World → Prop} {S : World → Prop} {Lq : Act → World → Prop} {order : List (Nat × Bool)} {k : K} {w : World} {o : Oper} {rest : List Oper}
theorem Km {d : Nat} {F : Nat → Value} {cs : Array Value} {t : TypeId} (hw : Wk P n k w o (fun v w' => ∃ p, v = F p ∧ New w w' p (.cells cs t))) (hh : (o.dst, guardOk ops k o.guard, Nat.blt d n.sz) = (some d, some true, true)) (h : ∀ p w', Bk w' p cs t → Ch No w w' → p = w.heap.size → w'.heap.size = w.heap.size + 1 → VO P n ops Q rest ((d, F p) :: k) w') : VO P n ops Q (o :: rest) k w := Kc (X := fun _ => .cells cs t) hw hh fun p w' N => h p w' (Bk.new N)
theorem Ko {i : Nat} {d : Nat} {F : Nat → Value} {cs : Array Value} {t : TypeId} (hw : Wk P n k w o (fun v w' => ∃ p, v = F p ∧ New w w' p (.cells cs t))) (hh : (ops[i]?, o.dst, guardOk ops k o.guard, Nat.blt d n.sz) = (some o, some d, some true, true)) (h : ∀ p w', Bk w' p cs t → Ch No w w' → p = w.heap.size → w'.heap.size = w.heap.size + 1 → S w' ∧ VH P n ops Q S Lq order ((d, F p) :: k) w') : VH P n ops Q S Lq ((i, false) :: order) k w := Kd (X := fun _ => .cells cs t) hw hh fun p w' N => h p w' (Bk.new N)
theorem Kq {d : Nat} {F : Nat → Value} (sz l : Nat) {cs : List Value} {t : TypeId} (hw : Wk P n k w o (fun v w' => ∃ p, v = F p ∧ New w w' p (.cells cs.toArray t))) (hh : (o.dst, guardOk ops k o.guard, Nat.blt d n.sz) = (some d, some true, true)) (h : ∀ p w', SlR (Is p) w' (some ⟨p, 0, none⟩) l sz cs → Ow w' (p + 1) t sz (some ⟨p, 0, none⟩) l l cs → Ch No w w' → p = w.heap.size → w'.heap.size = w.heap.size + 1 → VO P n ops Q rest ((d, F p) :: k) w') (hl : cs.length = l * sz := by rfl) (hm : l ≤ maxLen := by decide) : VO P n ops Q (o :: rest) k w := Kc (X := fun _ => .cells cs.toArray t) hw hh fun p w' N => h p w' (SlR.of_new N hl) (Ow.of_new N hl hm)
theorem Kr {i : Nat} {d : Nat} {F : Nat → Value} (sz l : Nat) {cs : List Value} {t : TypeId} (hw : Wk P n k w o (fun v w' => ∃ p, v = F p ∧ New w w' p (.cells cs.toArray t))) (hh : (ops[i]?, o.dst, guardOk ops k o.guard, Nat.blt d n.sz) = (some o, some d, some true, true)) (h : ∀ p w', SlR (Is p) w' (some ⟨p, 0, none⟩) l sz cs → Ow w' (p + 1) t sz (some ⟨p, 0, none⟩) l l cs → Ch No w w' → p = w.heap.size → w'.heap.size = w.heap.size + 1 → S w' ∧ VH P n ops Q S Lq order ((d, F p) :: k) w') (hl : cs.length = l * sz := by rfl) (hm : l ≤ maxLen := by decide) : VH P n ops Q S Lq ((i, false) :: order) k w := Kd (X := fun _ => .cells cs.toArray t) hw hh fun p w' N => h p w' (SlR.of_new N hl) (Ow.of_new N hl hm)
theorem Ks {p : Nat} {cs : Array Value} {t : TypeId} (hw : Wk P n k w o (fun _ w' => Sts w w' p (.cells cs t (0, 0)))) (hh : (o.dst, guardOk ops k o.guard) = (none, some true)) (h : ∀ w', Ch (Is p) w w' → w'.heap.size = w.heap.size → Bk w' p cs t → VO P n ops Q rest k w') : VO P n ops Q (o :: rest) k w := Oz hw hh fun _ w' Z => h w' Z.ch Z.size (Bk.put Z)
theorem Kt {i : Nat} {p : Nat} {cs : Array Value} {t : TypeId} (hw : Wk P n k w o (fun _ w' => Sts w w' p (.cells cs t (0, 0)))) (hh : (ops[i]?, o.dst, guardOk ops k o.guard) = (some o, none, some true)) (h : ∀ w', Ch (Is p) w w' → w'.heap.size = w.heap.size → Bk w' p cs t → S w' ∧ VH P n ops Q S Lq order k w') : VH P n ops Q S Lq ((i, false) :: order) k w := Hz hw hh fun _ w' Z => h w' Z.ch Z.size (Bk.put Z)
end
end Go.Tm
namespace Go.Tm
open Go.RowKit
inductive Ord where
  | mk (kind n : Int) (kids : List Ord)
  deriving Inhabited
def Ord.kind : Ord → Int | .mk k _ _ => k
def Ord.n : Ord → Int | .mk _ n _ => n
def Ord.kids : Ord → List Ord | .mk _ _ ks => ks
inductive RdK (S : Nat → Prop) (w : World) : Option Addr → List Ord → Prop
  | mk {A : Option Addr} {ks : List Ord} {cs : List Value} (As : Nat → Option Addr) (caps : Nat → Nat) (hs : SlR S w A ks.length 3 cs) (hm : ks.length * 40 ≤ 140737488351232)
      (h1 : ∀ i o, ks[i]? = some o → cs[i * 3]? = some (.int .i64 o.kind) ∧ cs[i * 3 + 1]? = some (.int .i64 o.n) ∧ cs[i * 3 + 2]? = some (.slice (As i) o.kids.length (caps i)))
      (h2 : ∀ i o, ks[i]? = some o → RdK S w (As i) o.kids) : RdK S w A ks
theorem RdK.to {S D : Nat → Prop} {w w' : World} {A : Option Addr} {ks : List Ord} (h : RdK S w A ks) (c : Ch D w w') (hd : ∀ q, q < w.heap.size → S q → isC w q → ¬ D q := by first | exact fun _ _ _ _ => id | (intro q h1 h2 hx h3; omega)) : RdK S w' A ks := by
 induction h with
 | mk As caps hs hm h1 _ ih => exact .mk As caps (hs.to c hd) hm h1 ih
theorem RdK.keep {S : Nat → Prop} {w w' : World} {A : Option Addr} {ks : List Ord} (h : RdK S w A ks) (m : Ch No w w') : RdK S w' A ks := h.to m fun _ _ _ _ => id
theorem RdK.weak {S S' : Nat → Prop} {w : World} {A : Option Addr} {ks : List Ord} (h : RdK S w A ks) (hb : ∀ b, S b → S' b) : RdK S' w A ks := by
 induction h with
 | mk As caps hs hm h1 _ ih => exact .mk As caps (hs.weak hb) hm h1 ih
theorem RdK.nil (S : Nat → Prop) (w : World) : RdK S w none [] :=
 .mk (fun _ => none) (fun _ => 0) (SlR.nil S w 3) (by decide) (fun i o h => by simp at h) (fun i o h => by simp at h)
theorem RdK.kid {S : Nat → Prop} {w : World} {A : Option Addr} {ks : List Ord} (h : RdK S w A ks) {i : Nat} {o : Ord} (hi : ks[i]? = some o) :
  ∃ A' c', CaR S w ((sAddr A).add (i * 3)) [.int .i64 o.kind, .int .i64 o.n, .slice A' o.kids.length c'] ∧ RdK S w A' o.kids := by
 cases h with
 | mk As caps hs hm h1 h2 =>
  obtain ⟨e1, e2, e3⟩ := h1 i o hi
  have hlt := (List.getElem?_eq_some_iff.1 hi).1
  obtain ⟨ad, had⟩ := hs.ne (by omega)
  refine ⟨As i, caps i, ⟨hs.part hlt ?_, by rw [add_block]; subst had; exact hs.ok ad O⟩, h2 i o hi⟩
  intro j v hj
  match j with
  | 0 => simp at hj; subst hj; exact e1
  | 1 => simp at hj; subst hj; exact e2
  | 2 => simp at hj; subst hj; exact e3
  | j + 3 => simp at hj
theorem RdK.ne {S : Nat → Prop} {w : World} {A : Option Addr} {ks : List Ord} (h : RdK S w A ks) (hl : 0 < ks.length) : ∃ ad, A = some ad := by
 cases h with
 | mk As caps hs hm h1 h2 => exact hs.ne hl
theorem RdK.max {S : Nat → Prop} {w : World} {A : Option Addr} {ks : List Ord} (h : RdK S w A ks) : ks.length * 40 ≤ 140737488351232 := by
 cases h with
 | mk As caps hs hm h1 h2 => exact hm
def KidRow (S : Nat → Prop) (w : World) (cs : List Value) (ks : List Ord) : Prop :=
 ∃ (As : Nat → Option Addr) (caps : Nat → Nat), (∀ i o, ks[i]? = some o → cs[i * 3]? = some (.int .i64 o.kind) ∧ cs[i * 3 + 1]? = some (.int .i64 o.n) ∧ cs[i * 3 + 2]? = some (.slice (As i) o.kids.length (caps i))) ∧
  ∀ i o, ks[i]? = some o → RdK S w (As i) o.kids
theorem KidRow.nil (S : Nat → Prop) (w : World) : KidRow S w [] [] := ⟨fun _ => none, fun _ => 0, fun i o h => by simp at h, fun i o h => by simp at h⟩
theorem KidRow.to {S D : Nat → Prop} {w w' : World} {cs : List Value} {ks : List Ord} (h : KidRow S w cs ks) (c : Ch D w w') (hd : ∀ q, q < w.heap.size → S q → isC w q → ¬ D q := by first | exact fun _ _ _ _ => id | (intro q h1 h2 hx h3; omega)) : KidRow S w' cs ks := by
 obtain ⟨As, caps, h1, h2⟩ := h
 exact ⟨As, caps, h1, fun i o hi => (h2 i o hi).to c hd⟩
theorem KidRow.keep {S : Nat → Prop} {w w' : World} {cs : List Value} {ks : List Ord} (h : KidRow S w cs ks) (m : Ch No w w') : KidRow S w' cs ks := h.to m fun _ _ _ _ => id
theorem KidRow.weak {S S' : Nat → Prop} {w : World} {cs : List Value} {ks : List Ord} (h : KidRow S w cs ks) (hb : ∀ b, S b → S' b) : KidRow S' w cs ks := by
 obtain ⟨As, caps, h1, h2⟩ := h
 exact ⟨As, caps, h1, fun i o hi => (h2 i o hi).weak hb⟩
theorem KidRow.snoc {S : Nat → Prop} {w : World} {cs : List Value} {ks : List Ord} (h : KidRow S w cs ks) (hl : cs.length = ks.length * 3) {o : Ord} {A : Option Addr} {c : Nat} (ho : RdK S w A o.kids) :
  KidRow S w (cs ++ [.int .i64 o.kind, .int .i64 o.n, .slice A o.kids.length c]) (ks ++ [o]) := by
 obtain ⟨As, caps, h1, h2⟩ := h
 refine ⟨fun i => if i = ks.length then A else As i, fun i => if i = ks.length then c else caps i, ?_, ?_⟩
 ·
  intro i x hi
  by_cases e : i = ks.length
  ·
   subst e
   rw [List.getElem?_append_right (Nat.le_refl _)] at hi
   simp at hi
   subst hi
   have e0 : cs.length ≤ ks.length * 3 := by omega
   simp only [if_true]
   refine ⟨?_, ?_, ?_⟩
   · rw [List.getElem?_append_right (by omega), hl, Nat.sub_self]; rfl
   · rw [List.getElem?_append_right (by omega), hl, Nat.add_sub_cancel_left]; rfl
   · rw [List.getElem?_append_right (by omega), hl, Nat.add_sub_cancel_left]; rfl
  ·
   have hlt : i < ks.length := by
    have := (List.getElem?_eq_some_iff.1 hi).1
    simp at this
    omega
   rw [List.getElem?_append_left hlt] at hi
   obtain ⟨e1, e2, e3⟩ := h1 i x hi
   simp only [if_neg e]
   rw [List.getElem?_append_left (by omega), List.getElem?_append_left (by omega), List.getElem?_append_left (by omega)]
   exact ⟨e1, e2, e3⟩
 ·
  intro i x hi
  by_cases e : i = ks.length
  ·
   subst e
   rw [List.getElem?_append_right (Nat.le_refl _)] at hi
   simp at hi
   subst hi
   simpa using ho
  ·
   have hlt : i < ks.length := by
    have := (List.getElem?_eq_some_iff.1 hi).1
    simp at this
    omega
   rw [List.getElem?_append_left hlt] at hi
   simp only [if_neg e]
   exact h2 i x hi
theorem KidRow.rd {S : Nat → Prop} {w : World} {A : Option Addr} {cs : List Value} {ks : List Ord} (h : KidRow S w cs ks) (hs : SlR S w A ks.length 3 cs) (hm : ks.length * 40 ≤ 140737488351232) : RdK S w A ks := by
 obtain ⟨As, caps, h1, h2⟩ := h
 exact .mk As caps hs hm h1 h2
theorem kid_lt {o : Ord} {ks : List Ord} {i : Nat} (hi : ks[i]? = some o) : SizeOf.sizeOf o < SizeOf.sizeOf ks := List.sizeOf_lt_of_mem (List.mem_of_getElem? hi)
theorem kids_lt (o : Ord) : SizeOf.sizeOf o.kids < SizeOf.sizeOf o := by
 cases o with
 | mk k n ks => show SizeOf.sizeOf ks < SizeOf.sizeOf (Ord.mk k n ks); simp only [Ord.mk.sizeOf_spec]; omega
abbrev ordV (o : Ord) (A : Option Addr) (c : Nat) : Value := .agg #[.int .i64 o.kind, .int .i64 o.n, .slice A o.kids.length c]
end Go.Tm
namespace Go.Tm
open Go.RowKit
def okF (pl : Nat → Option (Nat × Nat)) (n : Nat) : List (Nat × Value) → Bool
 | [] => true
 | (i, v) :: r => (match pl i with | some (off, sz) => Nat.beq v.cells.toList.length sz && Nat.ble (off + sz) n | _ => false) && okF pl n r
def setF (pl : Nat → Option (Nat × Nat)) (l : List Value) : List (Nat × Value) → List Value
 | [] => l
 | (i, v) :: r => setF pl (match pl i with | some (off, _) => l.take off ++ v.cells.toList ++ l.drop (off + v.cells.toList.length) | none => l) r
theorem agg_cells (cs : Array Value) : (Value.agg cs).cells = cs := rfl
theorem oneCell_cells {v : Value} (h : v.oneCell' = true) : v.cells = #[v] := by
 cases v <;> simp_all [Value.oneCell', Value.cells]
theorem foldl_sets (off : Nat) : ∀ (cs : List Value) (k : Nat) (l : List Value), off + k + cs.length ≤ l.length → (cs.zipIdx k).foldl (fun (a : Array Value) (x : Value × Nat) => a.setIfInBounds (off + x.2) x.1) l.toArray = (l.take (off + k) ++ cs ++ l.drop (off + k + cs.length)).toArray
 | [], k, l, _ => by simp
 | c :: t, k, l, h => by
  simp only [List.length_cons] at h
  simp only [List.zipIdx_cons, List.foldl_cons, List.setIfInBounds_toArray]
  rw [foldl_sets off t (k + 1) (l.set (off + k) c) (by simp; omega)]
  congr 1
  have e1 : (l.set (off + k) c).take (off + (k + 1)) = l.take (off + k) ++ [c] := by
   rw [← Nat.add_assoc, List.take_add_one, List.take_set_of_le (by omega)]
   simp [List.getElem?_set, show off + k < l.length by omega]
  have e2 : (l.set (off + k) c).drop (off + (k + 1) + t.length) = l.drop (off + k + (t.length + 1)) := by
   rw [List.drop_set_of_lt (by omega)]
   congr 1
   omega
  rw [e1, e2]
  simp
theorem fill_set (pl : Nat → Option (Nat × Nat)) : ∀ (ps : List (Nat × Value)) (l : List Value), okF pl l.length ps = true → Instr.fill pl l.toArray ps = some (setF pl l ps).toArray
 | [], l, _ => rfl
 | (i, v) :: r, l, h => by
  simp only [okF, Bool.and_eq_true] at h
  obtain ⟨h1, h2⟩ := h
  split at h1
  ·
   rename_i off sz hoff
   simp only [Bool.and_eq_true] at h1
   have hs : v.cells.toList.length = sz := Nat.eq_of_beq_eq_true h1.1
   have hb : off + sz ≤ l.length := Nat.le_of_ble_eq_true h1.2
   subst hs
   rw [Instr.fill]
   simp only [hoff, setF]
   have : ¬ (off + v.cells.size > l.length) := by simp only [Array.length_toList] at hb; omega
   have e := foldl_sets off v.cells.toList 0 l (by simpa using hb)
   have e3 : Array.foldl (fun cs (x : Value × Nat) => Array.setIfInBounds cs (off + x.2) x.1) l.toArray (Array.zipIdx v.cells) = (l.take off ++ v.cells.toList ++ l.drop (off + v.cells.toList.length)).toArray := by
    rw [← Array.foldl_toList, Array.toList_zipIdx]
    simpa using e
   have hl : (l.take off ++ v.cells.toList ++ l.drop (off + v.cells.toList.length)).length = l.length := by simp at hb ⊢; omega
   have hrec := fill_set pl r _ (by rw [hl]; exact h2)
   rw [← hrec, if_neg (by simp only [Array.length_toList, ne_eq, not_true_eq_false, decide_false, Bool.false_or, decide_eq_true_eq, List.size_toArray]; exact this), e3]
  · cases h1
def set1 (pl : Nat → Option (Nat × Nat)) : List Value → List (Nat × Value) → Option (List Value)
 | l, [] => some l
 | l, (i, v) :: r => match pl i with
  | some (off, 1) => if Nat.blt off l.length = true then set1 pl (l.set off v) r else none
  | _ => none
theorem set1_ok (pl : Nat → Option (Nat × Nat)) : ∀ (ps : List (Nat × Value)) (l out : List Value), (ps.map (·.2)).all Value.oneCell' = true → set1 pl l ps = some out → okF pl l.length ps = true ∧ setF pl l ps = out
 | [], l, out, _, hs => ⟨rfl, by simpa [set1, setF] using hs⟩
 | (i, v) :: r, l, out, h, hs => by
  simp only [List.map_cons, List.all_cons, Bool.and_eq_true] at h
  have hv := oneCell_cells h.1
  unfold set1 at hs
  split at hs
  ·
   rename_i off hpl
   split at hs
   ·
    rename_i hlt
    have hlt' : off < l.length := Nat.le_of_ble_eq_true hlt
    obtain ⟨i1, i2⟩ := set1_ok pl r _ out h.2 hs
    rw [List.length_set] at i1
    refine ⟨?_, ?_⟩
    ·
     rw [okF, hpl, hv, i1]
     simp
     exact Nat.succ_le_of_lt hlt'
    ·
     rw [setF, hpl, hv, ← i2, List.set_eq_take_append_cons_drop, if_pos hlt']
     simp
   · cases hs
  · cases hs
theorem fill1 (pl : Nat → Option (Nat × Nat)) (l : List Value) (ps : List (Nat × Value)) {out : List Value} (h : (ps.map (·.2)).all Value.oneCell' = true) (hs : set1 pl l ps = some out) : Instr.fill pl l.toArray ps = some out.toArray := by
 obtain ⟨h1, h2⟩ := set1_ok pl ps l out h hs
 rw [← h2]; exact fill_set pl ps l h1
abbrev BLD (P : Program) (t : TypeId) (ps : List (Nat × Value)) (out : Array Value) : Prop := ∀ w, (Instr.build t ps.toArray).run P w = .ok (.agg out) w
end Go.Tm
namespace Go.Tm
theorem half_pow {a m : Int} (h : ∃ j : Nat, a = m * 2 ^ j) (he : m % 2 = 0) : ∃ j : Nat, a = m / 2 * 2 ^ j := by
 obtain ⟨j, hj⟩ := h
 refine ⟨j + 1, ?_⟩
 rw [Int.pow_succ, hj, Int.mul_comm (2 ^ j) 2, ← Int.mul_assoc]
 congr 1
 omega
theorem pow2_odd {n : Int} (j : Nat) (h1 : 1 ≤ n) (hodd : n % 2 = 1) (i : Nat) (h : n * 2 ^ j = 2 ^ i) : n = 1 := by
 induction j generalizing i with
 | zero =>
  simp at h
  cases i with
  | zero => simpa using h
  | succ i => rw [Int.pow_succ] at h; omega
 | succ j ih =>
  cases i with
  | zero =>
   have : (2 : Int) ^ (j + 1) ≥ 2 := by
    rw [Int.pow_succ]
    have : (0 : Int) < 2 ^ j := Int.pow_pos (by decide)
    omega
   have h2 : n * 2 ^ (j + 1) ≥ 1 * 2 ^ (j + 1) := Int.mul_le_mul_of_nonneg_right h1 (by omega)
   rw [h] at h2
   simp at h2
   omega
  | succ i =>
   refine ih i ?_
   rw [Int.pow_succ, Int.pow_succ, ← Int.mul_assoc] at h
   omega
theorem fine_end {a n : Int} (h1 : 1 ≤ n) (h2 : n ≤ a) (h3 : ∃ j : Nat, a = n * 2 ^ j) (h4 : (n ≤ 3 ∧ n = a) ∨ n % 2 = 1) : (decide (n ≤ 2) = true ↔ ∃ j : Nat, a = 2 ^ j) := by
 rw [decide_eq_true_eq]
 constructor
 ·
  intro h
  obtain ⟨j, hj⟩ := h3
  have : n = 1 ∨ n = 2 := by omega
  rcases this with rfl | rfl
  · exact ⟨j, by rw [hj, Int.one_mul]⟩
  · exact ⟨j + 1, by rw [hj, Int.pow_succ, Int.mul_comm]⟩
 ·
  rintro ⟨i, hi⟩
  rcases h4 with ⟨h5, rfl⟩ | h4
  ·
   by_cases h6 : n = 3
   ·
    subst h6
    exact absurd (pow2_odd 0 h1 (by decide) i (by simpa using hi)) (by decide)
   · omega
  ·
   obtain ⟨j, hj⟩ := h3
   have := pow2_odd j h1 h4 i (by rw [← hj, hi])
   omega
end Go.Tm
namespace Go.Tm
def wl : Ord → Int → Int → Int × Int
 | .mk k n ks, p, d =>
  if p + 1 > 4096 ∨ d > 16 then (p + 1, 0) else
  match ks with
  | [] => if k = 1 ∧ 1 ≤ n ∧ n ≤ 64 then (p + 1, n) else if k = 2 ∧ 2 ≤ n ∧ n ≤ 5 then (p + 1, n) else (p + 1, 0)
  | [a] => if k = 4 ∧ 2 ≤ n ∧ n ≤ 16384 then
    let (p1, x) := wl a (p + 1) (d + 1)
    if x < 2 * n - 1 then (p1, 0) else (p1, n)
   else (p + 1, 0)
  | [a, b] => if k = 3 ∧ n = 0 then
    let (p1, x) := wl a (p + 1) (d + 1)
    if x < 2 then (p1, 0) else
    let (p2, y) := wl b p1 (d + 1)
    if y < 2 ∨ x * y > 16384 then (p2, 0) else (p2, x * y)
   else (p + 1, 0)
  | _ => (p + 1, 0)
def Ord.len (o : Ord) : Int := (wl o 0 1).2
theorem kids1 {o : Ord} (h : (o.kids.length : Int) = 1) : ∃ a, o.kids[0]? = some a ∧ o.kids = [a] := by
 cases h' : o.kids with
 | nil => rw [h'] at h; simp at h
 | cons a t => cases t with
  | nil => exact ⟨a, rfl, rfl⟩
  | cons b t => rw [h'] at h; simp at h; omega
theorem kids2 {o : Ord} (h : (o.kids.length : Int) = 2) : ∃ a b, o.kids[0]? = some a ∧ o.kids[1]? = some b ∧ o.kids = [a, b] := by
 cases h' : o.kids with
 | nil => rw [h'] at h; simp at h
 | cons a t => cases t with
  | nil => rw [h'] at h; simp at h
  | cons b t => cases t with
   | nil => exact ⟨a, b, rfl, rfl, rfl⟩
   | cons c t => rw [h'] at h; simp at h; omega
theorem kids0 {o : Ord} (h : (o.kids.length : Int) = 0) : o.kids = [] := List.eq_nil_of_length_eq_zero (by omega)
theorem wl_full {o : Ord} {p d : Int} (h : p + 1 > 4096 ∨ d > 16) : wl o p d = (p + 1, 0) := by
 obtain ⟨k, n, ks⟩ := o; unfold wl; simp only [h, if_true]
theorem wl_leaf {o : Ord} {p d : Int} (h : ¬ (p + 1 > 4096 ∨ d > 16)) (h0 : o.kids = []) : wl o p d = if o.kind = 1 ∧ 1 ≤ o.n ∧ o.n ≤ 64 then (p + 1, o.n) else if o.kind = 2 ∧ 2 ≤ o.n ∧ o.n ≤ 5 then (p + 1, o.n) else (p + 1, 0) := by
 cases o; simp only [Ord.kids] at h0; subst h0; rw [wl, if_neg h]; rfl
theorem wl_one {o a : Ord} {p d : Int} (h : ¬ (p + 1 > 4096 ∨ d > 16)) (h0 : o.kids = [a]) : wl o p d = if o.kind = 4 ∧ 2 ≤ o.n ∧ o.n ≤ 16384 then
  (if (wl a (p + 1) (d + 1)).2 < 2 * o.n - 1 then ((wl a (p + 1) (d + 1)).1, 0) else ((wl a (p + 1) (d + 1)).1, o.n)) else (p + 1, 0) := by
 cases o; simp only [Ord.kids] at h0; subst h0; rw [wl, if_neg h]; rfl
theorem wl_two {o a b : Ord} {p d : Int} (h : ¬ (p + 1 > 4096 ∨ d > 16)) (h0 : o.kids = [a, b]) : wl o p d = if o.kind = 3 ∧ o.n = 0 then
    (if (wl a (p + 1) (d + 1)).2 < 2 then ((wl a (p + 1) (d + 1)).1, 0) else
      (if (wl b (wl a (p + 1) (d + 1)).1 (d + 1)).2 < 2 ∨ (wl a (p + 1) (d + 1)).2 * (wl b (wl a (p + 1) (d + 1)).1 (d + 1)).2 > 16384 then ((wl b (wl a (p + 1) (d + 1)).1 (d + 1)).1, 0)
       else ((wl b (wl a (p + 1) (d + 1)).1 (d + 1)).1, (wl a (p + 1) (d + 1)).2 * (wl b (wl a (p + 1) (d + 1)).1 (d + 1)).2))) else (p + 1, 0) := by
  cases o; simp only [Ord.kids] at h0; subst h0; rw [wl, if_neg h]; rfl
theorem wl_more {o : Ord} {p d : Int} (h : ¬ (p + 1 > 4096 ∨ d > 16)) (h0 : 2 < o.kids.length) : wl o p d = (p + 1, 0) := by
 obtain ⟨k, n, ks⟩ := o
 simp only [Ord.kids] at h0
 match ks, h0 with
 | a :: b :: c :: t, _ => unfold wl; simp only [h, if_false]
theorem wl_none {o : Ord} {p d : Int} (h : ¬ (p + 1 > 4096 ∨ d > 16)) (h1 : ¬ (o.kind = 1 ∧ (o.kids.length : Int) = 0 ∧ 1 ≤ o.n ∧ o.n ≤ 64)) (h2 : ¬ (o.kind = 2 ∧ (o.kids.length : Int) = 0 ∧ 2 ≤ o.n ∧ o.n ≤ 5))
  (h3 : ¬ (o.kind = 3 ∧ (o.kids.length : Int) = 2 ∧ o.n = 0)) (h4 : ¬ (o.kind = 4 ∧ (o.kids.length : Int) = 1 ∧ 2 ≤ o.n ∧ o.n ≤ 16384)) : wl o p d = (p + 1, 0) := by
 by_cases e0 : o.kids.length = 0
 · rw [wl_leaf h (List.eq_nil_of_length_eq_zero e0), if_neg (by omega), if_neg (by omega)]
 by_cases e1 : o.kids.length = 1
 ·
  obtain ⟨a, ha, e⟩ := kids1 (o := o) (by omega)
  rw [wl_one h e, if_neg (by omega)]
 by_cases e2 : o.kids.length = 2
 ·
  obtain ⟨a, b, ha, hb, e⟩ := kids2 (o := o) (by omega)
  rw [wl_two h e, if_neg (by omega)]
 · exact wl_more h (by omega)
theorem mul_bd {x y : Int} (h1 : 0 ≤ x) (h2 : x ≤ 16384) (h3 : 0 ≤ y) (h4 : y ≤ 16384) : 0 ≤ x * y ∧ x * y ≤ 268435456 :=
 ⟨Int.mul_nonneg h1 h3, Int.le_trans (Int.mul_le_mul h2 h4 h3 (by omega)) (by decide)⟩
theorem wl_bd : ∀ (m : Nat) (o : Ord) (p d : Int), SizeOf.sizeOf o < m → 0 ≤ p → p ≤ 4096 → p ≤ (wl o p d).1 ∧ (wl o p d).1 ≤ 4097 ∧ ((wl o p d).2 ≠ 0 → (wl o p d).1 ≤ 4096) ∧ 0 ≤ (wl o p d).2 ∧ (wl o p d).2 ≤ 16384
 | 0, _, _, _, h, _, _ => by omega
 | m + 1, o, p, d, h, h0, h1 => by
  by_cases hf : p + 1 > 4096 ∨ d > 16
  · rw [wl_full hf]; simp only; omega
  ·
   have hk := kids_lt o
   by_cases e0 : o.kids.length = 0
   ·
    rw [wl_leaf hf (List.eq_nil_of_length_eq_zero e0)]
    split
    · simp only; omega
    · split <;> simp only <;> omega
   by_cases e1 : o.kids.length = 1
   ·
    obtain ⟨a, ha, e⟩ := kids1 (o := o) (by omega)
    have := kid_lt ha
    have ia := wl_bd m a (p + 1) (d + 1) (by omega) (by omega) (by omega)
    rw [wl_one hf e]
    split
    · split <;> simp only <;> omega
    · simp only; omega
   by_cases e2 : o.kids.length = 2
   ·
    obtain ⟨a, b, ha, hb, e⟩ := kids2 (o := o) (by omega)
    have := kid_lt ha
    have := kid_lt hb
    have ia := wl_bd m a (p + 1) (d + 1) (by omega) (by omega) (by omega)
    rw [wl_two hf e]
    split
    ·
     split
     · simp only; omega
     ·
      have ib := wl_bd m b (wl a (p + 1) (d + 1)).1 (d + 1) (by omega) (by omega) (by omega)
      split
      · simp only; omega
      ·
       rename_i h5
       simp only
       have : 0 ≤ (wl a (p + 1) (d + 1)).2 * (wl b (wl a (p + 1) (d + 1)).1 (d + 1)).2 := Int.mul_nonneg (by omega) (by omega)
       omega
    · simp only; omega
   · rw [wl_more hf (by omega)]; simp only; omega
end Go.Tm
namespace Go.Tm
set_option maxRecDepth 100000
open Go.RowKit Go.Proofs Go.Proofs.Tryz
def κ117 := @call117
def κ122 := @call122
def κ142 := @call142
def κ170 := @call170
def κ172 := @call172
def κ173 := @call173
def κ222 := @call222
def κ231 := @call231
def κ232 := @call232
def κ233 := @call233
def κ249 := @call249
def κ293 := @call293
def κ296 := @call296
def κ297 := @call297
def κ36 := @call36
def κ39 := @call39
def κ48 := @call48
def κ69 := @call69
def κ78 := @call78
def κ79 := @call79
def κ80 := @call80
def κ81 := @call81
def κ94 := @call94
def ι135 := @isAgg135
def ι149 := @isAgg149
def ι150 := @isAgg150
def ι155 := @isAgg155
def ι172 := @isAgg172
def ι192 := @isAgg192
def ι217 := @isAgg217
def ι275 := @isAgg275
def ι28 := @isAgg28
def ι3 := @isAgg3
def ι305 := @isAgg305
def ι31 := @isAgg31
def ι32 := @isAgg32
def ι33 := @isAgg33
def ι4 := @isAgg4
def ι51 := @isAgg51
def ι53 := @isAgg53
def ι77 := @isAgg77
def ι79 := @isAgg79
def ι9 := @isAgg9
def ι96 := @isAgg96
def ι98 := @isAgg98
def ς135 := @sizeOf135
def ς149 := @sizeOf149
def ς155 := @sizeOf155
def ς172 := @sizeOf172
def ς192 := @sizeOf192
def ς217 := @sizeOf217
def ς259 := @sizeOf259
def ς275 := @sizeOf275
def ς286 := @sizeOf286
def ς288 := @sizeOf288
def ς290 := @sizeOf290
def ς292 := @sizeOf292
def ς3 := @sizeOf3
def ς305 := @sizeOf305
def ς31 := @sizeOf31
def ς32 := @sizeOf32
def ς33 := @sizeOf33
def ς4 := @sizeOf4
def ς5 := @sizeOf5
def ς51 := @sizeOf51
def ς53 := @sizeOf53
def ς77 := @sizeOf77
def ς79 := @sizeOf79
def ς9 := @sizeOf9
def ς96 := @sizeOf96
def ς98 := @sizeOf98
def υ135 := @underlying135
def υ149 := @underlying149
def υ161 := @underlying161
def υ172 := @underlying172
def υ178 := @underlying178
def υ184 := @underlying184
def υ191 := @underlying191
def υ192 := @underlying192
def υ194 := @underlying194
def υ209 := @underlying209
def υ217 := @underlying217
def υ22 := @underlying22
def υ230 := @underlying230
def υ234 := @underlying234
def υ24 := @underlying24
def υ246 := @underlying246
def υ255 := @underlying255
def υ259 := @underlying259
def υ260 := @underlying260
def υ275 := @underlying275
def υ28 := @underlying28
def υ286 := @underlying286
def υ288 := @underlying288
def υ290 := @underlying290
def υ292 := @underlying292
def υ3 := @underlying3
def υ305 := @underlying305
def υ306 := @underlying306
def υ308 := @underlying308
def υ31 := @underlying31
def υ312 := @underlying312
def υ32 := @underlying32
def υ321 := @underlying321
def υ4 := @underlying4
def υ5 := @underlying5
def υ51 := @underlying51
def υ53 := @underlying53
def υ74 := @underlying74
def υ77 := @underlying77
def υ79 := @underlying79
def υ9 := @underlying9
def υ96 := @underlying96
def υ98 := @underlying98
def ζ135 := @zeroValue135
def ζ149 := @zeroValue149
def ζ212 := @zeroValue212
def ζ217 := @zeroValue217
def ζ275 := @zeroValue275
def ζ286 := @zeroValue286
def ζ288 := @zeroValue288
def ζ290 := @zeroValue290
def ζ292 := @zeroValue292
def ζ3 := @zeroValue3
def ζ305 := @zeroValue305
def ζ4 := @zeroValue4
def ζ53 := @zeroValue53
def ζ79 := @zeroValue79
def ζ9 := @zeroValue9
def ζ98 := @zeroValue98
theorem mixed : Tryz.prog.follows .mixedOrders = true := by kernel_rfl
theorem inf53w2 : Inf prog 53 (.agg #[.int .i64 0, .int .i64 0, .slice none 0 0]) 3 40 := ⟨Tryz.t53, type53, rfl, rfl, rfl⟩
theorem build53w2 {ps : List (Nat × Value)} {cs : Array Value} (h : Instr.fill (fun i => ([(0, 1), (1, 1), (2, 1)] : List (Nat × Nat))[i]?) #[.int .i64 0, .int .i64 0, .slice none 0 0] ps = some cs) (w : World) : (Instr.build 53 ps.toArray).run prog w = .ok (.agg cs) w := by
 simp [Instr.build, runUnderlying53, ζ53, ς3, ς51, Value.cells, h]
theorem bld53_0_1w2 {v0 v1 : Value} (h : [v0, v1].all Value.oneCell' = true) : BLD prog 53 [(0, v0), (1, v1)] #[v0, v1, .slice none 0 0] := build53w2 (fill1 _ _ _ h rfl)
theorem bld53_0_1_2w2 {v0 v1 v2 : Value} (h : [v0, v1, v2].all Value.oneCell' = true) : BLD prog 53 [(0, v0), (1, v1), (2, v2)] #[v0, v1, v2] := build53w2 (fill1 _ _ _ h rfl)
theorem bld53_0_2w2 {v0 v2 : Value} (h : [v0, v2].all Value.oneCell' = true) : BLD prog 53 [(0, v0), (2, v2)] #[v0, .int .i64 0, v2] := build53w2 (fill1 _ _ _ h rfl)
theorem order_copied (m : Nat) : ∀ (o : Ord) (A : Option Addr) (c : Nat) (lo hi : Nat) (w : World) (_ : SizeOf.sizeOf o < m) (_ : RdK (In lo hi) w A o.kids) (_ : hi ≤ w.heap.size), Calls prog 193 #[ordV o A c] w (Ret (fun v w' => ∃ A' c', v = ordV o A' c' ∧ RdK (In w.heap.size w'.heap.size) w' A' o.kids ∧ Ch No w w')) := by
 induction m with
 | zero => intros; omega
 | succ m ih =>
 intro o A c lo hi w hs kd hh
 refine Ku func193 O ntmps193 O ?_
 have kmax := kd.max
 refine Kb (Km (Cp O) O ?_)
 intro p1 w1 b1 c1 e1 z1
 refine Km (Ck ζ53) O ?_
 intro p2 w2 b2 c2 e2 z2
 refine Wy (Om (Qh υ53 O ς51 O O O) O ?_)
 have b1_2 := b1.keep c2
 refine Om (Qg ι51 O (b1_2.cell O)) O (Ww O O (Wy (Om (Qh υ53 O ς51 O O O) O (Ks (Rk ς51 O O O O b1_2 O) O ?_))))
 intro w3 c3 z3 b1_3
 refine Wz (Kb (Wu O O (Om (Cs υ51 O) O (Wu O O ?_))))
 refine Ka (Qt ?_)
 have b2_3 := b2.to c3
 have cc_0_3 : Ch No w w3 := (Ch.then (E := No) (c1.and c2) c3)
 have kd_3 := kd.keep cc_0_3
 have CH_3 := cc_0_3
 refine Kf (σ := Nat) (fun i => [(1, Kh p1), (2, Kh p2), (9, .slice A o.kids.length c), (10, Kg o.kids.length), (11, Kg i)]) (fun i w' => ∃ r A1 c1 cs, i ≤ o.kids.length ∧ Bk w' p1 #[Kg o.kind, Kg o.n, .slice A1 i c1] 53 ∧ Bk w' p2 #[Kg 0, Kg 0, .slice none 0 0] 53 ∧ Ow w' r 53 3 A1 i c1 cs ∧ (r = 0 ∨ p2 + 1 < r) ∧ KidRow (fun q => p2 < q ∧ q < w'.heap.size ∧ r ≠ q + 1) w' cs (o.kids.take i) ∧ RdK (In lo hi) w' A o.kids ∧ Ch No w w') (fun i => o.kids.length - i) 0 ?_ ?_
 · exact ⟨0, none, 0, [], Nat.zero_le _, b1_3, b2_3, Ow.nil _ _ _, .inl O, KidRow.nil _ _, kd_3, CH_3⟩
 rintro i w4 ⟨r, A1, c1, cs, hi_4, b1_4, b2_4, ow_4, hr_4, kw_4, kd_4, CH_4⟩
 have hln := ow_4.len; have y0 := ow_4.lt; have zc := CH_4.size; have l2 := b2_4.lt
 refine Kb (Om (Co O O) O (Wz (Qj O (fun hc1 => ?_) (fun hc1 => ?_))))
 ·
  refine Qn (Qa (Qe (Qt (Qe ?_))))
  obtain ⟨ko, hko⟩ : ∃ ko, o.kids[i]? = some ko := ⟨_, List.getElem?_eq_getElem (by omega)⟩
  obtain ⟨kA, kc, ka, kr⟩ := kd_4.kid hko
  have hlt := kid_lt hko; have hlt2 := kids_lt o
  refine Qb (Om (Qs υ51 ς53 O O (kd_4.ne (by omega))) O (Om (Qz ι53 ς53 O O ka.1) O (Km (Ck ζ53) O ?_)))
  intro p5 w5 b5 c5 e5 z5
  refine Ks (Cl ς53 O O O O b5) O ?_
  intro w6 c6 z6 b5_6
  refine Ka (Kj 7 [0, 2, 4, 7, 9, 11, 12] (At r) ?_)
  intro w7 c7 z7
  have cc_4_7 : Ch No w4 w7 := ((Ch.then (E := No) c5 c6).and c7)
  have b1_7 := b1_4.keep cc_4_7
  have b2_7 := b2_4.keep cc_4_7
  have ow_7 := ow_4.keep cc_4_7
  have ka_7 := ka.keep cc_4_7
  have b5_7 := b5_6.keep c7
  refine Ws (Qh υ53 O ς51 O O O) O (Wt (fun hS => Qg ι51 O ((b1_7.to hS).cell O)) O (Wt (fun hS => Qz ι53 ς53 O O ((b5_7.to hS).all' O)) O ?_))
  have kr_7 := kr.keep cc_4_7
  refine Hq (Qi call193 O (ih ko _ _ _ _ _ (by omega) kr_7 (by omega))) O ?_
  rintro _ w8 ⟨nA8, nc8, rfl, kn8, c8⟩
  have z8 := c8.size
  have RD_8 := (Ch.refl (At r) w7).and c8
  refine ⟨RD_8, ?_⟩
  refine Kr 3 1 (Kl υ51 inf53w2 O O) O ?_
  intro p9 w9 l19 l19o c9 e9 z9
  have RD_9 := RD_8.and c9
  refine ⟨RD_9, ?_⟩
  have ow_9 := ow_7.keep (c8.trans c9)
  refine Hq (Cm (S := _) υ51 inf53w2 O (by decide) O O ow_9 l19 (by rfl) (fun h => by simp at h) (by omega) (by simp only [maxLen]; omega)) O ?_
  rintro _ w10 ⟨r10, A10, k10, rfl, o10, c10, q10⟩
  have z10 := c10.size
  have y10 := o10.lt
  have RD_10 : Ch (At r) w7 w10 := RD_9.then c10
  refine ⟨RD_10, ?_⟩
  refine Ws (Qh υ53 O ς51 O O O) O (Cj ?_)
  have b1_9 := b1_7.keep (c8.trans c9)
  have b1_10 := b1_9.to c10
  refine Ks (Rk ς51 O O O O b1_10 O) O ?_
  intro w11 c11 z11 b1_11
  refine Qf (Ca (Ql (Qa (Qb ?_))))
  refine Om (Cd O O) O ?_
  refine Wu O O (Qf ?_)
  refine Ke (i + 1) ?_
  have e : (o.kids.take (i + 1)) = o.kids.take i ++ [ko] := by rw [List.take_add_one, hko]; rfl
  have b2_9 := b2_7.keep (c8.trans c9)
  have b2_10 := b2_9.to c10
  have b2_11 := b2_10.to c11
  have ow_11 := o10.to c11
  have cc_4_9 : Ch No w4 w9 := ((((Ch.then (E := No) c5 c6).and c7).and c8).and c9)
  have kd_9 := kd_4.keep cc_4_9
  have kd_10 := kd_9.to c10
  have kd_11 := kd_10.to c11
  have CH_9 := CH_4.and cc_4_9
  have CH_10 : Ch (No) w w10 := CH_9.then c10
  have CH_11 : Ch (No) w w11 := CH_10.then c11
  refine ⟨_, _, _, _, by omega, b1_11, b2_11, ow_11, by omega, ?_, kd_11, CH_11⟩
  have kw_9 := kw_4.keep cc_4_9
  have kw_10 := kw_9.to c10
  have kw_11 := kw_10.to c11
  have hl := kw_11
  rw [e]
  have hlen : cs.length = (o.kids.take i).length * 3 := by rw [List.length_take, Nat.min_eq_left (by omega)]; exact hln
  have kn_9 := kn8.keep c9
  have kn_10 := kn_9.to c10
  have kn_11 := kn_10.to c11
  exact ((hl.weak (fun q h => ⟨h.1, by omega, by omega⟩)).snoc hlen ((kn_11).weak (fun q h => ⟨by omega, by omega, by omega⟩)))
 refine Cn (Qk (Qk (Qy (Qa (Kb (Om (Qz ι53 ς53 O O (b1_4.all' O)) O ?_))))))
 refine Ks (Cl ς53 O O O O b2_4) O ?_
 intro w12 c12 z12 b2_12
 refine Ka (Qp (Rl O O ι53 ς53 O (b2_12.all' O) (Kx ?_)))
 have hi' : i = o.kids.length := by omega
 subst hi'
 have kw_12 := kw_4.to c12
 have hk := kw_12
 rw [List.take_length] at hk
 have ow_12 := ow_4.to c12
 have CH_12 : Ch (No) w w12 := CH_4.then c12
 have yl := ow_12.lt; have zz := CH_12.size
 exact ⟨_, _, O, ((hk.weak (fun q h => ⟨by omega, by omega⟩)).rd (ow_12.sl.weak (fun q h => ⟨by omega, by omega⟩)) kmax), CH_12⟩
theorem order_Direct (n : Int) (w : World) :
  Calls prog 188 #[Kg n] w (Ret (fun v w' => v = ordV (.mk 1 n []) none 0 ∧ Ch No w w')) := by
 refine Ku func188 O ntmps188 O (Kb (Km (Ck ζ53) O ?_))
 intro p1 w1 b2 c1 e1 z1
 refine Wy (Wu O O (Om (Ct O (bld53_0_1w2 O)) O (Ks (Cl ς53 O O O O b2) O ?_)))
 intro w2 c2 z2 b2_2
 refine Ka (Qp (Rl O O ι53 ς53 O (b2_2.all' O) (Kx ?_)))
 have cc_0_2 : Ch No w w2 := (Ch.then (E := No) c1 c2)
 have CH_2 := cc_0_2
 exact ⟨O, CH_2⟩
theorem order_Fly (n : Int) (w : World) :
  Calls prog 190 #[Kg n] w (Ret (fun v w' => v = ordV (.mk 2 n []) none 0 ∧ Ch No w w')) := by
 refine Ku func190 O ntmps190 O (Kb (Km (Ck ζ53) O ?_))
 intro p1 w1 b2 c1 e1 z1
 refine Wy (Wu O O (Om (Ct O (bld53_0_1w2 O)) O (Ks (Cl ς53 O O O O b2) O ?_)))
 intro w2 c2 z2 b2_2
 refine Ka (Qp (Rl O O ι53 ς53 O (b2_2.all' O) (Kx ?_)))
 have cc_0_2 : Ch No w w2 := (Ch.then (E := No) c1 c2)
 have CH_2 := cc_0_2
 exact ⟨O, CH_2⟩
theorem order_Times (a b : Ord) (A B : Option Addr) (c e : Nat) (lo hi lo2 hi2 : Nat) (w : World) (kd : RdK (In lo hi) w A a.kids) (hh : hi ≤ w.heap.size) (kb : RdK (In lo2 hi2) w B b.kids) (hh2 : hi2 ≤ w.heap.size) :
  Calls prog 157 #[ordV a A c, ordV b B e] w (Ret (fun v w' => ∃ C f, v = ordV (.mk 3 0 [a, b]) C f ∧ RdK (In w.heap.size w'.heap.size) w' C [a, b] ∧ Ch No w w')) := by
 refine Ku func157 O ntmps157 O (Kb (Km (Cp O) O ?_))
 intro p1 w1 b2 c1 e1 z1
 refine Km (Cp O) O ?_
 intro p2 w2 b3 c2 e2 z2
 refine Km (Ck ζ53) O ?_
 intro p3 w3 b4 c3 e3 z3
 refine Wz (Kj 6 [0, 4, 3, 7, 9, 10] (No) ?_)
 intro w4 c4 z4
 have b2_4 := b2.keep (c2.trans (c3.trans c4))
 have b3_4 := b3.keep (c3.trans c4)
 have b4_4 := b4.keep c4
 refine Wt (fun hS => Qz ι53 ς53 O O ((b2_4.keep hS).all' O)) O (Wt (fun hS => Qz ι53 ς53 O O ((b3_4.keep hS).all' O)) O ?_)
 have kd_4 := kd.keep (c1.trans (c2.trans (c3.trans c4)))
 refine Hq (Qi call193 O (order_copied _ _ _ _ _ _ _ (Nat.lt_succ_self _) kd_4 (by omega))) O ?_
 rintro _ w5 ⟨nA5, nc5, rfl, kn5, c5⟩
 have z5 := c5.size
 have RD_5 := (Ch.refl (No) w4).and c5
 refine ⟨RD_5, ?_⟩
 have kb_5 := kb.keep (c1.trans (c2.trans (c3.trans (c4.trans c5))))
 refine Hq (Qi call193 O (order_copied _ _ _ _ _ _ _ (Nat.lt_succ_self _) kb_5 (by omega))) O ?_
 rintro _ w6 ⟨nA6, nc6, rfl, kn6, c6⟩
 have z6 := c6.size
 have RD_6 := RD_5.and c6
 refine ⟨RD_6, ?_⟩
 refine Kr 3 2 (Kl υ51 inf53w2 O O) O ?_
 intro p7 w7 l9 l9o c7 e7 z7
 have RD_7 := RD_6.and c7
 refine ⟨RD_7, ?_⟩
 refine Ws (Ct O (bld53_0_2w2 O)) O (Cj ?_)
 have b4_7 := b4_4.keep (c5.trans (c6.trans c7))
 refine Ks (Cl ς53 O O O O b4_7) O ?_
 intro w8 c8 z8 b4_8
 refine Qf (Ca (Qa (Qp (Rl O O ι53 ς53 O (b4_8.all' O) (Kx ?_)))))
 have cc_0_8 : Ch No w w8 := (Ch.then (E := No) ((((((c1.and c2).and c3).and c4).and c5).and c6).and c7) c8)
 have CH_8 := cc_0_8
 have zz := CH_8.size
 have ka_7 := kn5.keep (c6.trans c7)
 have ka_8 := ka_7.to c8
 have kc_7 := kn6.keep c7
 have kc_8 := kc_7.to c8
 have l9_8 := l9.to c8
 exact ⟨_, _, O, (((KidRow.nil _ _).snoc (o := a) O ((ka_8).weak (fun q h => ⟨by omega, by omega⟩))).snoc (o := b) O ((kc_8).weak (fun q h => ⟨by omega, by omega⟩))).rd ((l9_8).weak (fun q h => ⟨by omega, by omega⟩)) (by simp), CH_8⟩
theorem order_Blue (n : Int) (a : Ord) (A : Option Addr) (c : Nat) (lo hi : Nat) (w : World) (kd : RdK (In lo hi) w A a.kids) (hh : hi ≤ w.heap.size) :
  Calls prog 161 #[Kg n, ordV a A c] w (Ret (fun v w' => ∃ C f, v = ordV (.mk 4 n [a]) C f ∧ RdK (In w.heap.size w'.heap.size) w' C [a] ∧ Ch No w w')) := by
 refine Ku func161 O ntmps161 O (Kb (Km (Cp O) O ?_))
 intro p1 w1 b3 c1 e1 z1
 refine Km (Ck ζ53) O ?_
 intro p2 w2 b4 c2 e2 z2
 refine Wy (Wu O O ?_)
 have b3_2 := b3.keep c2
 refine Om (Qz ι53 ς53 O O (b3_2.all' O)) O ?_
 have kd_2 := kd.keep (c1.trans c2)
 refine Oq (Qi call193 O (order_copied _ _ _ _ _ _ _ (Nat.lt_succ_self _) kd_2 (by omega))) O ?_
 rintro _ w3 ⟨nA3, nc3, rfl, kn3, c3⟩
 have z3 := c3.size
 refine Kq 3 1 (Kl υ51 inf53w2 O O) O ?_
 intro p4 w4 l8 l8o c4 e4 z4
 refine Om (Ct O (bld53_0_1_2w2 O)) O ?_
 have b4_4 := b4.keep (c3.trans c4)
 refine Ks (Cl ς53 O O O O b4_4) O ?_
 intro w5 c5 z5 b4_5
 refine Ka (Qp (Rl O O ι53 ς53 O (b4_5.all' O) (Kx ?_)))
 have cc_0_5 : Ch No w w5 := (Ch.then (E := No) (((c1.and c2).and c3).and c4) c5)
 have CH_5 := cc_0_5
 have zz := CH_5.size
 have ka_4 := kn3.keep c4
 have ka_5 := ka_4.to c5
 have l8_5 := l8.to c5
 exact ⟨_, _, O, ((KidRow.nil _ _).snoc (o := a) O ((ka_5).weak (fun q h => ⟨by omega, by omega⟩))).rd ((l8_5).weak (fun q h => ⟨by omega, by omega⟩)) (by simp), CH_5⟩
end Go.Tm
