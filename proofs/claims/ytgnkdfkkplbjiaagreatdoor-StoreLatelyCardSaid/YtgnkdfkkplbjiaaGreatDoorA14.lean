/- Lemmas of this claim, joined by program. What a row's laid variables give the walks; an argument that is a slice of operations. Conditions: each lemma names its own. -/
import Derived.Test.YtgnkdfkkplbjiaaGreatDoorA13
import Derived.Test.YtgnkdfkkplbjiaaGreatDoorRows
import Derived.ProofKit
import Derived.LaidMore
import Derived.LaidSub
import Derived.OpenShut
import Derived.Stop.Joined
import Derived.Stop.LaidErr
import Derived.Lib.LaidTab
import Derived.Deep.Slices
import Derived.Deep.Fields
import Derived.Deep.OwnRows
import Derived.WideKeyArgs
set_option linter.all false
namespace Go.Tm
open Go.RowKit Go.Proofs Go.ChangeShapes Go.WideShapes Go.Deep
open Go.Proofs.YtgnkdfkkplbjiaaGreatDoor
theorem laidVars_at {P : Program} {w : World} : ∀ {l : List (String × DataW Unit)} {ps : List MemPlace} (i : Nat) {x : String × DataW Unit}, DataW.LaidVars P w l ps → l[i]? = some x → ∃ ps', DataW.LaidVars P w [x] ps' ∧ ps'.Sublist ps
  | [], _, _, _, _, h => by simp at h
  | (n, d) :: r, ps, 0, x, h, hi => by
    obtain ⟨g, t, cs, fuel, p, q, e1, e2, e3, e4, hr, rfl⟩ := h
    simp only [List.getElem?_cons_zero, Option.some.injEq] at hi
    subst hi
    exact ⟨_, ⟨g, t, cs, fuel, p, [], e1, e2, e3, e4, rfl, rfl⟩, by rw [List.append_nil]; exact List.sublist_append_left _ _⟩
  | (n, d) :: r, ps, i + 1, x, h, hi => by
    obtain ⟨g, t, cs, fuel, p, q, e1, e2, e3, e4, hr, rfl⟩ := h
    obtain ⟨ps', h1, h2⟩ := laidVars_at i hr (by simpa using hi)
    exact ⟨ps', h1, h2.trans (List.sublist_append_right _ _)⟩
theorem _root_.Go.laidMet.at {P : Program} {w : World} {l : List (String × DataW Unit)} {x : String × DataW Unit} (h : laidMet P l w) (i : Nat) (hi : l[i]? = some x) : laidMet P [x] w := by
  obtain ⟨ps, hl, hnd, hrows⟩ := h
  obtain ⟨ps', h1, h2⟩ := laidVars_at i hl hi
  exact ⟨ps', h1, h2.nodup hnd, fun b off hp => hrows b off (h2.subset hp)⟩
theorem lowStar : "*" ++ "errors.errorString" = "*errors.errorString" := by decide
theorem rowErr (u : TypeId) (h : Tryz.prog.typeName? 3 u = some "*errors.errorString") : u = 211 :=
  typeName_ptr_named (nm := "errors.errorString") (by rw [lowStar]; kernel_rfl) (by kernel_rfl) (by decide) u (by rw [lowStar]; exact h)
noncomputable abbrev laidL : List (String × DataW Unit) := Rows.storeLatelyRow.laid
def errTx : Nat → List UInt8
  | 0 => [116, 105, 109, 98, 114, 101, 58, 32, 108, 105, 109, 105, 116]
  | 1 => [116, 105, 109, 98, 114, 101, 58, 32, 116, 101, 120, 116]
  | 2 => [116, 105, 109, 98, 114, 101, 58, 32, 117, 110, 107, 110, 111, 119, 110]
  | 3 => [116, 105, 109, 98, 114, 101, 58, 32, 109, 111, 100, 101]
  | 4 => [116, 105, 109, 98, 114, 101, 58, 32, 116, 111, 111, 32, 115, 104, 111, 114, 116]
  | 5 => [116, 105, 109, 98, 114, 101, 58, 32, 118, 97, 114, 105, 110, 116]
  | 6 => [116, 105, 109, 98, 114, 101, 58, 32, 116, 97, 105, 108]
  | 7 => [116, 105, 109, 98, 114, 101, 58, 32, 114, 97, 110, 103, 101]
  | 8 => [116, 105, 109, 98, 114, 101, 58, 32, 108, 101, 110, 103, 116, 104]
  | 9 => [116, 105, 109, 98, 114, 101, 58, 32, 111, 114, 100, 101, 114]
  | 10 => [116, 105, 109, 98, 114, 101, 58, 32, 112, 114, 111, 103, 114, 97, 109]
  | 11 => [116, 105, 109, 98, 114, 101, 58, 32, 115, 116, 97, 116, 101]
  | 12 => [116, 105, 109, 98, 114, 101, 58, 32, 114, 111, 111, 116]
  | 13 => [116, 105, 109, 98, 114, 101, 58, 32, 112, 101, 114, 109, 117, 116, 97, 116, 105, 111, 110]
  | 14 => [116, 105, 109, 98, 114, 101, 58, 32, 110, 117, 109, 98, 101, 114]
  | 15 => [116, 105, 109, 98, 114, 101, 58, 32, 119, 111, 114, 107, 101, 114, 115]
  | 16 => [116, 105, 109, 98, 114, 101, 58, 32, 100, 111, 110, 101]
  | 17 => [116, 105, 109, 98, 114, 101, 58, 32, 99, 111, 109, 109, 97, 110, 100]
  | 18 => [116, 105, 109, 98, 114, 101, 58, 32, 101, 120, 97, 99, 116]
  | _ => []
/-- The error in variable g: where it lies. -/
def ErrAt (W : World) (g : Nat) : Prop := ∃ a : Addr, W.cell? ⟨g, 0, none⟩ = some (.iface 211 (.pointer (some a))) ∧ (∃ s : ByteArray, W.cell? a = some (.string s) ∧ s.data.toList = errTx g) ∧ ∃ c t, W.heap[a.block]? = some (.cells c t (0, 0))
set_option maxRecDepth 100000 in
theorem err_of {W : World} {n : String} {g : Nat} (h : laidMet Tryz.prog [(n, .iface "*errors.errorString" (.ptr (.agg [.lit (.string (errTx g))])))] W) (hg : Tryz.prog.globalNamed n = some g) (ht : (Tryz.prog.globals[g]?).map (·.type) = some 27) : ErrAt W g := by
  obtain ⟨ps, ⟨g0, t0, cs0, f0, p0, q0, hg0, ht0, hv0, hd0, _, e0⟩, _, hrows⟩ := h
  obtain rfl := Option.some.inj (hg.symm.trans hg0)
  obtain rfl := Option.some.inj (ht.symm.trans ht0)
  subst e0
  obtain ⟨l0⟩ := cs0
  have ok0 : ∀ u v, l0 = [.iface u v] → Value.okWide Tryz.prog W .any 0 u v := fun u v e => by
    subst e
    exact (hrows g 0 (by simp [MemPlace.row])).2 u v (by simpa using World.var?_cell hg0 hv0 0)
  obtain ⟨a0, s0, rfl, hc0, hs0, hz0, hp0⟩ := errorString_of_trod Tryz.underlying27 rowErr Tryz.underlying211 Tryz.underlying227 rfl rfl Tryz.underlying9 (by kernel_rfl) (by kernel_rfl) hd0 ok0
  refine ⟨a0, by simpa using World.var?_cell hg0 hv0 0, ⟨s0, hc0, hs0⟩, ?_⟩
  have hm : MemPlace.cell a0.block a0.off ∈ MemPlace.row a0 1 := by simp [MemPlace.row]
  exact (hrows a0.block a0.off (by rw [hp0]; simp [MemPlace.row])).1
set_option maxRecDepth 100000 in
theorem errs_of {W : World} (h : laidMet Tryz.prog laidL W) : ∀ g, g ∈ errGs → ErrAt W g := by
  simp only [errGs, List.forall_mem_cons]
  exact ⟨err_of (n := "timbre/api.ErrLimit") (h.at 5 rfl) (by kernel_rfl) (by kernel_rfl), err_of (n := "timbre/api.ErrText") (h.at 8 rfl) (by kernel_rfl) (by kernel_rfl), err_of (n := "timbre/api.ErrUnknown") (h.at 18 rfl) (by kernel_rfl) (by kernel_rfl), err_of (n := "timbre/api.ErrMode") (h.at 19 rfl) (by kernel_rfl) (by kernel_rfl), err_of (n := "timbre/api.ErrShort") (h.at 3 rfl) (by kernel_rfl) (by kernel_rfl), err_of (n := "timbre/api.ErrVarint") (h.at 4 rfl) (by kernel_rfl) (by kernel_rfl), err_of (n := "timbre/api.ErrTail") (h.at 6 rfl) (by kernel_rfl) (by kernel_rfl), err_of (n := "timbre/api.ErrRange") (h.at 7 rfl) (by kernel_rfl) (by kernel_rfl), err_of (n := "timbre/api.ErrLength") (h.at 9 rfl) (by kernel_rfl) (by kernel_rfl), err_of (n := "timbre/api.ErrOrder") (h.at 10 rfl) (by kernel_rfl) (by kernel_rfl), err_of (n := "timbre/api.ErrProgram") (h.at 11 rfl) (by kernel_rfl) (by kernel_rfl), err_of (n := "timbre/api.ErrState") (h.at 12 rfl) (by kernel_rfl) (by kernel_rfl), err_of (n := "timbre/api.ErrRoot") (h.at 13 rfl) (by kernel_rfl) (by kernel_rfl), err_of (n := "timbre/api.ErrPerm") (h.at 14 rfl) (by kernel_rfl) (by kernel_rfl), err_of (n := "timbre/api.ErrNumber") (h.at 15 rfl) (by kernel_rfl) (by kernel_rfl), err_of (n := "timbre/api.ErrWorkers") (h.at 16 rfl) (by kernel_rfl) (by kernel_rfl), err_of (n := "timbre/api.ErrDone") (h.at 17 rfl) (by kernel_rfl) (by kernel_rfl), err_of (n := "timbre/api.ErrCommand") (h.at 20 rfl) (by kernel_rfl) (by kernel_rfl), err_of (n := "timbre/api.ErrExact") (h.at 21 rfl) (by kernel_rfl) (by kernel_rfl), fun _ h => absurd h (List.not_mem_nil)⟩
theorem errT_of {W : World} (h : laidMet Tryz.prog laidL W) (hgn : 23 ≤ W.heap.size) : ∃ E, ErrT W.heap.size E W := by
  have h0 : ∀ g, ∃ a : Addr, g ∈ errGs → W.cell? ⟨g, 0, none⟩ = some (.iface 211 (.pointer (some a))) ∧ (∃ s : ByteArray, W.cell? a = some (.string s) ∧ s.data.toList = errTx g) ∧ ∃ c t, W.heap[a.block]? = some (.cells c t (0, 0)) := by
    intro g
    by_cases hg : g ∈ errGs
    · obtain ⟨a, ha⟩ := errs_of h g hg
      exact ⟨a, fun _ => ha⟩
    · exact ⟨⟨0, 0, none⟩, fun hg' => absurd hg' hg⟩
  obtain ⟨E, hE⟩ := Classical.axiomOfChoice h0
  refine ⟨E, ⟨fun g hg => (hE g hg).1, fun g hg => ?_, hgn, fun g k hg hk e => ?_⟩⟩
  · obtain ⟨c, t, hc⟩ := (hE g hg).2.2
    exact ⟨blk_lt hc, c, t, hc⟩
  · obtain ⟨s, h1, h2⟩ := (hE g hg).2.1
    obtain ⟨s', h3, h4⟩ := (hE k hk).2.1
    rw [e, h3] at h1
    have hs : s' = s := by simpa using h1
    subst hs
    exact (by decide : ∀ g ∈ errGs, ∀ k ∈ errGs, errTx g = errTx k → g = k) g hg k hk (h2.symm.trans h4)
theorem gn_of {W : World} (h : laidMet Tryz.prog laidL W) : 23 ≤ W.heap.size := by
  obtain ⟨ps, ⟨g0, t0, cs0, f0, p0, q0, hg0, ht0, hv0, hd0, _, e0⟩, _, hrows⟩ := h.at 1 rfl
  have hg : Tryz.prog.globalNamed "math/bits.deBruijn64tab" = some 22 := by kernel_rfl
  obtain rfl := Option.some.inj (hg.symm.trans hg0)
  unfold World.var? at hv0
  rw [hg] at hv0
  simp only [Option.bind_some] at hv0
  split at hv0
  · rename_i hx
    have := blk_lt hx
    omega
  · cases hv0
theorem tab_of {W : World} (h : laidMet Tryz.prog laidL W) (hgn : 23 ≤ W.heap.size) : TabB W.heap.size W := by
  have hg : Tryz.prog.globalNamed "internal/strconv.uint64pow10" = some 20 := by kernel_rfl
  refine ⟨Lib.tabIs_of_head hg (by kernel_rfl) Tryz.underlying205 Tryz.underlying75 (by kernel_rfl) (by kernel_rfl) (h.at 2 (by kernel_rfl)), fun g e => ?_⟩
  obtain rfl := Option.some.inj (hg.symm.trans e)
  omega
section
variable {H : Type} {enc : TypeId × Value → H} {P : Program} {w : World} {base : Nat} {spare : Nat → Bool} {held : Bool}
theorem struct_cells {e : TypeId} {fs : Array Field} {fuel : Nat} {cs : List Value} {x : DataW H × List MemPlace} (he : P.underlying e = some (.struct fs))
    (hone : oneCellFields P fs = true) (hC : P.cellsOf e = fs.size) (h : DataW.trod enc P w base spare held fuel e cs = some x) :
    ∃ (ys : List (DataW H × List MemPlace)) (n : Nat), x.1 = .agg (ys.map (·.1)) ∧ cs.length = fs.size ∧ ∀ (j : Nat) (f : Field), fs[j]? = some f → ∃ (v : Value) (y : DataW H × List MemPlace), cs[j]? = some v ∧ ys[j]? = some y ∧ DataW.trod enc P w base spare held n f.type [v] = some y := by
  obtain ⟨ys, n', hn', hy, hlen, hyl, hf⟩ := DataW.trod_struct he h
  rw [hC] at hlen
  refine ⟨ys, n', by rw [hy], hlen, fun j f hj => ?_⟩
  obtain ⟨ho, hk⟩ := hone_of hone j f hj
  have hjl : j < fs.size := (Array.getElem?_eq_some_iff.1 hj).1
  have hv : cs[j]? = some (cs[j]'(by omega)) := List.getElem?_eq_getElem (by omega)
  have h1 := hf j f hj
  rw [ho, hk] at h1
  have hone' : (cs.drop j).take 1 = [cs[j]'(by omega)] := by
    rw [List.drop_eq_getElem_cons (by omega)]
    rfl
  rw [hone'] at h1
  have hys : ys[j]? = some (ys[j]'(by omega)) := List.getElem?_eq_getElem (by omega)
  exact ⟨_, _, hv, hys, h1.trans hys⟩
end
def stL : List (List UInt8 × Bool × Bool × Int × Bool) := [([], false, false, 0, false), ([103, 97, 116, 104, 101, 114], true, true, 0, false), ([115, 99, 97, 116, 116, 101, 114], true, true, 0, false), ([122, 101, 114, 111], false, false, 0, false), ([116, 119, 105, 115, 116], false, false, 16384, true), ([102, 108, 121], false, true, 5, false), ([100, 105, 114, 101, 99, 116], true, true, 64, false), ([99, 104, 105, 114, 112], false, false, 16384, false), ([102, 105, 108, 108], false, false, 16384, false), ([116, 105, 109, 101, 115], true, false, 0, false), ([99, 111, 110, 106], false, false, 0, false), ([111, 118, 101, 114], false, false, 16384, false)]
def stD : List (DataW Unit) := stL.map fun e => .agg [.lit (.string e.1), .lit (.bool e.2.1), .lit (.bool e.2.2.1), .lit (.int .i64 e.2.2.2.1), .lit (.bool e.2.2.2.2)]
def stK (i : Fin 12) : Bool := match stL[i.1]? with
  | some e => e.2.1 == kSrc i.1 && e.2.2.1 == kJmp i.1 && e.2.2.2.1 == kN i.1 && e.2.2.2.2 == kK i.1
  | none => false
theorem stK_spec {i : Nat} (hi : i < 12) (h : stK ⟨i, hi⟩ = true) : ∃ t, stD[i]? = some (.agg [.lit (.string t), .lit (.bool (kSrc i)), .lit (.bool (kJmp i)), .lit (.int .i64 (kN i)), .lit (.bool (kK i))]) := by
  unfold stK at h
  split at h
  · rename_i e he
    simp only [Bool.and_eq_true, beq_iff_eq] at h
    obtain ⟨⟨⟨h1, h2⟩, h3⟩, h4⟩ := h
    exact ⟨e.1, by rw [stD, List.getElem?_map, he, ← h1, ← h2, ← h3, ← h4]; rfl⟩
  · cases h
theorem add_glob (g k : Nat) : (⟨g, 0, none⟩ : Addr).add k = ⟨g, k, none⟩ := by
  by_cases hk : k = 0
  · subst hk; rfl
  · simp [Addr.add, hk]
theorem st_of {W : World} (h : laidMet Tryz.prog laidL W) : StT W := by
  obtain ⟨ps, ⟨g0, t0, cs0, f0, p0, q0, hg0, ht0, hv0, hd0, _, e0⟩, _, _⟩ := h.at 22 rfl
  obtain rfl := Option.some.inj ((show Tryz.prog.globalNamed "timbre/steps.table" = some 19 by kernel_rfl).symm.trans hg0)
  obtain rfl := Option.some.inj ((show (Tryz.prog.globals[19]?).map (·.type) = some 150 by kernel_rfl).symm.trans ht0)
  obtain ⟨xs, m1, rfl, hx1, hlen, hn12, hel⟩ := DataW.trod_array Tryz.underlying150 hd0
  have hxs := congrArg Prod.fst hx1
  have ck : Tryz.prog.cellsOf 149 = 5 := by kernel_rfl
  have c9 : Tryz.prog.cellsOf 9 = 1 := by kernel_rfl
  have c4 : Tryz.prog.cellsOf 4 = 1 := by kernel_rfl
  have c3 : Tryz.prog.cellsOf 3 = 1 := by kernel_rfl
  have key : ∀ (i : Nat) (t : List UInt8) (a b : Bool) (n : Int) (k : Bool), (xs.map (·.1))[i]? = some (.agg [.lit (.string t), .lit (.bool a), .lit (.bool b), .lit (.int .i64 n), .lit (.bool k)]) →
      ∃ s : ByteArray, CaR (· < 23) W ((⟨19, 0, none⟩ : Addr).add (i * 5)) [.string s, .bool a, .bool b, .int .i64 n, .bool k] := by
    intro i t a b n k hi
    rw [List.getElem?_map, Option.map_eq_some_iff] at hi
    obtain ⟨x, hx, hxd⟩ := hi
    have hi12 : i < 12 := by have := (List.getElem?_eq_some_iff.1 hx).1; omega
    have h1 := hel i hi12
    rw [hx, ck] at h1
    obtain ⟨ys, n', hy, hcl, hf⟩ := struct_cells Tryz.underlying149 (by kernel_rfl) (by kernel_rfl) h1
    obtain ⟨v0, y0, g0, k0, f0⟩ := hf 0 _ rfl
    obtain ⟨v1, y1, g1, k1, f1⟩ := hf 1 _ rfl
    obtain ⟨v2, y2, g2, k2, f2⟩ := hf 2 _ rfl
    obtain ⟨v3, y3, g3, k3, f3⟩ := hf 3 _ rfl
    obtain ⟨v4, y4, g4, k4, f4⟩ := hf 4 _ rfl
    obtain ⟨s, e0', e0'', _⟩ := DataW.trod_string Tryz.underlying9 f0
    obtain ⟨b1, e1', e1''⟩ := DataW.trod_bool Tryz.underlying4 f1
    obtain ⟨b2, e2', e2''⟩ := DataW.trod_bool Tryz.underlying4 f2
    obtain ⟨z3, e3', e3'', _⟩ := DataW.trod_int Tryz.underlying3 f3
    obtain ⟨b4, e4', e4''⟩ := DataW.trod_bool Tryz.underlying4 f4
    rw [hy] at hxd
    simp only [DataW.agg.injEq] at hxd
    subst e0'' e1'' e2'' e3'' e4''
    have q1 := congrArg (fun l => l[1]?) hxd; have q2 := congrArg (fun l => l[2]?) hxd; have q3 := congrArg (fun l => l[3]?) hxd; have q4 := congrArg (fun l => l[4]?) hxd
    simp only [List.getElem?_map, k1, k2, k3, k4, Option.map_some, List.getElem?_cons_succ, List.getElem?_cons_zero, Option.some.injEq, DataW.lit.injEq, Lit.bool.injEq, Lit.int.injEq, true_and] at q1 q2 q3 q4
    subst q1 q2 q3 q4
    simp only [List.cons.injEq, and_true] at e0' e1' e2' e3' e4'
    subst e0' e1' e2' e3' e4'
    have cell : ∀ j v, j < 5 → ((cs0.toList.drop (i * 5)).take 5)[j]? = some v → W.cell? (((⟨19, 0, none⟩ : Addr).add (i * 5)).add j) = some v := by
      intro j v hj5 hj
      rw [List.getElem?_take, if_pos hj5, List.getElem?_drop, Array.getElem?_toList] at hj
      have := World.var?_cell hg0 hv0 (i * 5 + j)
      rw [hj] at this
      rw [← this, Go.Deep.add_add, add_glob]
    refine ⟨s, fun j v hj => ?_, by rw [add_block]; decide⟩
    match j, hj with
    | 0, hj => obtain rfl := Option.some.inj hj; exact cell 0 _ (by decide) g0
    | 1, hj => obtain rfl := Option.some.inj hj; exact cell 1 _ (by decide) g1
    | 2, hj => obtain rfl := Option.some.inj hj; exact cell 2 _ (by decide) g2
    | 3, hj => obtain rfl := Option.some.inj hj; exact cell 3 _ (by decide) g3
    | 4, hj => obtain rfl := Option.some.inj hj; exact cell 4 _ (by decide) g4
    | j + 5, hj => simp at hj
  have hD : xs.map (·.1) = stD := by
    simp only [DataW.agg.injEq, Rows.laid_timbre_steps_table] at hxs
    exact hxs.symm
  rw [hD] at key
  have all : ∀ i, ∃ s : ByteArray, i < 12 → CaR (· < 23) W ((⟨19, 0, none⟩ : Addr).add (i * 5)) [.string s, .bool (kSrc i), .bool (kJmp i), .int .i64 (kN i), .bool (kK i)] := by
    intro i
    by_cases hi : i < 12
    · have h2 := (by decide : ∀ i : Fin 12, stK i = true) ⟨i, hi⟩
      obtain ⟨t, ht⟩ := stK_spec hi h2
      obtain ⟨s, hs⟩ := key i _ _ _ _ _ ht
      exact ⟨s, fun _ => hs⟩
    · exact ⟨⟨#[]⟩, fun h => absurd h hi⟩
  obtain ⟨nm, hnm⟩ := Classical.axiomOfChoice all
  exact ⟨nm, hnm⟩
theorem flatO_len : ∀ L : List Opn, (flatO L).length = L.length * 4
  | [] => rfl
  | t :: L => by
    show (t.cells ++ flatO L).length = _
    rw [List.length_append, flatO_len L, List.length_cons]
    show 4 + _ = _
    omega
theorem flatO_at : ∀ (L : List Opn) (p : Nat) (v : Value), (flatO L)[p]? = some v → ∃ i j s, p = i * 4 + j ∧ j < 4 ∧ L[i]? = some s ∧ s.cells[j]? = some v
  | [], _, _, h => by simp [flatO] at h
  | t :: L, p, v, h => by
    have e : flatO (t :: L) = t.cells ++ flatO L := rfl
    rw [e] at h
    have h7 : t.cells.length = 4 := rfl
    by_cases hp : p < 4
    · rw [List.getElem?_append_left (by omega)] at h
      exact ⟨0, p, t, by omega, hp, rfl, h⟩
    · rw [List.getElem?_append_right (by omega), h7] at h
      obtain ⟨i, j, s, h1, h2, h3, h4⟩ := flatO_at L _ v h
      exact ⟨i + 1, j, s, by omega, h2, h3, h4⟩
section
variable {H : Type} {enc : TypeId × Value → H} {P : Program} {w : World} {base : Nat} {spare : Nat → Bool} {held : Bool}
theorem open_slice_fields {t e : TypeId} {fs : Array Field} {fuel : Nat} {cs : List Value} {x : DataW H × List MemPlace} (ht : P.underlying t = some (.slice e)) (he : P.underlying e = some (.struct fs))
    (hone : oneCellFields P fs = true) (hC : P.cellsOf e = fs.size) (h : DataW.trod enc P w base spare held fuel t cs = some x) :
    (cs = [.slice none 0 0] ∧ x = (.nil, [])) ∨
    ∃ (a : Addr) (len cap : Nat), cs = [.slice (some a) len cap] ∧ len ≤ cap ∧ cap ≤ maxLen ∧
      ∀ i, i < len → ∀ (j : Nat) (f : Field), fs[j]? = some f → ∃ (v : Value) (y : DataW H × List MemPlace) (n : Nat), w.cell? (a.add (i * fs.size + j)) = some v ∧ DataW.trod enc P w base spare held n f.type [v] = some y := by
  rcases open_slice ht h with h0 | ⟨a, len, cap, m, n, D, Pl, hcs, hb, hl, hm, hmm, hx, hi⟩
  · exact .inl h0
  · refine .inr ⟨a, len, cap, hcs, hl, hm, fun i hil j f hj => ?_⟩
    have him : i < m := by rw [hmm]; split <;> omega
    obtain ⟨cs', hc, ht'⟩ := hi i him
    rw [hC] at hc
    obtain ⟨ys, n', hn', hy, hlen, hyl, hf⟩ := DataW.trod_struct he ht'
    obtain ⟨_, hcl, hat⟩ := World.cells?_some hc
    obtain ⟨ho, hk⟩ := hone_of hone j f hj
    have hjl : j < fs.size := (Array.getElem?_eq_some_iff.1 hj).1
    have hcell := hat j hjl
    have hv : cs'[j]? = some (cs'[j]'(by omega)) := List.getElem?_eq_getElem (by omega)
    have h1 := hf j f hj
    rw [ho, hk] at h1
    have hone' : (cs'.drop j).take 1 = [cs'[j]'(by omega)] := by
      rw [List.drop_eq_getElem_cons (by omega)]
      rfl
    rw [hone'] at h1
    have hys : ys[j]? = some (ys[j]'(by omega)) := List.getElem?_eq_getElem (by omega)
    refine ⟨_, _, n', ?_, h1.trans hys⟩
    rw [← Go.Deep.add_add, hcell, hv]
end
theorem strV_of (s : ByteArray) : strV s.data.toList = .string s := by
  unfold strV; congr
set_option maxRecDepth 100000 in
/-- An argument that is a slice of operations. -/
theorem open_ops {H : Type} {enc : TypeId × Value → H} {W : World} {base : Nat} {sp : Nat → Bool} {held : Bool} {v : Value} {d : DataW H} {p : List MemPlace} {b0 : Nat} (hv : Value.okWide Tryz.prog W .any b0 22 v) (h : DataW.Trod enc Tryz.prog W base sp held 22 v d p) :
    ∃ (A : Option Addr) (c : Nat) (SC : List Opn), v = .slice A SC.length c ∧ SlR (· < W.heap.size) W A SC.length 4 (flatO SC) ∧ SC.length ≤ 9223372036854775807 := by
  obtain ⟨A, l, c, rfl⟩ := okWide_slice Tryz.underlying22 hv
  obtain ⟨fuel, hf⟩ := h
  rcases open_slice_fields Tryz.underlying22 Tryz.underlying32 (by kernel_rfl) (by kernel_rfl) hf with ⟨h0, _⟩ | ⟨a, len, cap, h0, hl, hm, hi⟩
  · simp only [Value.cells, List.cons.injEq, Value.slice.injEq, and_true] at h0
    obtain ⟨rfl, rfl, rfl⟩ := h0
    exact ⟨none, 0, [], rfl, ⟨rfl, fun h => absurd h (by simp), fun _ h => (by cases h), fun _ h => (by cases h)⟩, by simp⟩
  · simp only [Value.cells, List.cons.injEq, Value.slice.injEq, and_true] at h0
    obtain ⟨rfl, rfl, rfl⟩ := h0
    have hblk : a.block < W.heap.size := by
      simp only [Value.okWide, Tryz.underlying22, Cell.okWide, Cell.ok] at hv
      obtain ⟨_, _, _, _, row, cells, hs, _⟩ := hv
      unfold World.shape? at hs
      split at hs
      · rename_i hx; exact blk_lt hx
      · cases hs
    have h1 : ∀ i, ∃ o : Opn, i < l → ∀ j v, o.cells[j]? = some v → W.cell? (a.add (i * 4 + j)) = some v := by
      intro i
      by_cases hil : i < l
      · obtain ⟨v0, y0, n0, c0, t0⟩ := hi i hil 0 _ rfl
        obtain ⟨v1, y1, n1, c1, t1⟩ := hi i hil 1 _ rfl
        obtain ⟨v2, y2, n2, c2, t2⟩ := hi i hil 2 _ rfl
        obtain ⟨v3, y3, n3, c3, t3⟩ := hi i hil 3 _ rfl
        obtain ⟨z0, e0, _⟩ := DataW.trod_int Tryz.underlying3 t0
        obtain ⟨s1, e1, _⟩ := DataW.trod_string Tryz.underlying9 t1
        obtain ⟨z2, e2, _⟩ := DataW.trod_int Tryz.underlying3 t2
        obtain ⟨z3, e3, _⟩ := DataW.trod_int Tryz.underlying3 t3
        simp only [List.cons.injEq, and_true] at e0 e1 e2 e3
        subst e0 e1 e2 e3
        refine ⟨⟨z0, s1.data.toList, z2, z3⟩, fun _ j v hj => ?_⟩
        simp only [Opn.cells, strV_of] at hj
        match j, hj with
        | 0, hj => obtain rfl := Option.some.inj hj; exact c0
        | 1, hj => obtain rfl := Option.some.inj hj; exact c1
        | 2, hj => obtain rfl := Option.some.inj hj; exact c2
        | 3, hj => obtain rfl := Option.some.inj hj; exact c3
        | j + 4, hj => simp at hj
      · exact ⟨⟨0, [], 0, 0⟩, fun h => absurd h hil⟩
    obtain ⟨F, hF⟩ := Classical.axiomOfChoice h1
    have hSl : ((List.range l).map F).length = l := by simp
    refine ⟨some a, c, (List.range l).map F, by rw [hSl], ⟨?_, fun _ => ⟨a, rfl⟩, fun ad had => ?_, fun ad had => ?_⟩, ?_⟩
    · exact flatO_len _
    · cases had
      intro p v hp
      obtain ⟨i, j, s, rfl, hj, hs, hv'⟩ := flatO_at _ p v hp
      have hil : i < l := by have := (List.getElem?_eq_some_iff.1 hs).1; omega
      rw [List.getElem?_map, List.getElem?_range hil] at hs
      obtain rfl := Option.some.inj hs
      exact hF i hil j v hv'
    · cases had; exact hblk
    · rw [hSl]; unfold maxLen at hm; omega



end Go.Tm
