/- Lemmas of this claim, joined by program. What a row's laid variables give the walks, gridNoughts. Conditions: each lemma names its own. -/
import Derived.Test.YtpfglkohcfjelaaGreatDoorC20
import Derived.Test.YtpfglkohcfjelaaGreatDoorRows
import Derived.ProofKit
import Derived.LaidMore
import Derived.LaidSub
import Derived.OpenShut
import Derived.Stop.Joined
import Derived.Stop.LaidErr
import Derived.Lib.LaidTab
import Derived.Deep.Slices
import Derived.Deep.Fields
import Derived.Deep.OwnRows
import Derived.WideKeyArgs
import Derived.ChangeSlices
set_option linter.all false
namespace Go.Tm
open Go.RowKit Go.Proofs Go.ChangeShapes Go.WideShapes Go.Deep
open Go.Proofs.YtpfglkohcfjelaaGreatDoor
theorem laidVars_at {P : Program} {w : World} : ∀ {l : List (String × DataW Unit)} {ps : List MemPlace} (i : Nat) {x : String × DataW Unit}, DataW.LaidVars P w l ps → l[i]? = some x → ∃ ps', DataW.LaidVars P w [x] ps' ∧ ps'.Sublist ps
  | [], _, _, _, _, h => by simp at h
  | (n, d) :: r, ps, 0, x, h, hi => by
    obtain ⟨g, t, cs, fuel, p, q, e1, e2, e3, e4, hr, rfl⟩ := h
    simp only [List.getElem?_cons_zero, Option.some.injEq] at hi
    subst hi
    exact ⟨_, ⟨g, t, cs, fuel, p, [], e1, e2, e3, e4, rfl, rfl⟩, by rw [List.append_nil]; exact List.sublist_append_left _ _⟩
  | (n, d) :: r, ps, i + 1, x, h, hi => by
    obtain ⟨g, t, cs, fuel, p, q, e1, e2, e3, e4, hr, rfl⟩ := h
    obtain ⟨ps', h1, h2⟩ := laidVars_at i hr (by simpa using hi)
    exact ⟨ps', h1, h2.trans (List.sublist_append_right _ _)⟩
theorem _root_.Go.laidMet.at {P : Program} {w : World} {l : List (String × DataW Unit)} {x : String × DataW Unit} (h : laidMet P l w) (i : Nat) (hi : l[i]? = some x) : laidMet P [x] w := by
  obtain ⟨ps, hl, hnd, hrows⟩ := h
  obtain ⟨ps', h1, h2⟩ := laidVars_at i hl hi
  exact ⟨ps', h1, h2.nodup hnd, fun b off hp => hrows b off (h2.subset hp)⟩
noncomputable abbrev laidL : List (String × DataW Unit) := Rows.gridNoughtsRow.laid
theorem gn_of {W : World} (h : laidMet Tryz.prog laidL W) : 24 ≤ W.heap.size := by
  obtain ⟨ps, ⟨g0, t0, cs0, f0, p0, q0, hg0, ht0, hv0, hd0, _, e0⟩, _, hrows⟩ := h.at 1 rfl
  have hg : Tryz.prog.globalNamed "math/bits.deBruijn64tab" = some 23 := by kernel_rfl
  obtain rfl := Option.some.inj (hg.symm.trans hg0)
  unfold World.var? at hv0
  rw [hg] at hv0
  simp only [Option.bind_some] at hv0
  split at hv0
  · rename_i hx
    have := blk_lt hx
    omega
  · cases hv0
theorem tab_of {W : World} (h : laidMet Tryz.prog laidL W) (hgn : 24 ≤ W.heap.size) : TabB W.heap.size W := by
  have hg : Tryz.prog.globalNamed "internal/strconv.uint64pow10" = some 21 := by kernel_rfl
  refine ⟨Lib.tabIs_of_head hg (by kernel_rfl) Tryz.underlying314 υ74 (by kernel_rfl) (by kernel_rfl) (h.at 2 (by kernel_rfl)), fun g e => ?_⟩
  obtain rfl := Option.some.inj (hg.symm.trans e)
  omega
section
variable {H : Type} {enc : TypeId × Value → H} {P : Program} {w : World} {base : Nat} {spare : Nat → Bool} {held : Bool}
theorem struct_cells {e : TypeId} {fs : Array Field} {fuel : Nat} {cs : List Value} {x : DataW H × List MemPlace} (he : P.underlying e = some (.struct fs))
    (hone : oneCellFields P fs = true) (hC : P.cellsOf e = fs.size) (h : DataW.trod enc P w base spare held fuel e cs = some x) :
    ∃ (ys : List (DataW H × List MemPlace)) (n : Nat), x.1 = .agg (ys.map (·.1)) ∧ cs.length = fs.size ∧ ∀ (j : Nat) (f : Field), fs[j]? = some f → ∃ (v : Value) (y : DataW H × List MemPlace), cs[j]? = some v ∧ ys[j]? = some y ∧ DataW.trod enc P w base spare held n f.type [v] = some y := by
  obtain ⟨ys, n', hn', hy, hlen, hyl, hf⟩ := DataW.trod_struct he h
  rw [hC] at hlen
  refine ⟨ys, n', by rw [hy], hlen, fun j f hj => ?_⟩
  obtain ⟨ho, hk⟩ := hone_of hone j f hj
  have hjl : j < fs.size := (Array.getElem?_eq_some_iff.1 hj).1
  have hv : cs[j]? = some (cs[j]'(by omega)) := List.getElem?_eq_getElem (by omega)
  have h1 := hf j f hj
  rw [ho, hk] at h1
  have hone' : (cs.drop j).take 1 = [cs[j]'(by omega)] := by
    rw [List.drop_eq_getElem_cons (by omega)]
    rfl
  rw [hone'] at h1
  have hys : ys[j]? = some (ys[j]'(by omega)) := List.getElem?_eq_getElem (by omega)
  exact ⟨_, _, hv, hys, h1.trans hys⟩
end
def stL : List (List UInt8 × Bool × Bool × Int × Bool) := [([], false, false, 0, false), ([103, 97, 116, 104, 101, 114], true, true, 0, false), ([115, 99, 97, 116, 116, 101, 114], true, true, 0, false), ([122, 101, 114, 111], false, false, 0, false), ([116, 119, 105, 115, 116], false, false, 16384, true), ([102, 108, 121], false, true, 5, false), ([100, 105, 114, 101, 99, 116], true, true, 64, false), ([99, 104, 105, 114, 112], false, false, 16384, false), ([102, 105, 108, 108], false, false, 16384, false), ([116, 105, 109, 101, 115], true, false, 0, false), ([99, 111, 110, 106], false, false, 0, false), ([111, 118, 101, 114], false, false, 16384, false)]
def stD : List (DataW Unit) := stL.map fun e => .agg [.lit (.string e.1), .lit (.bool e.2.1), .lit (.bool e.2.2.1), .lit (.int .i64 e.2.2.2.1), .lit (.bool e.2.2.2.2)]
def stK (i : Fin 12) : Bool := match stL[i.1]? with
  | some e => e.2.1 == kSrc i.1 && e.2.2.1 == kJmp i.1 && e.2.2.2.1 == kN i.1 && e.2.2.2.2 == kK i.1
  | none => false
theorem stK_spec {i : Nat} (hi : i < 12) (h : stK ⟨i, hi⟩ = true) : ∃ t, stD[i]? = some (.agg [.lit (.string t), .lit (.bool (kSrc i)), .lit (.bool (kJmp i)), .lit (.int .i64 (kN i)), .lit (.bool (kK i))]) := by
  unfold stK at h
  split at h
  · rename_i e he
    simp only [Bool.and_eq_true, beq_iff_eq] at h
    obtain ⟨⟨⟨h1, h2⟩, h3⟩, h4⟩ := h
    exact ⟨e.1, by rw [stD, List.getElem?_map, he, ← h1, ← h2, ← h3, ← h4]; rfl⟩
  · cases h
theorem add_glob (g k : Nat) : (⟨g, 0, none⟩ : Addr).add k = ⟨g, k, none⟩ := by
  by_cases hk : k = 0
  · subst hk; rfl
  · simp [Addr.add, hk]
theorem st_of {W : World} (h : laidMet Tryz.prog laidL W) : StT W := by
  obtain ⟨ps, ⟨g0, t0, cs0, f0, p0, q0, hg0, ht0, hv0, hd0, _, e0⟩, _, _⟩ := h.at 10 rfl
  obtain rfl := Option.some.inj ((show Tryz.prog.globalNamed "timbre/steps.table" = some 20 by kernel_rfl).symm.trans hg0)
  obtain rfl := Option.some.inj ((show (Tryz.prog.globals[20]?).map (·.type) = some 260 by kernel_rfl).symm.trans ht0)
  obtain ⟨xs, m1, rfl, hx1, hlen, hn12, hel⟩ := DataW.trod_array υ260 hd0
  have hxs := congrArg Prod.fst hx1
  have ck : Tryz.prog.cellsOf 259 = 5 := by kernel_rfl
  have c9 : Tryz.prog.cellsOf 9 = 1 := by kernel_rfl
  have c4 : Tryz.prog.cellsOf 4 = 1 := by kernel_rfl
  have c3 : Tryz.prog.cellsOf 3 = 1 := by kernel_rfl
  have key : ∀ (i : Nat) (t : List UInt8) (a b : Bool) (n : Int) (k : Bool), (xs.map (·.1))[i]? = some (.agg [.lit (.string t), .lit (.bool a), .lit (.bool b), .lit (.int .i64 n), .lit (.bool k)]) →
      ∃ s : ByteArray, CaR (· < 24) W ((⟨20, 0, none⟩ : Addr).add (i * 5)) [.string s, .bool a, .bool b, .int .i64 n, .bool k] := by
    intro i t a b n k hi
    rw [List.getElem?_map, Option.map_eq_some_iff] at hi
    obtain ⟨x, hx, hxd⟩ := hi
    have hi12 : i < 12 := by have := (List.getElem?_eq_some_iff.1 hx).1; omega
    have h1 := hel i hi12
    rw [hx, ck] at h1
    obtain ⟨ys, n', hy, hcl, hf⟩ := struct_cells υ259 (by kernel_rfl) (by kernel_rfl) h1
    obtain ⟨v0, y0, g0, k0, f0⟩ := hf 0 _ rfl
    obtain ⟨v1, y1, g1, k1, f1⟩ := hf 1 _ rfl
    obtain ⟨v2, y2, g2, k2, f2⟩ := hf 2 _ rfl
    obtain ⟨v3, y3, g3, k3, f3⟩ := hf 3 _ rfl
    obtain ⟨v4, y4, g4, k4, f4⟩ := hf 4 _ rfl
    obtain ⟨s, e0', e0'', _⟩ := DataW.trod_string υ9 f0
    obtain ⟨b1, e1', e1''⟩ := DataW.trod_bool υ4 f1
    obtain ⟨b2, e2', e2''⟩ := DataW.trod_bool υ4 f2
    obtain ⟨z3, e3', e3'', _⟩ := DataW.trod_int υ3 f3
    obtain ⟨b4, e4', e4''⟩ := DataW.trod_bool υ4 f4
    rw [hy] at hxd
    simp only [DataW.agg.injEq] at hxd
    subst e0'' e1'' e2'' e3'' e4''
    have q1 := congrArg (fun l => l[1]?) hxd; have q2 := congrArg (fun l => l[2]?) hxd; have q3 := congrArg (fun l => l[3]?) hxd; have q4 := congrArg (fun l => l[4]?) hxd
    simp only [List.getElem?_map, k1, k2, k3, k4, Option.map_some, List.getElem?_cons_succ, List.getElem?_cons_zero, Option.some.injEq, DataW.lit.injEq, Lit.bool.injEq, Lit.int.injEq, true_and] at q1 q2 q3 q4
    subst q1 q2 q3 q4
    simp only [List.cons.injEq, and_true] at e0' e1' e2' e3' e4'
    subst e0' e1' e2' e3' e4'
    have cell : ∀ j v, j < 5 → ((cs0.toList.drop (i * 5)).take 5)[j]? = some v → W.cell? (((⟨20, 0, none⟩ : Addr).add (i * 5)).add j) = some v := by
      intro j v hj5 hj
      rw [List.getElem?_take, if_pos hj5, List.getElem?_drop, Array.getElem?_toList] at hj
      have := World.var?_cell hg0 hv0 (i * 5 + j)
      rw [hj] at this
      rw [← this, Go.Deep.add_add, add_glob]
    refine ⟨s, fun j v hj => ?_, by rw [add_block]; decide⟩
    match j, hj with
    | 0, hj => obtain rfl := Option.some.inj hj; exact cell 0 _ (by decide) g0
    | 1, hj => obtain rfl := Option.some.inj hj; exact cell 1 _ (by decide) g1
    | 2, hj => obtain rfl := Option.some.inj hj; exact cell 2 _ (by decide) g2
    | 3, hj => obtain rfl := Option.some.inj hj; exact cell 3 _ (by decide) g3
    | 4, hj => obtain rfl := Option.some.inj hj; exact cell 4 _ (by decide) g4
    | j + 5, hj => simp at hj
  have hD : xs.map (·.1) = stD := by
    simp only [DataW.agg.injEq, Rows.laid_timbre_steps_table] at hxs
    exact hxs.symm
  rw [hD] at key
  have all : ∀ i, ∃ s : ByteArray, i < 12 → CaR (· < 24) W ((⟨20, 0, none⟩ : Addr).add (i * 5)) [.string s, .bool (kSrc i), .bool (kJmp i), .int .i64 (kN i), .bool (kK i)] := by
    intro i
    by_cases hi : i < 12
    · have h2 := (by decide : ∀ i : Fin 12, stK i = true) ⟨i, hi⟩
      obtain ⟨t, ht⟩ := stK_spec hi h2
      obtain ⟨s, hs⟩ := key i _ _ _ _ _ ht
      exact ⟨s, fun _ => hs⟩
    · exact ⟨⟨#[]⟩, fun h => absurd h hi⟩
  obtain ⟨nm, hnm⟩ := Classical.axiomOfChoice all
  exact ⟨nm, hnm⟩
theorem lowStar : "*" ++ "errors.errorString" = "*errors.errorString" := by decide
theorem rowErr (u : TypeId) (h : Tryz.prog.typeName? 3 u = some "*errors.errorString") : u = 321 :=
  typeName_ptr_named (nm := "errors.errorString") (by rw [lowStar]; kernel_rfl) (by kernel_rfl) (by decide) u (by rw [lowStar]; exact h)
set_option maxRecDepth 100000 in
theorem errL_of {W : World} (h0 : laidMet Tryz.prog laidL W) : ∃ E, ErrL E W := by
  have h := h0.at 4 rfl
  obtain ⟨ps, ⟨g0, t0, cs0, f0, p0, q0, hg0, ht0, hv0, hd0, _, e0⟩, _, hrows⟩ := h
  obtain rfl := Option.some.inj ((show Tryz.prog.globalNamed "timbre/api.ErrLength" = some 0 by kernel_rfl).symm.trans hg0)
  obtain rfl := Option.some.inj ((show (Tryz.prog.globals[0]?).map (·.type) = some 28 by kernel_rfl).symm.trans ht0)
  subst e0
  obtain ⟨l0⟩ := cs0
  have ok0 : ∀ u v, l0 = [.iface u v] → Value.okWide Tryz.prog W .any 0 u v := fun u v e => by
    subst e
    exact (hrows 0 0 (by simp [MemPlace.row])).2 u v (by simpa using World.var?_cell hg0 hv0 0)
  obtain ⟨a0, s0, rfl, hc0, hs0, hz0, hp0⟩ := errorString_of_trod υ28 rowErr Tryz.underlying321 Tryz.underlying338 rfl rfl υ9 (by kernel_rfl) (by kernel_rfl) hd0 ok0
  exact ⟨a0, ⟨by simpa using World.var?_cell hg0 hv0 0⟩⟩
end Go.Tm
