/- Lemmas of this claim, joined by program. The law GridNoughts: for all sides and signs the call returns true and what came in reads as it did. The call, lifted. Conditions: those of the given statement alone. Conditions: each lemma names its own. -/
import Derived.Test.YtpfglkohcfjelaaGreatDoorC21
import Derived.SizedLaws
import Derived.Test.YtpfglkohcfjelaaGreatDoorRows
import Derived.Test.YtpfglkohcfjelaaGreatDoorTie
import Derived.Test.YtpfglkohcfjelaaGreatDoorCards
import Derived.ProofKit
import Derived.LaidMore
import Derived.OpenShut
import Derived.Stop.Joined
import Derived.Deep.Grids
import Derived.WideKeyArgs
import Derived.SevenTiedAt
set_option linter.all false
namespace Go.Proofs.YtpfglkohcfjelaaGreatDoor
set_option maxRecDepth 100000
open Go.ChangeShapes Go.WideShapes Go.ChangeAt Go.RowKit Go.Tm
theorem ownKnobs : ownKnob Tryz.prog.godebug = none := by kernel_rfl
theorem laidOutP : laidOutB Tryz.prog = true := by kernel_rfl
theorem doorMet (os : Os) (args : Array Value) : laidMetH Tryz.prog laidL ((World.doorLaid Tryz.prog 402 os).forCall (fun _ _ => 0) ⟨#[], args, []⟩).memory :=
  laidMetH_of_parts3 (fuel := 8) (laidMet_of_run' 8 (by kernel_rfl) (by kernel_rfl)) (by kernel_rfl) (by kernel_rfl)
theorem since_of {w w' : World} (c : Ch No w w') : w.Since w.heap.size w' :=
  ⟨c.os, c.tape, c.output, c.size, fun k hk => by rw [c.old k _ (fun h => h) (Array.getElem?_eq_getElem hk), Array.getElem?_eq_getElem hk]⟩
theorem open_boolsZ {H : Type} {enc : TypeId × Value → H} {W : World} {base : Nat} {held : Bool} {v : Value} {d : DataW H} {p : List MemPlace} {b0 : Nat} (hv : Value.okWide Tryz.prog W .any b0 43 v) (h : DataW.Trod enc Tryz.prog W base (fun _ => true) held 43 v d p) :
    ∃ (A : Option Addr) (l c : Nat) (zs : List Bool), v = .slice A l c ∧ SlR (· < W.heap.size) W A l 1 (zs.map BV) ∧ l ≤ 9223372036854775807 := by
  obtain ⟨A, l, c, rfl⟩ := okWide_slice υ43 hv
  obtain ⟨fuel, hf⟩ := h
  rcases Deep.open_bools υ43 υ4 (by kernel_rfl) hf with ⟨h0, _⟩ | ⟨a, len, cap, B, h0, _, hl, hm, _, hc⟩
  · simp only [Value.cells, List.cons.injEq, Value.slice.injEq, and_true] at h0
    obtain ⟨rfl, rfl, rfl⟩ := h0
    exact ⟨none, 0, 0, [], rfl, SlR.nil _ _ _, by decide⟩
  · simp only [Value.cells, List.cons.injEq, Value.slice.injEq, and_true] at h0
    obtain ⟨rfl, rfl, rfl⟩ := h0
    have hblk : a.block < W.heap.size := by
      simp only [Value.okWide, υ43, Cell.okWide, Cell.ok] at hv
      obtain ⟨_, _, _, _, row, cells, hs, _⟩ := hv
      unfold World.shape? at hs
      split at hs
      · rename_i hx; exact blk_lt hx
      · cases hs
    refine ⟨some a, l, c, (List.range l).map B, rfl, ⟨by simp, fun _ => ⟨a, rfl⟩, fun ad had => ?_, fun ad had => ?_⟩, by simp only [maxLen] at hm; omega⟩
    · cases had
      intro j u hj
      rw [List.getElem?_map, List.getElem?_map] at hj
      by_cases c0 : j < l
      · rw [List.getElem?_range c0] at hj
        cases hj
        first | exact hc j (by omega) | (rw [Nat.mul_one]; exact hc j (by omega))
      · rw [List.getElem?_eq_none (by simp; omega)] at hj; cases hj
    · cases had
      exact hblk
theorem gridNoughts_lifted (os : Os) (started : os.Started) (H : Type) (enc : TypeId × Value → H) :
    ReturnsInHanded {} Tryz.checked os 5 .any (fun w args => (Rows.gridNoughtsSpec.pre enc Tryz.prog Tryz.f5 [] false w args ∧ laidMetH Tryz.prog laidL w) ∧ sizedMet enc Tryz.prog Tryz.f5 (OpenSpec.ofChange Rows.gridNoughtsSpec) false w args)
      (Rows.gridNoughtsSpec.post enc Tryz.prog Tryz.f5 false true false false) := by
  refine returnsInHanded_of_change_and (C := Tryz.checked) (X := fun w _ => laidMetH Tryz.prog laidL w) (fun _ _ _ hh h => h.of_heap hh) ownKnobs started (by kernel_rfl) Tryz.func5
    (ChangeSpec.witness_shaped (enc := enc) (C := Tryz.checked) (os := os) (X := fun w _ => laidMetH Tryz.prog laidL w) false (World.doorLaid Tryz.prog 402 os) #[.int .i64 0, .int .i64 0, .slice none 0 0] 8 rfl (World.shaped_of_RefB (by kernel_rfl) (by kernel_rfl)) (by kernel_rfl) (by kernel_rfl) (by kernel_rfl) (doorMet os _)) ?_
  intro W base args ds gs before hval0 hW _ hsz hL _
  have hval : ∀ (j : Nat) t v, Tryz.f5.params[j]? = some t → args[j]? = some v → Value.okWide Tryz.prog W .any base t v := hval0
  have hW' := hW
  obtain ⟨p, q, hA0, hV, rfl, hfz, hnd⟩ := hW
  have hA : DataW.TrodAll enc Tryz.prog W 0 (fun _ => true) true Tryz.f5.params.toList args.toList ds p := hA0
  rw [Tryz.params5] at hA hval
  obtain ⟨v0, v1, v2, d0, d1, d2, p0, p1, p2, rfl, rfl, rfl, h0, h1, h2⟩ := trodAll_three hA
  obtain ⟨rfl, rfl⟩ := trodVars_none hV
  obtain ⟨r, rfl, rfl, rfl, hwr⟩ := open_int υ3 (hval 0 3 v0 rfl rfl) h0
  obtain ⟨c, rfl, rfl, rfl, hwc⟩ := open_int υ3 (hval 1 3 v1 rfl rfl) h1
  obtain ⟨A, l, cc, bs, rfl, sx, hl⟩ := open_boolsZ (hval 2 43 v2 rfl rfl) h2
  rw [MakeChecks.laidMetH_plain _ _ _ (by kernel_rfl)] at hL
  have hgn := gn_of hL
  have st := st_of hL
  have tab := tab_of hL hgn
  obtain ⟨E, er⟩ := errL_of hL
  have hlt2 : ∀ x ∈ p2, x.block < W.heap.size := fun x hx => hW'.lt x (by simp [hx])
  refine (law_Noughts E (· < W.heap.size) r c A l cc bs W sx (fun _ h => h) hl er st tab hgn).mono ?_
  rintro e W' ⟨v, rfl, rfl, ch⟩
  have hs := since_of ch
  have e1 : Rows.gridNoughtsSpec.fn H ([.lit (.int .i64 r), .lit (.int .i64 c), d2] ++ []) = { results := [.lit (.bool true)], args := [.lit (.int .i64 r), .lit (.int .i64 c), d2] } := by simp [Rows.gridNoughtsSpec]
  have hstay : DataW.Trod enc Tryz.prog W' 0 (fun b => decide (b < W.heap.size)) true 43 _ d2 p2 :=
    WideElems.Trod_stays laidOutP (by kernel_rfl) (of_decide_eq_true (by kernel_rfl)) h2 (fun x hx => hs.sameAt (hlt2 x hx)) (fun x hx => by simpa using hlt2 x hx)
  refine ⟨_, rfl, _, _, _, [], ([] ++ ([] ++ p2)), [], hW', ?_, ?_, ?_, hs.frame _, fun h => by cases h⟩
  · rw [e1]; exact trodAll_mk1 (shut_bool υ4 true)
  · rw [e1]; exact trodAll_mk3 (shut_int υ3 hwr) (shut_int υ3 hwc) hstay
  · rw [e1]; rfl
end Go.Proofs.YtpfglkohcfjelaaGreatDoor
