/- The law StoreLately of a store that keeps no more than its room: for every number and every slice of operations the call returns true and what came in reads as it did. The row and its tied card. Conditions: those of the given statement alone. -/
import Derived.Test.YtgnkdfkkplbjiaaGreatDoorA14
import Derived.Test.YtgnkdfkkplbjiaaGreatDoorRows
import Derived.Test.YtgnkdfkkplbjiaaGreatDoorTie
import Derived.Test.YtgnkdfkkplbjiaaGreatDoorCards
import Derived.ProofKit
import Derived.LaidMore
import Derived.OpenShut
import Derived.Stop.Joined
import Derived.WideKeyArgs
import Derived.SevenTiedAt
set_option linter.all false
namespace Go.Proofs.YtgnkdfkkplbjiaaGreatDoor
open Go.ChangeShapes Go.WideShapes Go.ChangeAt Go.RowKit Go.Tm
theorem ownKnobs : ownKnob Tryz.prog.godebug = none := by kernel_rfl
theorem laidOutP : laidOutB Tryz.prog = true := by kernel_rfl
theorem doorMet (os : Os) (args : Array Value) : laidMetH Tryz.prog laidL ((World.doorLaid Tryz.prog 402 os).forCall (fun _ _ => 0) ⟨#[], args, []⟩).memory :=
  laidMetH_of_parts3 (fuel := 8) (laidMet_of_run' 8 (by kernel_rfl) (by kernel_rfl)) (by kernel_rfl) (by kernel_rfl)
theorem since_of {w w' : World} (c : Ch No w w') : w.Since w.heap.size w' :=
  ⟨c.os, c.tape, c.output, c.size, fun k hk => by rw [c.old k _ (fun h => h) (Array.getElem?_eq_getElem hk), Array.getElem?_eq_getElem hk]⟩
set_option maxRecDepth 100000 in
theorem storeLately_lifted (os : Os) (started : os.Started) (H : Type) (enc : TypeId × Value → H) :
    ReturnsInHanded {} Tryz.checked os 3 .any (fun w args => (Rows.storeLatelySpec.pre enc Tryz.prog Tryz.f3 [] false w args ∧ laidMetH Tryz.prog laidL w) ∧ sizedMet enc Tryz.prog Tryz.f3 (OpenSpec.ofChange Rows.storeLatelySpec) false w args)
      (Rows.storeLatelySpec.post enc Tryz.prog Tryz.f3 false true false false) := by
  refine returnsInHanded_of_change_and (C := Tryz.checked) (X := fun w _ => laidMetH Tryz.prog laidL w) (fun _ _ _ hh h => h.of_heap hh) ownKnobs started (by kernel_rfl) Tryz.func3
    (ChangeSpec.witness_shaped (enc := enc) (C := Tryz.checked) (os := os) (X := fun w _ => laidMetH Tryz.prog laidL w) false (World.doorLaid Tryz.prog 402 os) #[.int .i64 0, .slice none 0 0] 8 rfl (World.shaped_of_RefB (by kernel_rfl) (by kernel_rfl)) (by kernel_rfl) (by kernel_rfl) (by kernel_rfl) (doorMet os _)) ?_
  intro W base args ds gs before hval0 hW _ _ hL _
  have hval : ∀ (j : Nat) t v, Tryz.f3.params[j]? = some t → args[j]? = some v → Value.okWide Tryz.prog W .any base t v := hval0
  have hW' := hW
  obtain ⟨p, q, hA0, hV, rfl, hfz, hnd⟩ := hW
  have hA : DataW.TrodAll enc Tryz.prog W 0 (fun _ => true) true Tryz.f3.params.toList args.toList ds p := hA0
  rw [Tryz.params3] at hA hval
  obtain ⟨v0, v1, d0, d1, p0, p1, rfl, rfl, rfl, h0, h1⟩ := trodAll_two hA
  obtain ⟨rfl, rfl⟩ := trodVars_none hV
  have hv1 := hval 1 22 v1 rfl rfl
  obtain ⟨M, rfl, rfl, rfl, hwM⟩ := open_int Tryz.underlying3 (hval 0 3 v0 rfl rfl) h0
  obtain ⟨A, c, SC, rfl, sc, hlen⟩ := open_ops hv1 h1
  rw [MakeChecks.laidMetH_plain _ _ _ (by kernel_rfl)] at hL
  have hgn := gn_of hL
  obtain ⟨E, er⟩ := errT_of hL hgn
  have st := st_of hL
  have tab := tab_of hL hgn
  have hlt : ∀ x ∈ p1, x.block < W.heap.size := fun x hx => hW'.lt x (by simp [hx])
  refine (storeLately M SC (· < W.heap.size) A c W.heap.size E W sc (fun _ h => h) hlen er (Nat.le_refl _) st tab).mono ?_
  rintro e W' ⟨v, rfl, rfl, ch⟩
  have hs := since_of ch
  have e1 : Rows.storeLatelySpec.fn H ([.lit (.int .i64 M), d1] ++ []) = { results := [.lit (.bool true)], args := [.lit (.int .i64 M), d1] } := by simp [Rows.storeLatelySpec]
  refine ⟨_, rfl, _, _, _, [], ([] ++ p1), [], hW', ?_, ?_, ?_, hs.frame _, fun h => by cases h⟩
  · rw [e1]; exact trodAll_mk1 (shut_bool Tryz.underlying4 true)
  · rw [e1]; exact trodAll_mk2 (shut_int Tryz.underlying3 hwM) (WideElems.Trod_stays laidOutP (by kernel_rfl) (of_decide_eq_true (by kernel_rfl)) h1 (fun x hx => hs.sameAt (hlt x hx)) (fun x hx => by simpa using hlt x hx))
  · rw [e1]; rfl
theorem storeLately_row : Rows.StoreLatelySaid :=
  OpenClaim.holds_of_wide 3 Tryz.f3 rfl rfl rfl rfl rfl rfl rfl ⟨rfl, rfl, rfl, rfl, rfl⟩ rfl rfl rfl rfl rfl (by kernel_rfl) Tryz.func3 (by kernel_rfl)
    (of_decide_eq_true (by kernel_rfl)) (by unfold Func.isWrapper; first | (rw [if_pos (by decide +kernel)]; kernel_rfl) | (rw [if_neg (by decide +kernel)]; exact ⟨rfl, rfl⟩))
    (fun os started H enc _ => storeLately_lifted os started H enc)
theorem storeLately_holds : Rows.StoreLatelyCardSaid :=
  Claim7.holds_tied_plain_at .later [] [.data, .data, .data, .sentinel, .sentinel, .sentinel, .sentinel, .sentinel, .sentinel, .sentinel, .sentinel, .sentinel, .sentinel, .sentinel, .sentinel, .sentinel, .sentinel, .sentinel, .sentinel, .sentinel, .sentinel, .sentinel, .data] true (true, "897429ef92bb7b363ad0e8b2b811a30a4287a47d0d2e7dce30d7829bdb9cc35c") true
    storeLately_row (fun _ h => by cases h) (by kernel_rfl) (fun _ h => by cases h) storeLately_row_tie rfl ⟨rfl, rfl⟩ (by kernel_rfl) rfl
    (fun f fn hf hfn => by
      obtain rfl : f = 3 := Option.some.inj ((show Tryz.prog.funcNamed "timbre/timbrelaw29.StoreLately" = some 3 by kernel_rfl).symm.trans hf) |>.symm
      obtain rfl : fn = Tryz.f3 := (Option.some.inj (Tryz.func3.symm.trans hfn)).symm
      exact ⟨by kernel_rfl, fun j t ht => by
        rw [Tryz.params3] at ht
        have hm : t ∈ [3, 22] := by simpa using Array.mem_of_getElem? ht
        have hall : ([3, 22].all fun u => !Tryz.prog.wantsStandIn u) = true := by kernel_rfl
        exact (show Tryz.prog.wantsStandIn t = false by simpa using List.all_eq_true.1 hall t hm)⟩)
    (by kernel_rfl)
#print axioms storeLately_holds
end Go.Proofs.YtgnkdfkkplbjiaaGreatDoor
