/- The law HalfTwo: for all bits the call returns true and what came in reads as it did. The tied card. Conditions: those of the given statement alone. -/
import Derived.Test.YtpfglkohcfjelaaGreatDoorJ20
import Derived.SizedLaws
import Derived.Test.YtpfglkohcfjelaaGreatDoorRows
import Derived.Test.YtpfglkohcfjelaaGreatDoorTie
import Derived.Test.YtpfglkohcfjelaaGreatDoorCards
import Derived.ProofKit
import Derived.LaidMore
import Derived.OpenShut
import Derived.Stop.Joined
import Derived.WideKeyArgs
import Derived.SevenTiedAt
set_option linter.all false
namespace Go.Proofs.YtpfglkohcfjelaaGreatDoor
open Go.ChangeShapes Go.WideShapes Go.ChangeAt Go.RowKit Go.Tm
theorem halfTwo_holds : Rows.HalfTwoCardSaid :=
  Claim7.holds_tied_plain_at .later [] [.data, .data, .data, .sentinel, .sentinel, .sentinel, .sentinel, .sentinel, .sentinel, .sentinel, .sentinel, .sentinel, .sentinel, .sentinel, .sentinel, .sentinel, .sentinel, .sentinel, .sentinel, .sentinel, .sentinel, .sentinel, .data] true (true, "bf3c7ca4c37ddabfc81bafa10308ed739e3e682f5da77fb7a824241c0c2c5179") true
    halfTwo_row (fun _ h => by cases h) halfTwoWf (fun _ h => by cases h) halfTwo_row_tie rfl ⟨rfl, rfl⟩ (by kernel_rfl) rfl
    (fun f fn hf hfn => by
      obtain rfl : f = 10 := Option.some.inj (halfTwoName.symm.trans hf) |>.symm
      obtain rfl : fn = Tryz.f10 := (Option.some.inj (Tryz.func10.symm.trans hfn)).symm
      exact ⟨halfTwoLooks, fun j t ht => by
        rw [Tryz.params10] at ht
        have hm : t ∈ [22, 22] := by simpa using Array.mem_of_getElem? ht
        exact (show Tryz.prog.wantsStandIn t = false by simpa using List.all_eq_true.1 halfTwoStand t hm)⟩)
    halfTwoGoes
#print axioms halfTwo_holds
end Go.Proofs.YtpfglkohcfjelaaGreatDoor
