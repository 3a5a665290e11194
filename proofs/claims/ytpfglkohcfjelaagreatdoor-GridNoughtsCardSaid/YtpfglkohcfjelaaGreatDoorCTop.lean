/- The law GridNoughts: for all sides and signs the call returns true and what came in reads as it did. The tied card. Conditions: those of the given statement alone. -/
import Derived.Test.YtpfglkohcfjelaaGreatDoorC24
import Derived.SizedLaws
import Derived.Test.YtpfglkohcfjelaaGreatDoorRows
import Derived.Test.YtpfglkohcfjelaaGreatDoorTie
import Derived.Test.YtpfglkohcfjelaaGreatDoorCards
import Derived.ProofKit
import Derived.LaidMore
import Derived.OpenShut
import Derived.Stop.Joined
import Derived.WideKeyArgs
import Derived.SevenTiedAt
set_option linter.all false
namespace Go.Proofs.YtpfglkohcfjelaaGreatDoor
open Go.ChangeShapes Go.WideShapes Go.ChangeAt Go.RowKit Go.Tm
theorem gridNoughts_holds : Rows.GridNoughtsCardSaid :=
  Claim7.holds_tied_plain_at .later [] [.data, .data, .data, .sentinel, .sentinel, .sentinel, .sentinel, .sentinel, .sentinel, .sentinel, .data] true (true, "bf3c7ca4c37ddabfc81bafa10308ed739e3e682f5da77fb7a824241c0c2c5179") true
    gridNoughts_row (fun _ h => by cases h) gridNoughtsWf (fun _ h => by cases h) gridNoughts_row_tie rfl ⟨rfl, rfl⟩ (by kernel_rfl) rfl
    (fun f fn hf hfn => by
      obtain rfl : f = 5 := Option.some.inj (gridNoughtsName.symm.trans hf) |>.symm
      obtain rfl : fn = Tryz.f5 := (Option.some.inj (Tryz.func5.symm.trans hfn)).symm
      exact ⟨gridNoughtsLooks, fun j t ht => by
        rw [Tryz.params5] at ht
        have hm : t ∈ [3, 3, 43] := by simpa using Array.mem_of_getElem? ht
        exact (show Tryz.prog.wantsStandIn t = false by simpa using List.all_eq_true.1 gridNoughtsStand t hm)⟩)
    gridNoughtsGoes
#print axioms gridNoughts_holds
end Go.Proofs.YtpfglkohcfjelaaGreatDoor
