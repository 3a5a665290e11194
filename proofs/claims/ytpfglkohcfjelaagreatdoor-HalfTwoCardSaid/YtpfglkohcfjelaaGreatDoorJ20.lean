/- Lemmas of this claim, joined by program. The law HalfTwo: for all bits the call returns true and what came in reads as it did. The row. Conditions: those of the given statement alone. Conditions: each lemma names its own. -/
import Derived.Test.YtpfglkohcfjelaaGreatDoorJ18
import Derived.Test.YtpfglkohcfjelaaGreatDoorJ19
import Derived.SizedLaws
import Derived.Test.YtpfglkohcfjelaaGreatDoorRows
import Derived.Test.YtpfglkohcfjelaaGreatDoorTie
import Derived.Test.YtpfglkohcfjelaaGreatDoorCards
import Derived.ProofKit
import Derived.LaidMore
import Derived.OpenShut
import Derived.Stop.Joined
import Derived.WideKeyArgs
import Derived.SevenTiedAt
set_option linter.all false
namespace Go.Proofs.YtpfglkohcfjelaaGreatDoor
open Go.ChangeShapes Go.WideShapes Go.ChangeAt Go.RowKit Go.Tm
theorem halfTwo_row : Rows.HalfTwoSaid :=
 OpenClaim.holds_of_wide 10 Tryz.f10 rfl rfl rfl rfl rfl rfl rfl ⟨rfl, rfl, rfl, rfl, rfl⟩ rfl rfl rfl rfl rfl halfTwoName Tryz.func10 halfTwoJoined
  (of_decide_eq_true (by kernel_rfl)) (by unfold Func.isWrapper; first | (rw [if_pos (by decide +kernel)]; kernel_rfl) | (rw [if_neg (by decide +kernel)]; exact ⟨rfl, rfl⟩))
  (fun os started H enc _ => halfTwo_lifted os started H enc)
end Go.Proofs.YtpfglkohcfjelaaGreatDoor
