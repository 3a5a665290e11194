/- Lemmas of this claim, joined by program. The law CosineByPlan: for all bits the call returns true and what came in reads as it did. The row. Conditions: those of the given statement alone. Conditions: each lemma names its own. -/
import Derived.Test.YtpfglkohcfjelaaGreatDoorA19
import Derived.Test.YtpfglkohcfjelaaGreatDoorA20
import Derived.SizedLaws
import Derived.Test.YtpfglkohcfjelaaGreatDoorRows
import Derived.Test.YtpfglkohcfjelaaGreatDoorTie
import Derived.Test.YtpfglkohcfjelaaGreatDoorCards
import Derived.ProofKit
import Derived.LaidMore
import Derived.OpenShut
import Derived.Stop.Joined
import Derived.WideKeyArgs
import Derived.SevenTiedAt
set_option linter.all false
namespace Go.Proofs.YtpfglkohcfjelaaGreatDoor
open Go.ChangeShapes Go.WideShapes Go.ChangeAt Go.RowKit Go.Tm
theorem cosineByPlan_row : Rows.CosineByPlanSaid :=
  OpenClaim.holds_of_wide 3 Tryz.f3 rfl rfl rfl rfl rfl rfl rfl ⟨rfl, rfl, rfl, rfl, rfl⟩ rfl rfl rfl rfl rfl cosineByPlanName Tryz.func3 cosineByPlanJoined
    (of_decide_eq_true (by kernel_rfl)) (by unfold Func.isWrapper; first | (rw [if_pos (by decide +kernel)]; kernel_rfl) | (rw [if_neg (by decide +kernel)]; exact ⟨rfl, rfl⟩))
    (fun os started H enc _ => cosineByPlan_lifted os started H enc)
end Go.Proofs.YtpfglkohcfjelaaGreatDoor
