/-
  DERIVED. GIVEN WITH THE SEED: THE CARDS: each row of YtpfglkohcfjelaaGreatDoorRows.lean that lists a variable, with what it lists TIED to the program's text (the seventh form; the later family's looks); each row that meets fmt, with fmt's text TOLD by the authors' own Lean function (tested against real Go, not proved from fmt's source: count such statements apart). THE CARD IS WHAT COUNTS. Prove the row's statement (the work); the ties are given (YtpfglkohcfjelaaGreatDoorTie.lean); close each card by the builder's one call (the guide's Derived/Test/ToyasCard.lean, 'card_holds'). Laid BY PROGRAM, IN A SANDBOX (cutbox-door.mjs). By AI agents, Wed Nov 11 2026. No macro, syntax, notation, axiom, sorry.
-/
import Derived.Test.YtpfglkohcfjelaaGreatDoorRows
import GoSem.ClaimSeven
namespace Go.Proofs.YtpfglkohcfjelaaGreatDoor
namespace Rows

/-- THE TIED CARD OF 'timbrelaw23.CosineByPlan'. -/
def cosineByPlanCard : Claim7 := { stood := { row := cosineByPlanRow, standIns := [], harness := (true, "bf3c7ca4c37ddabfc81bafa10308ed739e3e682f5da77fb7a824241c0c2c5179"), looks := true }, kinds := [], alts := [], laidByText := true, laidKinds := [.data, .data, .data, .sentinel, .sentinel, .sentinel, .sentinel, .sentinel, .sentinel, .sentinel, .data], laidTests := true, laidLooks := .later }
def CosineByPlanCardSaid : Prop := Claim7.holds Tryz.pinned (.plain (OpenSpec.ofChange cosineByPlanSpec)) cosineByPlanCard

/-- THE TIED CARD OF 'timbrelaw23.CosineTurned'. -/
def cosineTurnedCard : Claim7 := { stood := { row := cosineTurnedRow, standIns := [], harness := (true, "bf3c7ca4c37ddabfc81bafa10308ed739e3e682f5da77fb7a824241c0c2c5179"), looks := true }, kinds := [], alts := [], laidByText := true, laidKinds := [.data, .data, .data, .sentinel, .sentinel, .sentinel, .sentinel, .sentinel, .sentinel, .sentinel, .data], laidTests := true, laidLooks := .later }
def CosineTurnedCardSaid : Prop := Claim7.holds Tryz.pinned (.plain (OpenSpec.ofChange cosineTurnedSpec)) cosineTurnedCard

/-- THE TIED CARD OF 'timbrelaw24.GridNoughts'. -/
def gridNoughtsCard : Claim7 := { stood := { row := gridNoughtsRow, standIns := [], harness := (true, "bf3c7ca4c37ddabfc81bafa10308ed739e3e682f5da77fb7a824241c0c2c5179"), looks := true }, kinds := [], alts := [], laidByText := true, laidKinds := [.data, .data, .data, .sentinel, .sentinel, .sentinel, .sentinel, .sentinel, .sentinel, .sentinel, .data], laidTests := true, laidLooks := .later }
def GridNoughtsCardSaid : Prop := Claim7.holds Tryz.pinned (.plain (OpenSpec.ofChange gridNoughtsSpec)) gridNoughtsCard

/-- THE TIED CARD OF 'timbrelaw20.PlanNoughts'. -/
def planNoughtsCard : Claim7 := { stood := { row := planNoughtsRow, standIns := [], harness := (true, "bf3c7ca4c37ddabfc81bafa10308ed739e3e682f5da77fb7a824241c0c2c5179"), looks := true }, kinds := [], alts := [], laidByText := true, laidKinds := [.data, .data, .data, .sentinel, .sentinel, .sentinel, .sentinel, .sentinel, .sentinel, .sentinel, .sentinel, .sentinel, .sentinel, .sentinel, .sentinel, .sentinel, .sentinel, .sentinel, .sentinel, .sentinel, .sentinel, .sentinel, .data], laidTests := true, laidLooks := .later }
def PlanNoughtsCardSaid : Prop := Claim7.holds Tryz.pinned (.plain (OpenSpec.ofChange planNoughtsSpec)) planNoughtsCard

/-- THE TIED CARD OF 'timbrelaw23.CosineForward'. -/
def cosineForwardCard : Claim7 := { stood := { row := cosineForwardRow, standIns := [], harness := (true, "bf3c7ca4c37ddabfc81bafa10308ed739e3e682f5da77fb7a824241c0c2c5179"), looks := true }, kinds := [], alts := [], laidByText := true, laidKinds := [.data, .data, .data, .sentinel, .sentinel, .sentinel, .sentinel, .sentinel, .sentinel, .sentinel, .sentinel, .sentinel, .sentinel, .sentinel, .sentinel, .sentinel, .sentinel, .sentinel, .sentinel, .sentinel, .sentinel, .sentinel, .data], laidTests := true, laidLooks := .later }
def CosineForwardCardSaid : Prop := Claim7.holds Tryz.pinned (.plain (OpenSpec.ofChange cosineForwardSpec)) cosineForwardCard

/-- THE TIED CARD OF 'timbrelaw23.CosineInverse'. -/
def cosineInverseCard : Claim7 := { stood := { row := cosineInverseRow, standIns := [], harness := (true, "bf3c7ca4c37ddabfc81bafa10308ed739e3e682f5da77fb7a824241c0c2c5179"), looks := true }, kinds := [], alts := [], laidByText := true, laidKinds := [.data, .data, .data, .sentinel, .sentinel, .sentinel, .sentinel, .sentinel, .sentinel, .sentinel, .sentinel, .sentinel, .sentinel, .sentinel, .sentinel, .sentinel, .sentinel, .sentinel, .sentinel, .sentinel, .sentinel, .sentinel, .data], laidTests := true, laidLooks := .later }
def CosineInverseCardSaid : Prop := Claim7.holds Tryz.pinned (.plain (OpenSpec.ofChange cosineInverseSpec)) cosineInverseCard

/-- THE TIED CARD OF 'timbrelaw22.HalfForward'. -/
def halfForwardCard : Claim7 := { stood := { row := halfForwardRow, standIns := [], harness := (true, "bf3c7ca4c37ddabfc81bafa10308ed739e3e682f5da77fb7a824241c0c2c5179"), looks := true }, kinds := [], alts := [], laidByText := true, laidKinds := [.data, .data, .data, .sentinel, .sentinel, .sentinel, .sentinel, .sentinel, .sentinel, .sentinel, .sentinel, .sentinel, .sentinel, .sentinel, .sentinel, .sentinel, .sentinel, .sentinel, .sentinel, .sentinel, .sentinel, .sentinel, .data], laidTests := true, laidLooks := .later }
def HalfForwardCardSaid : Prop := Claim7.holds Tryz.pinned (.plain (OpenSpec.ofChange halfForwardSpec)) halfForwardCard

/-- THE TIED CARD OF 'timbrelaw22.HalfTwo'. -/
def halfTwoCard : Claim7 := { stood := { row := halfTwoRow, standIns := [], harness := (true, "bf3c7ca4c37ddabfc81bafa10308ed739e3e682f5da77fb7a824241c0c2c5179"), looks := true }, kinds := [], alts := [], laidByText := true, laidKinds := [.data, .data, .data, .sentinel, .sentinel, .sentinel, .sentinel, .sentinel, .sentinel, .sentinel, .sentinel, .sentinel, .sentinel, .sentinel, .sentinel, .sentinel, .sentinel, .sentinel, .sentinel, .sentinel, .sentinel, .sentinel, .data], laidTests := true, laidLooks := .later }
def HalfTwoCardSaid : Prop := Claim7.holds Tryz.pinned (.plain (OpenSpec.ofChange halfTwoSpec)) halfTwoCard

/-- THE SECOND FORM's CARD OF 'timbrelaw23.CosineByPlan'. -/
def cosineByPlanUptoCard : Claim7 := { stood := { row := cosineByPlanUptoRow, standIns := [], harness := (true, "bf3c7ca4c37ddabfc81bafa10308ed739e3e682f5da77fb7a824241c0c2c5179"), looks := true }, kinds := [], alts := [], laidByText := true, laidKinds := [.data, .data, .data, .sentinel, .sentinel, .sentinel, .sentinel, .sentinel, .sentinel, .sentinel, .data], laidTests := true, laidLooks := .later }
def CosineByPlanUptoCardSaid : Prop := Claim7.holds Tryz.pinned (.plain (OpenSpec.upto cosineByPlanSpec)) cosineByPlanUptoCard

/-- THE SECOND FORM's CARD OF 'timbrelaw23.CosineTurned'. -/
def cosineTurnedUptoCard : Claim7 := { stood := { row := cosineTurnedUptoRow, standIns := [], harness := (true, "bf3c7ca4c37ddabfc81bafa10308ed739e3e682f5da77fb7a824241c0c2c5179"), looks := true }, kinds := [], alts := [], laidByText := true, laidKinds := [.data, .data, .data, .sentinel, .sentinel, .sentinel, .sentinel, .sentinel, .sentinel, .sentinel, .data], laidTests := true, laidLooks := .later }
def CosineTurnedUptoCardSaid : Prop := Claim7.holds Tryz.pinned (.plain (OpenSpec.upto cosineTurnedSpec)) cosineTurnedUptoCard

/-- THE SECOND FORM's CARD OF 'timbrelaw24.GridNoughts'. -/
def gridNoughtsUptoCard : Claim7 := { stood := { row := gridNoughtsUptoRow, standIns := [], harness := (true, "bf3c7ca4c37ddabfc81bafa10308ed739e3e682f5da77fb7a824241c0c2c5179"), looks := true }, kinds := [], alts := [], laidByText := true, laidKinds := [.data, .data, .data, .sentinel, .sentinel, .sentinel, .sentinel, .sentinel, .sentinel, .sentinel, .data], laidTests := true, laidLooks := .later }
def GridNoughtsUptoCardSaid : Prop := Claim7.holds Tryz.pinned (.plain (OpenSpec.upto gridNoughtsSpec)) gridNoughtsUptoCard

/-- THE SECOND FORM's CARD OF 'timbrelaw20.PlanNoughts'. -/
def planNoughtsUptoCard : Claim7 := { stood := { row := planNoughtsUptoRow, standIns := [], harness := (true, "bf3c7ca4c37ddabfc81bafa10308ed739e3e682f5da77fb7a824241c0c2c5179"), looks := true }, kinds := [], alts := [], laidByText := true, laidKinds := [.data, .data, .data, .sentinel, .sentinel, .sentinel, .sentinel, .sentinel, .sentinel, .sentinel, .sentinel, .sentinel, .sentinel, .sentinel, .sentinel, .sentinel, .sentinel, .sentinel, .sentinel, .sentinel, .sentinel, .sentinel, .data], laidTests := true, laidLooks := .later }
def PlanNoughtsUptoCardSaid : Prop := Claim7.holds Tryz.pinned (.plain (OpenSpec.upto planNoughtsSpec)) planNoughtsUptoCard

/-- THE SECOND FORM's CARD OF 'timbrelaw23.CosineForward'. -/
def cosineForwardUptoCard : Claim7 := { stood := { row := cosineForwardUptoRow, standIns := [], harness := (true, "bf3c7ca4c37ddabfc81bafa10308ed739e3e682f5da77fb7a824241c0c2c5179"), looks := true }, kinds := [], alts := [], laidByText := true, laidKinds := [.data, .data, .data, .sentinel, .sentinel, .sentinel, .sentinel, .sentinel, .sentinel, .sentinel, .sentinel, .sentinel, .sentinel, .sentinel, .sentinel, .sentinel, .sentinel, .sentinel, .sentinel, .sentinel, .sentinel, .sentinel, .data], laidTests := true, laidLooks := .later }
def CosineForwardUptoCardSaid : Prop := Claim7.holds Tryz.pinned (.plain (OpenSpec.upto cosineForwardSpec)) cosineForwardUptoCard

/-- THE SECOND FORM's CARD OF 'timbrelaw23.CosineInverse'. -/
def cosineInverseUptoCard : Claim7 := { stood := { row := cosineInverseUptoRow, standIns := [], harness := (true, "bf3c7ca4c37ddabfc81bafa10308ed739e3e682f5da77fb7a824241c0c2c5179"), looks := true }, kinds := [], alts := [], laidByText := true, laidKinds := [.data, .data, .data, .sentinel, .sentinel, .sentinel, .sentinel, .sentinel, .sentinel, .sentinel, .sentinel, .sentinel, .sentinel, .sentinel, .sentinel, .sentinel, .sentinel, .sentinel, .sentinel, .sentinel, .sentinel, .sentinel, .data], laidTests := true, laidLooks := .later }
def CosineInverseUptoCardSaid : Prop := Claim7.holds Tryz.pinned (.plain (OpenSpec.upto cosineInverseSpec)) cosineInverseUptoCard

/-- THE SECOND FORM's CARD OF 'timbrelaw22.HalfForward'. -/
def halfForwardUptoCard : Claim7 := { stood := { row := halfForwardUptoRow, standIns := [], harness := (true, "bf3c7ca4c37ddabfc81bafa10308ed739e3e682f5da77fb7a824241c0c2c5179"), looks := true }, kinds := [], alts := [], laidByText := true, laidKinds := [.data, .data, .data, .sentinel, .sentinel, .sentinel, .sentinel, .sentinel, .sentinel, .sentinel, .sentinel, .sentinel, .sentinel, .sentinel, .sentinel, .sentinel, .sentinel, .sentinel, .sentinel, .sentinel, .sentinel, .sentinel, .data], laidTests := true, laidLooks := .later }
def HalfForwardUptoCardSaid : Prop := Claim7.holds Tryz.pinned (.plain (OpenSpec.upto halfForwardSpec)) halfForwardUptoCard

/-- THE SECOND FORM's CARD OF 'timbrelaw22.HalfTwo'. -/
def halfTwoUptoCard : Claim7 := { stood := { row := halfTwoUptoRow, standIns := [], harness := (true, "bf3c7ca4c37ddabfc81bafa10308ed739e3e682f5da77fb7a824241c0c2c5179"), looks := true }, kinds := [], alts := [], laidByText := true, laidKinds := [.data, .data, .data, .sentinel, .sentinel, .sentinel, .sentinel, .sentinel, .sentinel, .sentinel, .sentinel, .sentinel, .sentinel, .sentinel, .sentinel, .sentinel, .sentinel, .sentinel, .sentinel, .sentinel, .sentinel, .sentinel, .data], laidTests := true, laidLooks := .later }
def HalfTwoUptoCardSaid : Prop := Claim7.holds Tryz.pinned (.plain (OpenSpec.upto halfTwoSpec)) halfTwoUptoCard
end Rows
end Go.Proofs.YtpfglkohcfjelaaGreatDoor
