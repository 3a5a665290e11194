/-
  DERIVED. GIVEN WITH THE SEED: THE CARDS: each row of YtkinecckopionaaGreatDoorRows.lean that lists a variable, with what it lists TIED to the program's text (the seventh form; the later family's looks); each row that meets fmt, with fmt's text TOLD by the authors' own Lean function (tested against real Go, not proved from fmt's source: count such statements apart). THE CARD IS WHAT COUNTS. Prove the row's statement (the work); the ties are given (YtkinecckopionaaGreatDoorTie.lean); close each card by the builder's one call (the guide's Derived/Test/ToyasCard.lean, 'card_holds'). Laid BY PROGRAM, IN A SANDBOX (cutbox-door.mjs). By AI agents, Wed Nov 11 2026. No macro, syntax, notation, axiom, sorry.
-/
import Derived.Test.YtkinecckopionaaGreatDoorRows
import GoSem.ClaimSeven
namespace Go.Proofs.YtkinecckopionaaGreatDoor
namespace Rows

/-- THE TIED CARD OF 'timbrelaw20.PlanLengths'. -/
def planLengthsCard : Claim7 := { stood := { row := planLengthsRow, standIns := [], harness := (true, "e5b3ea9e8a962fab20daef7c9ebd36422309814e775a3602b3be3ef6f15c0b19"), looks := true }, kinds := [], alts := [], laidByText := true, laidKinds := [.data, .data, .data, .sentinel, .sentinel, .sentinel, .sentinel, .sentinel, .sentinel, .sentinel, .data], laidTests := true, laidLooks := .later }
def PlanLengthsCardSaid : Prop := Claim7.holds Tryz.pinned (.plain (OpenSpec.ofChange planLengthsSpec)) planLengthsCard

/-- THE TIED CARD OF 'timbrelaw20.PlanExact'. -/
def planExactCard : Claim7 := { stood := { row := planExactRow, standIns := [], harness := (true, "e5b3ea9e8a962fab20daef7c9ebd36422309814e775a3602b3be3ef6f15c0b19"), looks := true }, kinds := [], alts := [], laidByText := true, laidKinds := [.data, .data, .data, .sentinel, .sentinel, .sentinel, .sentinel, .sentinel, .sentinel, .sentinel, .data], laidTests := true, laidLooks := .later }
def PlanExactCardSaid : Prop := Claim7.holds Tryz.pinned (.plain (OpenSpec.ofChange planExactSpec)) planExactCard

/-- THE SECOND FORM's CARD OF 'timbrelaw20.PlanLengths'. -/
def planLengthsUptoCard : Claim7 := { stood := { row := planLengthsUptoRow, standIns := [], harness := (true, "e5b3ea9e8a962fab20daef7c9ebd36422309814e775a3602b3be3ef6f15c0b19"), looks := true }, kinds := [], alts := [], laidByText := true, laidKinds := [.data, .data, .data, .sentinel, .sentinel, .sentinel, .sentinel, .sentinel, .sentinel, .sentinel, .data], laidTests := true, laidLooks := .later }
def PlanLengthsUptoCardSaid : Prop := Claim7.holds Tryz.pinned (.plain (OpenSpec.upto planLengthsSpec)) planLengthsUptoCard

/-- THE SECOND FORM's CARD OF 'timbrelaw20.PlanExact'. -/
def planExactUptoCard : Claim7 := { stood := { row := planExactUptoRow, standIns := [], harness := (true, "e5b3ea9e8a962fab20daef7c9ebd36422309814e775a3602b3be3ef6f15c0b19"), looks := true }, kinds := [], alts := [], laidByText := true, laidKinds := [.data, .data, .data, .sentinel, .sentinel, .sentinel, .sentinel, .sentinel, .sentinel, .sentinel, .data], laidTests := true, laidLooks := .later }
def PlanExactUptoCardSaid : Prop := Claim7.holds Tryz.pinned (.plain (OpenSpec.upto planExactSpec)) planExactUptoCard
end Rows
end Go.Proofs.YtkinecckopionaaGreatDoor
