/-
  DERIVED. GIVEN WITH THE SEED: THE CARDS: each row of YtgnkdfkkplbjiaaGreatDoorRows.lean that lists a variable, with what it lists TIED to the program's text (the seventh form; the later family's looks); each row that meets fmt, with fmt's text TOLD by the authors' own Lean function (tested against real Go, not proved from fmt's source: count such statements apart). THE CARD IS WHAT COUNTS. Prove the row's statement (the work); the ties are given (YtgnkdfkkplbjiaaGreatDoorTie.lean); close each card by the builder's one call (the guide's Derived/Test/ToyasCard.lean, 'card_holds'). Laid BY PROGRAM, IN A SANDBOX (cutbox-door.mjs). By AI agents, Wed Nov 11 2026. No macro, syntax, notation, axiom, sorry.
-/
import Derived.Test.YtgnkdfkkplbjiaaGreatDoorRows
import GoSem.ClaimSeven
namespace Go.Proofs.YtgnkdfkkplbjiaaGreatDoor
namespace Rows

/-- THE TIED CARD OF 'timbrelaw29.StoreLately'. -/
def storeLatelyCard : Claim7 := { stood := { row := storeLatelyRow, standIns := [], harness := (true, "897429ef92bb7b363ad0e8b2b811a30a4287a47d0d2e7dce30d7829bdb9cc35c"), looks := true }, kinds := [], alts := [], laidByText := true, laidKinds := [.data, .data, .data, .sentinel, .sentinel, .sentinel, .sentinel, .sentinel, .sentinel, .sentinel, .sentinel, .sentinel, .sentinel, .sentinel, .sentinel, .sentinel, .sentinel, .sentinel, .sentinel, .sentinel, .sentinel, .sentinel, .data], laidTests := true, laidLooks := .later }
def StoreLatelyCardSaid : Prop := Claim7.holds Tryz.pinned (.plain (OpenSpec.ofChange storeLatelySpec)) storeLatelyCard

/-- THE TIED CARD OF 'timbrelaw29.StoreIters'. -/
def storeItersCard : Claim7 := { stood := { row := storeItersRow, standIns := [], harness := (true, "897429ef92bb7b363ad0e8b2b811a30a4287a47d0d2e7dce30d7829bdb9cc35c"), looks := true }, kinds := [], alts := [], laidByText := true, laidKinds := [.data, .data, .data, .sentinel, .sentinel, .sentinel, .sentinel, .sentinel, .sentinel, .sentinel, .sentinel, .sentinel, .sentinel, .sentinel, .sentinel, .sentinel, .sentinel, .sentinel, .sentinel, .sentinel, .sentinel, .sentinel, .data], laidTests := true, laidLooks := .later }
def StoreItersCardSaid : Prop := Claim7.holds Tryz.pinned (.plain (OpenSpec.ofChange storeItersSpec)) storeItersCard

/-- THE SECOND FORM's CARD OF 'timbrelaw29.StoreLately'. -/
def storeLatelyUptoCard : Claim7 := { stood := { row := storeLatelyUptoRow, standIns := [], harness := (true, "897429ef92bb7b363ad0e8b2b811a30a4287a47d0d2e7dce30d7829bdb9cc35c"), looks := true }, kinds := [], alts := [], laidByText := true, laidKinds := [.data, .data, .data, .sentinel, .sentinel, .sentinel, .sentinel, .sentinel, .sentinel, .sentinel, .sentinel, .sentinel, .sentinel, .sentinel, .sentinel, .sentinel, .sentinel, .sentinel, .sentinel, .sentinel, .sentinel, .sentinel, .data], laidTests := true, laidLooks := .later }
def StoreLatelyUptoCardSaid : Prop := Claim7.holds Tryz.pinned (.plain (OpenSpec.upto storeLatelySpec)) storeLatelyUptoCard

/-- THE SECOND FORM's CARD OF 'timbrelaw29.StoreIters'. -/
def storeItersUptoCard : Claim7 := { stood := { row := storeItersUptoRow, standIns := [], harness := (true, "897429ef92bb7b363ad0e8b2b811a30a4287a47d0d2e7dce30d7829bdb9cc35c"), looks := true }, kinds := [], alts := [], laidByText := true, laidKinds := [.data, .data, .data, .sentinel, .sentinel, .sentinel, .sentinel, .sentinel, .sentinel, .sentinel, .sentinel, .sentinel, .sentinel, .sentinel, .sentinel, .sentinel, .sentinel, .sentinel, .sentinel, .sentinel, .sentinel, .sentinel, .data], laidTests := true, laidLooks := .later }
def StoreItersUptoCardSaid : Prop := Claim7.holds Tryz.pinned (.plain (OpenSpec.upto storeItersSpec)) storeItersUptoCard
end Rows
end Go.Proofs.YtgnkdfkkplbjiaaGreatDoor
