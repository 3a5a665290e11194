/-
  DERIVED. GIVEN WITH THE SEED: THE CARDS: each row of YtdgiiehbbmfgoaaGreatDoorRows.lean that lists a variable, with what it lists TIED to the program's text (the seventh form; the later family's looks); each row that meets fmt, with fmt's text TOLD by the authors' own Lean function (tested against real Go, not proved from fmt's source: count such statements apart). THE CARD IS WHAT COUNTS. Prove the row's statement (the work); the ties are given (YtdgiiehbbmfgoaaGreatDoorTie.lean); close each card by the builder's one call (the guide's Derived/Test/ToyasCard.lean, 'card_holds'). Laid BY PROGRAM, IN A SANDBOX (cutbox-door.mjs). By AI agents, Wed Nov 11 2026. No macro, syntax, notation, axiom, sorry.
-/
import Derived.Test.YtdgiiehbbmfgoaaGreatDoorRows
import GoSem.ClaimSeven
namespace Go.Proofs.YtdgiiehbbmfgoaaGreatDoor
namespace Rows

/-- THE TIED CARD OF 'timbrelaw23.CosineOne'. -/
def cosineOneCard : Claim7 := { stood := { row := cosineOneRow, standIns := [], harness := (true, "b79cdafb1a9280678e4abc6a464768ee4ca96b4a105ef1e3468681aa4a4a74cc"), looks := true }, kinds := [], alts := [], laidByText := true, laidKinds := [.data, .data, .data, .sentinel, .sentinel, .sentinel, .sentinel, .sentinel, .sentinel, .sentinel, .data], laidTests := true, laidLooks := .later }
def CosineOneCardSaid : Prop := Claim7.holds Tryz.pinned (.plain (OpenSpec.ofChange cosineOneSpec)) cosineOneCard

/-- THE TIED CARD OF 'timbrelaw22.HalfWhole'. -/
def halfWholeCard : Claim7 := { stood := { row := halfWholeRow, standIns := [], harness := (true, "b79cdafb1a9280678e4abc6a464768ee4ca96b4a105ef1e3468681aa4a4a74cc"), looks := true }, kinds := [], alts := [], laidByText := true, laidKinds := [.data, .data, .data, .sentinel, .sentinel, .sentinel, .sentinel, .sentinel, .sentinel, .sentinel, .data], laidTests := true, laidLooks := .later }
def HalfWholeCardSaid : Prop := Claim7.holds Tryz.pinned (.plain (OpenSpec.ofChange halfWholeSpec)) halfWholeCard

/-- THE TIED CARD OF 'timbrelaw24.GridExact'. -/
def gridExactCard : Claim7 := { stood := { row := gridExactRow, standIns := [], harness := (true, "b79cdafb1a9280678e4abc6a464768ee4ca96b4a105ef1e3468681aa4a4a74cc"), looks := true }, kinds := [], alts := [], laidByText := true, laidKinds := [.data, .data, .data, .sentinel, .sentinel, .sentinel, .sentinel, .sentinel, .sentinel, .sentinel, .data], laidTests := true, laidLooks := .later }
def GridExactCardSaid : Prop := Claim7.holds Tryz.pinned (.plain (OpenSpec.ofChange gridExactSpec)) gridExactCard

/-- THE TIED CARD OF 'timbrelaw25.RingWhole'. -/
def ringWholeCard : Claim7 := { stood := { row := ringWholeRow, standIns := [], harness := (true, "b79cdafb1a9280678e4abc6a464768ee4ca96b4a105ef1e3468681aa4a4a74cc"), looks := true }, kinds := [], alts := [], laidByText := true, laidKinds := [.data, .data, .data, .sentinel, .sentinel, .sentinel, .sentinel, .sentinel, .sentinel, .sentinel, .data], laidTests := true, laidLooks := .later }
def RingWholeCardSaid : Prop := Claim7.holds Tryz.pinned (.plain (OpenSpec.ofChange ringWholeSpec)) ringWholeCard

/-- THE TIED CARD OF 'timbrelaw28.StreamExact'. -/
def streamExactCard : Claim7 := { stood := { row := streamExactRow, standIns := [], harness := (true, "b79cdafb1a9280678e4abc6a464768ee4ca96b4a105ef1e3468681aa4a4a74cc"), looks := true }, kinds := [], alts := [], laidByText := true, laidKinds := [.data, .data, .data, .sentinel, .sentinel, .sentinel, .sentinel, .sentinel, .sentinel, .sentinel, .data], laidTests := true, laidLooks := .later }
def StreamExactCardSaid : Prop := Claim7.holds Tryz.pinned (.plain (OpenSpec.ofChange streamExactSpec)) streamExactCard

/-- THE SECOND FORM's CARD OF 'timbrelaw23.CosineOne'. -/
def cosineOneUptoCard : Claim7 := { stood := { row := cosineOneUptoRow, standIns := [], harness := (true, "b79cdafb1a9280678e4abc6a464768ee4ca96b4a105ef1e3468681aa4a4a74cc"), looks := true }, kinds := [], alts := [], laidByText := true, laidKinds := [.data, .data, .data, .sentinel, .sentinel, .sentinel, .sentinel, .sentinel, .sentinel, .sentinel, .data], laidTests := true, laidLooks := .later }
def CosineOneUptoCardSaid : Prop := Claim7.holds Tryz.pinned (.plain (OpenSpec.upto cosineOneSpec)) cosineOneUptoCard

/-- THE SECOND FORM's CARD OF 'timbrelaw22.HalfWhole'. -/
def halfWholeUptoCard : Claim7 := { stood := { row := halfWholeUptoRow, standIns := [], harness := (true, "b79cdafb1a9280678e4abc6a464768ee4ca96b4a105ef1e3468681aa4a4a74cc"), looks := true }, kinds := [], alts := [], laidByText := true, laidKinds := [.data, .data, .data, .sentinel, .sentinel, .sentinel, .sentinel, .sentinel, .sentinel, .sentinel, .data], laidTests := true, laidLooks := .later }
def HalfWholeUptoCardSaid : Prop := Claim7.holds Tryz.pinned (.plain (OpenSpec.upto halfWholeSpec)) halfWholeUptoCard

/-- THE SECOND FORM's CARD OF 'timbrelaw24.GridExact'. -/
def gridExactUptoCard : Claim7 := { stood := { row := gridExactUptoRow, standIns := [], harness := (true, "b79cdafb1a9280678e4abc6a464768ee4ca96b4a105ef1e3468681aa4a4a74cc"), looks := true }, kinds := [], alts := [], laidByText := true, laidKinds := [.data, .data, .data, .sentinel, .sentinel, .sentinel, .sentinel, .sentinel, .sentinel, .sentinel, .data], laidTests := true, laidLooks := .later }
def GridExactUptoCardSaid : Prop := Claim7.holds Tryz.pinned (.plain (OpenSpec.upto gridExactSpec)) gridExactUptoCard

/-- THE SECOND FORM's CARD OF 'timbrelaw25.RingWhole'. -/
def ringWholeUptoCard : Claim7 := { stood := { row := ringWholeUptoRow, standIns := [], harness := (true, "b79cdafb1a9280678e4abc6a464768ee4ca96b4a105ef1e3468681aa4a4a74cc"), looks := true }, kinds := [], alts := [], laidByText := true, laidKinds := [.data, .data, .data, .sentinel, .sentinel, .sentinel, .sentinel, .sentinel, .sentinel, .sentinel, .data], laidTests := true, laidLooks := .later }
def RingWholeUptoCardSaid : Prop := Claim7.holds Tryz.pinned (.plain (OpenSpec.upto ringWholeSpec)) ringWholeUptoCard

/-- THE SECOND FORM's CARD OF 'timbrelaw28.StreamExact'. -/
def streamExactUptoCard : Claim7 := { stood := { row := streamExactUptoRow, standIns := [], harness := (true, "b79cdafb1a9280678e4abc6a464768ee4ca96b4a105ef1e3468681aa4a4a74cc"), looks := true }, kinds := [], alts := [], laidByText := true, laidKinds := [.data, .data, .data, .sentinel, .sentinel, .sentinel, .sentinel, .sentinel, .sentinel, .sentinel, .data], laidTests := true, laidLooks := .later }
def StreamExactUptoCardSaid : Prop := Claim7.holds Tryz.pinned (.plain (OpenSpec.upto streamExactSpec)) streamExactUptoCard
end Rows
end Go.Proofs.YtdgiiehbbmfgoaaGreatDoor
