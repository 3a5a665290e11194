/-
  DERIVED. GIVEN WITH THE SEED: THE CARDS: each row of YtbmhbmlgndhpgaaGreatDoorRows.lean that lists a variable, with what it lists TIED to the program's text (the seventh form; the later family's looks); each row that meets fmt, with fmt's text TOLD by the authors' own Lean function (tested against real Go, not proved from fmt's source: count such statements apart). THE CARD IS WHAT COUNTS. Prove the row's statement (the work); the ties are given (YtbmhbmlgndhpgaaGreatDoorTie.lean); close each card by the builder's one call (the guide's Derived/Test/ToyasCard.lean, 'card_holds'). Laid BY PROGRAM, IN A SANDBOX (cutbox-door.mjs). By AI agents, Wed Nov 11 2026. No macro, syntax, notation, axiom, sorry.
-/
import Derived.Test.YtbmhbmlgndhpgaaGreatDoorRows
import GoSem.ClaimSeven
namespace Go.Proofs.YtbmhbmlgndhpgaaGreatDoor
namespace Rows

/-- THE TIED CARD OF 'timbrelaw23.CosineSums'. -/
def cosineSumsCard : Claim7 := { stood := { row := cosineSumsRow, standIns := [], harness := (true, "26cd85bd49cdee1a1dbe0df4bbc438f5a4d2ed89f567312921ad62b095e9d008"), looks := true }, kinds := [], alts := [], laidByText := true, laidKinds := [.data, .data, .data, .sentinel, .sentinel, .sentinel, .sentinel, .sentinel, .sentinel, .sentinel, .sentinel, .sentinel, .sentinel, .sentinel, .sentinel, .sentinel, .sentinel, .sentinel, .sentinel, .sentinel, .sentinel, .sentinel, .data], laidTests := true, laidLooks := .later }
def CosineSumsCardSaid : Prop := Claim7.holds Tryz.pinned (.plain (OpenSpec.ofChange cosineSumsSpec)) cosineSumsCard

/-- THE SECOND FORM's CARD OF 'timbrelaw23.CosineSums'. -/
def cosineSumsUptoCard : Claim7 := { stood := { row := cosineSumsUptoRow, standIns := [], harness := (true, "26cd85bd49cdee1a1dbe0df4bbc438f5a4d2ed89f567312921ad62b095e9d008"), looks := true }, kinds := [], alts := [], laidByText := true, laidKinds := [.data, .data, .data, .sentinel, .sentinel, .sentinel, .sentinel, .sentinel, .sentinel, .sentinel, .sentinel, .sentinel, .sentinel, .sentinel, .sentinel, .sentinel, .sentinel, .sentinel, .sentinel, .sentinel, .sentinel, .sentinel, .data], laidTests := true, laidLooks := .later }
def CosineSumsUptoCardSaid : Prop := Claim7.holds Tryz.pinned (.plain (OpenSpec.upto cosineSumsSpec)) cosineSumsUptoCard
end Rows
end Go.Proofs.YtbmhbmlgndhpgaaGreatDoor
