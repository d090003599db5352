/-
  DERIVED. GIVEN WITH THE SEED: THE CARDS: each row of YtodpmplklniohaaGreatDoorRows.lean that lists a variable, with what it lists TIED to the program's text (the seventh form; the later family's looks); each row that meets fmt, with fmt's text TOLD by the authors' own Lean function (tested against real Go, not proved from fmt's source: count such statements apart). THE CARD IS WHAT COUNTS. Prove the row's statement (the work); the ties are given (YtodpmplklniohaaGreatDoorTie.lean); close each card by the builder's one call (the guide's Derived/Test/ToyasCard.lean, 'card_holds'). Laid BY PROGRAM, IN A SANDBOX (cutbox-door.mjs). By AI agents, Wed Nov 11 2026. No macro, syntax, notation, axiom, sorry.
-/
import Derived.Test.YtodpmplklniohaaGreatDoorRows
import GoSem.ClaimSeven
namespace Go.Proofs.YtodpmplklniohaaGreatDoor
namespace Rows

/-- THE TIED CARD OF 'matriculatop.TopBrowser'. -/
def topBrowserCard : Claim7 := { stood := { row := topBrowserRow, standIns := [], harness := (true, "6e8d4fb33c7bb4d9ab9022d5c1db46e2581061565a00fb2b00d1c135b6864cd6"), looks := true }, kinds := [], alts := [], laidByText := true, laidKinds := [.data, .data, .data, .data, .data, .sentinel, .sentinel, .data, .widerDeep, .widerDeep, .pinned], laidTests := true, laidLooks := .later }
def TopBrowserCardSaid : Prop := Claim7.holds Tryz.pinned (.plain (OpenSpec.ofChange topBrowserSpec)) topBrowserCard

/-- THE SECOND FORM's CARD OF 'matriculatop.TopBrowser'. -/
def topBrowserUptoCard : Claim7 := { stood := { row := topBrowserUptoRow, standIns := [], harness := (true, "6e8d4fb33c7bb4d9ab9022d5c1db46e2581061565a00fb2b00d1c135b6864cd6"), looks := true }, kinds := [], alts := [], laidByText := true, laidKinds := [.data, .data, .data, .data, .data, .sentinel, .sentinel, .data, .widerDeep, .widerDeep, .pinned], laidTests := true, laidLooks := .later }
def TopBrowserUptoCardSaid : Prop := Claim7.holds Tryz.pinned (.plain (OpenSpec.upto topBrowserSpec)) topBrowserUptoCard
end Rows
end Go.Proofs.YtodpmplklniohaaGreatDoor
