/-
  DERIVED. GIVEN WITH THE SEED: THE CARDS: each row of YtnbngknffkcefaaGreatDoorRows.lean that lists a variable, with what it lists TIED to the program's text (the seventh form; the later family's looks); each row that meets fmt, with fmt's text TOLD by the authors' own Lean function (tested against real Go, not proved from fmt's source: count such statements apart). THE CARD IS WHAT COUNTS. Prove the row's statement (the work); the ties are given (YtnbngknffkcefaaGreatDoorTie.lean); close each card by the builder's one call (the guide's Derived/Test/ToyasCard.lean, 'card_holds'). Laid BY PROGRAM, IN A SANDBOX (cutbox-door.mjs). By AI agents, Wed Nov 11 2026. No macro, syntax, notation, axiom, sorry.
-/
import Derived.Test.YtnbngknffkcefaaGreatDoorRows
import GoSem.ClaimSeven
namespace Go.Proofs.YtnbngknffkcefaaGreatDoor
namespace Rows

/-- THE TIED CARD OF 'matriculalaw25.ServerRefuses'. -/
def serverRefusesCard : Claim7 := { stood := { row := serverRefusesRow, standIns := [], harness := (true, "d32ac0cd69b6b9b0ff14676ec661f3abc3250a0a09d16eae945b65fd6c73b034"), looks := false }, kinds := [], alts := [], laidByText := true, laidKinds := [.data, .data, .data, .data, .data, .data, .widerDeep, .widerDeep, .pinned], laidTests := true, laidLooks := .later }
def ServerRefusesCardSaid : Prop := Claim7.holds Tryz.pinned (.plain (OpenSpec.ofChange serverRefusesSpec)) serverRefusesCard

/-- THE SECOND FORM's CARD OF 'matriculalaw25.ServerRefuses'. -/
def serverRefusesUptoCard : Claim7 := { stood := { row := serverRefusesUptoRow, standIns := [], harness := (true, "d32ac0cd69b6b9b0ff14676ec661f3abc3250a0a09d16eae945b65fd6c73b034"), looks := false }, kinds := [], alts := [], laidByText := true, laidKinds := [.data, .data, .data, .data, .data, .data, .widerDeep, .widerDeep, .pinned], laidTests := true, laidLooks := .later }
def ServerRefusesUptoCardSaid : Prop := Claim7.holds Tryz.pinned (.plain (OpenSpec.upto serverRefusesSpec)) serverRefusesUptoCard
end Rows
end Go.Proofs.YtnbngknffkcefaaGreatDoor
