/-
  DERIVED. GIVEN WITH THE SEED: THE CARDS: each row of YtchgkcbloeoopaaGreatDoorRows.lean that lists a variable, with what it lists TIED to the program's text (the seventh form; the later family's looks); each row that meets fmt, with fmt's text TOLD by the authors' own Lean function (tested against real Go, not proved from fmt's source: count such statements apart). THE CARD IS WHAT COUNTS. Prove the row's statement (the work); the ties are given (YtchgkcbloeoopaaGreatDoorTie.lean); close each card by the builder's one call (the guide's Derived/Test/ToyasCard.lean, 'card_holds'). Laid BY PROGRAM, IN A SANDBOX (cutbox-door.mjs). By AI agents, Wed Nov 11 2026. No macro, syntax, notation, axiom, sorry.
-/
import Derived.Test.YtchgkcbloeoopaaGreatDoorRows
import GoSem.ClaimSeven
namespace Go.Proofs.YtchgkcbloeoopaaGreatDoor
namespace Rows

/-- THE TIED CARD OF 'matriculalaw18.ServicesMakes'. -/
def servicesMakesCard : Claim7 := { stood := { row := servicesMakesRow, standIns := [], harness := (true, "736e9f1297845d9089ea09a7b673bc65e0b735c885e62f0b21580dd1b7bfe755"), looks := false }, kinds := [], alts := [], laidByText := true, laidKinds := [.data, .data, .data, .data, .data, .pinned], laidTests := true, laidLooks := .later }
def ServicesMakesCardSaid : Prop := Claim7.holds Tryz.pinned (.plain (OpenSpec.ofChange servicesMakesSpec)) servicesMakesCard

/-- THE TIED CARD OF 'matriculalaw18.ServicesFirst'. -/
def servicesFirstCard : Claim7 := { stood := { row := servicesFirstRow, standIns := [], harness := (true, "736e9f1297845d9089ea09a7b673bc65e0b735c885e62f0b21580dd1b7bfe755"), looks := false }, kinds := [], alts := [], laidByText := true, laidKinds := [.data, .data, .data, .data, .data, .pinned], laidTests := true, laidLooks := .later }
def ServicesFirstCardSaid : Prop := Claim7.holds Tryz.pinned (.plain (OpenSpec.ofChange servicesFirstSpec)) servicesFirstCard

/-- THE TIED CARD OF 'matriculalaw18.ServicesFinds'. -/
def servicesFindsCard : Claim7 := { stood := { row := servicesFindsRow, standIns := [], harness := (true, "736e9f1297845d9089ea09a7b673bc65e0b735c885e62f0b21580dd1b7bfe755"), looks := false }, kinds := [], alts := [], laidByText := true, laidKinds := [.data, .data, .data, .data, .data, .pinned], laidTests := true, laidLooks := .later }
def ServicesFindsCardSaid : Prop := Claim7.holds Tryz.pinned (.plain (OpenSpec.ofChange servicesFindsSpec)) servicesFindsCard

/-- THE TIED CARD OF 'matriculalaw18.ServicesOneWay'. -/
def servicesOneWayCard : Claim7 := { stood := { row := servicesOneWayRow, standIns := [], harness := (true, "736e9f1297845d9089ea09a7b673bc65e0b735c885e62f0b21580dd1b7bfe755"), looks := false }, kinds := [], alts := [], laidByText := true, laidKinds := [.data, .data, .data, .data, .data, .pinned], laidTests := true, laidLooks := .later }
def ServicesOneWayCardSaid : Prop := Claim7.holds Tryz.pinned (.plain (OpenSpec.ofChange servicesOneWaySpec)) servicesOneWayCard

/-- THE TIED CARD OF 'matriculalaw18.ServicesSafe'. -/
def servicesSafeCard : Claim7 := { stood := { row := servicesSafeRow, standIns := [], harness := (true, "736e9f1297845d9089ea09a7b673bc65e0b735c885e62f0b21580dd1b7bfe755"), looks := false }, kinds := [], alts := [], laidByText := true, laidKinds := [.data, .data, .data, .data, .data, .pinned], laidTests := true, laidLooks := .later }
def ServicesSafeCardSaid : Prop := Claim7.holds Tryz.pinned (.plain (OpenSpec.ofChange servicesSafeSpec)) servicesSafeCard

/-- THE SECOND FORM's CARD OF 'matriculalaw18.ServicesMakes'. -/
def servicesMakesUptoCard : Claim7 := { stood := { row := servicesMakesUptoRow, standIns := [], harness := (true, "736e9f1297845d9089ea09a7b673bc65e0b735c885e62f0b21580dd1b7bfe755"), looks := false }, kinds := [], alts := [], laidByText := true, laidKinds := [.data, .data, .data, .data, .data, .pinned], laidTests := true, laidLooks := .later }
def ServicesMakesUptoCardSaid : Prop := Claim7.holds Tryz.pinned (.plain (OpenSpec.upto servicesMakesSpec)) servicesMakesUptoCard

/-- THE SECOND FORM's CARD OF 'matriculalaw18.ServicesFirst'. -/
def servicesFirstUptoCard : Claim7 := { stood := { row := servicesFirstUptoRow, standIns := [], harness := (true, "736e9f1297845d9089ea09a7b673bc65e0b735c885e62f0b21580dd1b7bfe755"), looks := false }, kinds := [], alts := [], laidByText := true, laidKinds := [.data, .data, .data, .data, .data, .pinned], laidTests := true, laidLooks := .later }
def ServicesFirstUptoCardSaid : Prop := Claim7.holds Tryz.pinned (.plain (OpenSpec.upto servicesFirstSpec)) servicesFirstUptoCard

/-- THE SECOND FORM's CARD OF 'matriculalaw18.ServicesFinds'. -/
def servicesFindsUptoCard : Claim7 := { stood := { row := servicesFindsUptoRow, standIns := [], harness := (true, "736e9f1297845d9089ea09a7b673bc65e0b735c885e62f0b21580dd1b7bfe755"), looks := false }, kinds := [], alts := [], laidByText := true, laidKinds := [.data, .data, .data, .data, .data, .pinned], laidTests := true, laidLooks := .later }
def ServicesFindsUptoCardSaid : Prop := Claim7.holds Tryz.pinned (.plain (OpenSpec.upto servicesFindsSpec)) servicesFindsUptoCard

/-- THE SECOND FORM's CARD OF 'matriculalaw18.ServicesOneWay'. -/
def servicesOneWayUptoCard : Claim7 := { stood := { row := servicesOneWayUptoRow, standIns := [], harness := (true, "736e9f1297845d9089ea09a7b673bc65e0b735c885e62f0b21580dd1b7bfe755"), looks := false }, kinds := [], alts := [], laidByText := true, laidKinds := [.data, .data, .data, .data, .data, .pinned], laidTests := true, laidLooks := .later }
def ServicesOneWayUptoCardSaid : Prop := Claim7.holds Tryz.pinned (.plain (OpenSpec.upto servicesOneWaySpec)) servicesOneWayUptoCard

/-- THE SECOND FORM's CARD OF 'matriculalaw18.ServicesSafe'. -/
def servicesSafeUptoCard : Claim7 := { stood := { row := servicesSafeUptoRow, standIns := [], harness := (true, "736e9f1297845d9089ea09a7b673bc65e0b735c885e62f0b21580dd1b7bfe755"), looks := false }, kinds := [], alts := [], laidByText := true, laidKinds := [.data, .data, .data, .data, .data, .pinned], laidTests := true, laidLooks := .later }
def ServicesSafeUptoCardSaid : Prop := Claim7.holds Tryz.pinned (.plain (OpenSpec.upto servicesSafeSpec)) servicesSafeUptoCard
end Rows
end Go.Proofs.YtchgkcbloeoopaaGreatDoor
