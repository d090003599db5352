/-
  DERIVED. GIVEN WITH THE SEED: THE CARDS: each row of YtbciobiiejpdgaaGreatDoorRows.lean that lists a variable, with what it lists TIED to the program's text (the seventh form; the later family's looks); each row that meets fmt, with fmt's text TOLD by the authors' own Lean function (tested against real Go, not proved from fmt's source: count such statements apart). THE CARD IS WHAT COUNTS. Prove the row's statement (the work); the ties are given (YtbciobiiejpdgaaGreatDoorTie.lean); close each card by the builder's one call (the guide's Derived/Test/ToyasCard.lean, 'card_holds'). Laid BY PROGRAM, IN A SANDBOX (cutbox-door.mjs). By AI agents, Wed Nov 11 2026. No macro, syntax, notation, axiom, sorry.
-/
import Derived.Test.YtbciobiiejpdgaaGreatDoorRows
import GoSem.ClaimSeven
namespace Go.Proofs.YtbciobiiejpdgaaGreatDoor
namespace Rows

/-- THE TIED CARD OF 'matriculalaw23.LogoutPlays'. -/
def logoutPlaysCard : Claim7 := { stood := { row := logoutPlaysRow, standIns := [], harness := (true, "26b9ea3839e40aff174482b81f08c8e6462f9b0982ca90b3a91fec393b2f2f29"), looks := true }, kinds := [], alts := [], laidByText := true, laidKinds := [.data, .data, .data, .data, .sentinel, .sentinel, .widerDeep, .widerDeep, .pinned], laidTests := true, laidLooks := .later }
def LogoutPlaysCardSaid : Prop := Claim7.holds Tryz.pinned (.plain (OpenSpec.ofChange logoutPlaysSpec)) logoutPlaysCard

/-- THE TIED CARD OF 'matriculalaw23.LogoutCodes'. -/
def logoutCodesCard : Claim7 := { stood := { row := logoutCodesRow, standIns := [], harness := (true, "26b9ea3839e40aff174482b81f08c8e6462f9b0982ca90b3a91fec393b2f2f29"), looks := true }, kinds := [], alts := [], laidByText := true, laidKinds := [.data, .data, .data, .data, .sentinel, .sentinel, .widerDeep, .widerDeep, .pinned], laidTests := true, laidLooks := .later }
def LogoutCodesCardSaid : Prop := Claim7.holds Tryz.pinned (.plain (OpenSpec.ofChange logoutCodesSpec)) logoutCodesCard

/-- THE TIED CARD OF 'matriculalaw23.LogoutBack'. -/
def logoutBackCard : Claim7 := { stood := { row := logoutBackRow, standIns := [], harness := (true, "26b9ea3839e40aff174482b81f08c8e6462f9b0982ca90b3a91fec393b2f2f29"), looks := true }, kinds := [], alts := [], laidByText := true, laidKinds := [.data, .data, .data, .data, .sentinel, .sentinel, .widerDeep, .widerDeep, .pinned], laidTests := true, laidLooks := .later }
def LogoutBackCardSaid : Prop := Claim7.holds Tryz.pinned (.plain (OpenSpec.ofChange logoutBackSpec)) logoutBackCard

/-- THE TIED CARD OF 'matriculalaw23.LogoutEnds'. -/
def logoutEndsCard : Claim7 := { stood := { row := logoutEndsRow, standIns := [], harness := (true, "26b9ea3839e40aff174482b81f08c8e6462f9b0982ca90b3a91fec393b2f2f29"), looks := true }, kinds := [], alts := [], laidByText := true, laidKinds := [.data, .data, .data, .data, .sentinel, .sentinel, .data, .widerDeep, .widerDeep, .pinned], laidTests := true, laidLooks := .later }
def LogoutEndsCardSaid : Prop := Claim7.holds Tryz.pinned (.plain (OpenSpec.ofChange logoutEndsSpec)) logoutEndsCard

/-- THE TIED CARD OF 'matriculalaw23.LogoutTold'. -/
def logoutToldCard : Claim7 := { stood := { row := logoutToldRow, standIns := [], harness := (true, "26b9ea3839e40aff174482b81f08c8e6462f9b0982ca90b3a91fec393b2f2f29"), looks := true }, kinds := [], alts := [], laidByText := true, laidKinds := [.data, .data, .data, .data, .sentinel, .sentinel, .data, .widerDeep, .widerDeep, .pinned], laidTests := true, laidLooks := .later }
def LogoutToldCardSaid : Prop := Claim7.holds Tryz.pinned (.plain (OpenSpec.ofChange logoutToldSpec)) logoutToldCard

/-- THE SECOND FORM's CARD OF 'matriculalaw23.LogoutPlays'. -/
def logoutPlaysUptoCard : Claim7 := { stood := { row := logoutPlaysUptoRow, standIns := [], harness := (true, "26b9ea3839e40aff174482b81f08c8e6462f9b0982ca90b3a91fec393b2f2f29"), looks := true }, kinds := [], alts := [], laidByText := true, laidKinds := [.data, .data, .data, .data, .sentinel, .sentinel, .widerDeep, .widerDeep, .pinned], laidTests := true, laidLooks := .later }
def LogoutPlaysUptoCardSaid : Prop := Claim7.holds Tryz.pinned (.plain (OpenSpec.upto logoutPlaysSpec)) logoutPlaysUptoCard

/-- THE SECOND FORM's CARD OF 'matriculalaw23.LogoutCodes'. -/
def logoutCodesUptoCard : Claim7 := { stood := { row := logoutCodesUptoRow, standIns := [], harness := (true, "26b9ea3839e40aff174482b81f08c8e6462f9b0982ca90b3a91fec393b2f2f29"), looks := true }, kinds := [], alts := [], laidByText := true, laidKinds := [.data, .data, .data, .data, .sentinel, .sentinel, .widerDeep, .widerDeep, .pinned], laidTests := true, laidLooks := .later }
def LogoutCodesUptoCardSaid : Prop := Claim7.holds Tryz.pinned (.plain (OpenSpec.upto logoutCodesSpec)) logoutCodesUptoCard

/-- THE SECOND FORM's CARD OF 'matriculalaw23.LogoutBack'. -/
def logoutBackUptoCard : Claim7 := { stood := { row := logoutBackUptoRow, standIns := [], harness := (true, "26b9ea3839e40aff174482b81f08c8e6462f9b0982ca90b3a91fec393b2f2f29"), looks := true }, kinds := [], alts := [], laidByText := true, laidKinds := [.data, .data, .data, .data, .sentinel, .sentinel, .widerDeep, .widerDeep, .pinned], laidTests := true, laidLooks := .later }
def LogoutBackUptoCardSaid : Prop := Claim7.holds Tryz.pinned (.plain (OpenSpec.upto logoutBackSpec)) logoutBackUptoCard

/-- THE SECOND FORM's CARD OF 'matriculalaw23.LogoutEnds'. -/
def logoutEndsUptoCard : Claim7 := { stood := { row := logoutEndsUptoRow, standIns := [], harness := (true, "26b9ea3839e40aff174482b81f08c8e6462f9b0982ca90b3a91fec393b2f2f29"), looks := true }, kinds := [], alts := [], laidByText := true, laidKinds := [.data, .data, .data, .data, .sentinel, .sentinel, .data, .widerDeep, .widerDeep, .pinned], laidTests := true, laidLooks := .later }
def LogoutEndsUptoCardSaid : Prop := Claim7.holds Tryz.pinned (.plain (OpenSpec.upto logoutEndsSpec)) logoutEndsUptoCard

/-- THE SECOND FORM's CARD OF 'matriculalaw23.LogoutTold'. -/
def logoutToldUptoCard : Claim7 := { stood := { row := logoutToldUptoRow, standIns := [], harness := (true, "26b9ea3839e40aff174482b81f08c8e6462f9b0982ca90b3a91fec393b2f2f29"), looks := true }, kinds := [], alts := [], laidByText := true, laidKinds := [.data, .data, .data, .data, .sentinel, .sentinel, .data, .widerDeep, .widerDeep, .pinned], laidTests := true, laidLooks := .later }
def LogoutToldUptoCardSaid : Prop := Claim7.holds Tryz.pinned (.plain (OpenSpec.upto logoutToldSpec)) logoutToldUptoCard
end Rows
end Go.Proofs.YtbciobiiejpdgaaGreatDoor
