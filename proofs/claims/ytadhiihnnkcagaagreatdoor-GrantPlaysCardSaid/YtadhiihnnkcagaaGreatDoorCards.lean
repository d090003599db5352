/-
  DERIVED. GIVEN WITH THE SEED: THE CARDS: each row of YtadhiihnnkcagaaGreatDoorRows.lean that lists a variable, with what it lists TIED to the program's text (the seventh form; the later family's looks); each row that meets fmt, with fmt's text TOLD by the authors' own Lean function (tested against real Go, not proved from fmt's source: count such statements apart). THE CARD IS WHAT COUNTS. Prove the row's statement (the work); the ties are given (YtadhiihnnkcagaaGreatDoorTie.lean); close each card by the builder's one call (the guide's Derived/Test/ToyasCard.lean, 'card_holds'). Laid BY PROGRAM, IN A SANDBOX (cutbox-door.mjs). By AI agents, Wed Nov 11 2026. No macro, syntax, notation, axiom, sorry.
-/
import Derived.Test.YtadhiihnnkcagaaGreatDoorRows
import GoSem.ClaimSeven
namespace Go.Proofs.YtadhiihnnkcagaaGreatDoor
namespace Rows

/-- THE TIED CARD OF 'matriculalaw21.ValidateCodes'. -/
def validateCodesCard : Claim7 := { stood := { row := validateCodesRow, standIns := [], harness := (true, "ab201521280da2ff598e2fff5b5ac2b486f821943f5863e0f88b6e8751cf499e"), looks := false }, kinds := [], alts := [], laidByText := true, laidKinds := [.data, .data, .data, .data, .data, .widerDeep, .pinned], laidTests := true, laidLooks := .later }
def ValidateCodesCardSaid : Prop := Claim7.holds Tryz.pinned (.plain (OpenSpec.ofChange validateCodesSpec)) validateCodesCard

/-- THE TIED CARD OF 'matriculalaw21.ValidateOnce'. -/
def validateOnceCard : Claim7 := { stood := { row := validateOnceRow, standIns := [], harness := (true, "ab201521280da2ff598e2fff5b5ac2b486f821943f5863e0f88b6e8751cf499e"), looks := false }, kinds := [], alts := [], laidByText := true, laidKinds := [.data, .data, .data, .data, .data, .widerDeep, .pinned], laidTests := true, laidLooks := .later }
def ValidateOnceCardSaid : Prop := Claim7.holds Tryz.pinned (.plain (OpenSpec.ofChange validateOnceSpec)) validateOnceCard

/-- THE TIED CARD OF 'matriculalaw21.ValidateRight'. -/
def validateRightCard : Claim7 := { stood := { row := validateRightRow, standIns := [], harness := (true, "ab201521280da2ff598e2fff5b5ac2b486f821943f5863e0f88b6e8751cf499e"), looks := false }, kinds := [], alts := [], laidByText := true, laidKinds := [.data, .data, .data, .data, .data, .widerDeep, .pinned], laidTests := true, laidLooks := .later }
def ValidateRightCardSaid : Prop := Claim7.holds Tryz.pinned (.plain (OpenSpec.ofChange validateRightSpec)) validateRightCard

/-- THE TIED CARD OF 'matriculalaw21.ValidateTells'. -/
def validateTellsCard : Claim7 := { stood := { row := validateTellsRow, standIns := [], harness := (true, "ab201521280da2ff598e2fff5b5ac2b486f821943f5863e0f88b6e8751cf499e"), looks := false }, kinds := [], alts := [], laidByText := true, laidKinds := [.data, .data, .data, .data, .data, .widerDeep, .pinned], laidTests := true, laidLooks := .later }
def ValidateTellsCardSaid : Prop := Claim7.holds Tryz.pinned (.plain (OpenSpec.ofChange validateTellsSpec)) validateTellsCard

/-- THE TIED CARD OF 'matriculalaw21.ValidateChanges'. -/
def validateChangesCard : Claim7 := { stood := { row := validateChangesRow, standIns := [], harness := (true, "ab201521280da2ff598e2fff5b5ac2b486f821943f5863e0f88b6e8751cf499e"), looks := false }, kinds := [], alts := [], laidByText := true, laidKinds := [.data, .data, .data, .data, .data, .widerDeep, .pinned], laidTests := true, laidLooks := .later }
def ValidateChangesCardSaid : Prop := Claim7.holds Tryz.pinned (.plain (OpenSpec.ofChange validateChangesSpec)) validateChangesCard

/-- THE TIED CARD OF 'matriculalaw20.GrantOnce'. -/
def grantOnceCard : Claim7 := { stood := { row := grantOnceRow, standIns := [], harness := (true, "ab201521280da2ff598e2fff5b5ac2b486f821943f5863e0f88b6e8751cf499e"), looks := false }, kinds := [], alts := [], laidByText := true, laidKinds := [.data, .data, .data, .data, .data, .widerDeep, .pinned], laidTests := true, laidLooks := .later }
def GrantOnceCardSaid : Prop := Claim7.holds Tryz.pinned (.plain (OpenSpec.ofChange grantOnceSpec)) grantOnceCard

/-- THE TIED CARD OF 'matriculalaw20.GrantChooses'. -/
def grantChoosesCard : Claim7 := { stood := { row := grantChoosesRow, standIns := [], harness := (true, "ab201521280da2ff598e2fff5b5ac2b486f821943f5863e0f88b6e8751cf499e"), looks := false }, kinds := [], alts := [], laidByText := true, laidKinds := [.data, .data, .data, .data, .data, .widerDeep, .pinned], laidTests := true, laidLooks := .later }
def GrantChoosesCardSaid : Prop := Claim7.holds Tryz.pinned (.plain (OpenSpec.ofChange grantChoosesSpec)) grantChoosesCard

/-- THE TIED CARD OF 'matriculalaw20.GrantPasswords'. -/
def grantPasswordsCard : Claim7 := { stood := { row := grantPasswordsRow, standIns := [], harness := (true, "ab201521280da2ff598e2fff5b5ac2b486f821943f5863e0f88b6e8751cf499e"), looks := false }, kinds := [], alts := [], laidByText := true, laidKinds := [.data, .data, .data, .data, .data, .widerDeep, .pinned], laidTests := true, laidLooks := .later }
def GrantPasswordsCardSaid : Prop := Claim7.holds Tryz.pinned (.plain (OpenSpec.ofChange grantPasswordsSpec)) grantPasswordsCard

/-- THE TIED CARD OF 'matriculalaw20.GrantPlays'. -/
def grantPlaysCard : Claim7 := { stood := { row := grantPlaysRow, standIns := [], harness := (true, "ab201521280da2ff598e2fff5b5ac2b486f821943f5863e0f88b6e8751cf499e"), looks := false }, kinds := [], alts := [], laidByText := true, laidKinds := [.data, .data, .data, .data, .data, .widerDeep, .pinned], laidTests := true, laidLooks := .later }
def GrantPlaysCardSaid : Prop := Claim7.holds Tryz.pinned (.plain (OpenSpec.ofChange grantPlaysSpec)) grantPlaysCard

/-- THE TIED CARD OF 'matriculalaw20.GrantFails'. -/
def grantFailsCard : Claim7 := { stood := { row := grantFailsRow, standIns := [], harness := (true, "ab201521280da2ff598e2fff5b5ac2b486f821943f5863e0f88b6e8751cf499e"), looks := false }, kinds := [], alts := [], laidByText := true, laidKinds := [.data, .data, .data, .data, .data, .widerDeep, .pinned], laidTests := true, laidLooks := .later }
def GrantFailsCardSaid : Prop := Claim7.holds Tryz.pinned (.plain (OpenSpec.ofChange grantFailsSpec)) grantFailsCard

/-- THE SECOND FORM's CARD OF 'matriculalaw21.ValidateCodes'. -/
def validateCodesUptoCard : Claim7 := { stood := { row := validateCodesUptoRow, standIns := [], harness := (true, "ab201521280da2ff598e2fff5b5ac2b486f821943f5863e0f88b6e8751cf499e"), looks := false }, kinds := [], alts := [], laidByText := true, laidKinds := [.data, .data, .data, .data, .data, .widerDeep, .pinned], laidTests := true, laidLooks := .later }
def ValidateCodesUptoCardSaid : Prop := Claim7.holds Tryz.pinned (.plain (OpenSpec.upto validateCodesSpec)) validateCodesUptoCard

/-- THE SECOND FORM's CARD OF 'matriculalaw21.ValidateOnce'. -/
def validateOnceUptoCard : Claim7 := { stood := { row := validateOnceUptoRow, standIns := [], harness := (true, "ab201521280da2ff598e2fff5b5ac2b486f821943f5863e0f88b6e8751cf499e"), looks := false }, kinds := [], alts := [], laidByText := true, laidKinds := [.data, .data, .data, .data, .data, .widerDeep, .pinned], laidTests := true, laidLooks := .later }
def ValidateOnceUptoCardSaid : Prop := Claim7.holds Tryz.pinned (.plain (OpenSpec.upto validateOnceSpec)) validateOnceUptoCard

/-- THE SECOND FORM's CARD OF 'matriculalaw21.ValidateRight'. -/
def validateRightUptoCard : Claim7 := { stood := { row := validateRightUptoRow, standIns := [], harness := (true, "ab201521280da2ff598e2fff5b5ac2b486f821943f5863e0f88b6e8751cf499e"), looks := false }, kinds := [], alts := [], laidByText := true, laidKinds := [.data, .data, .data, .data, .data, .widerDeep, .pinned], laidTests := true, laidLooks := .later }
def ValidateRightUptoCardSaid : Prop := Claim7.holds Tryz.pinned (.plain (OpenSpec.upto validateRightSpec)) validateRightUptoCard

/-- THE SECOND FORM's CARD OF 'matriculalaw21.ValidateTells'. -/
def validateTellsUptoCard : Claim7 := { stood := { row := validateTellsUptoRow, standIns := [], harness := (true, "ab201521280da2ff598e2fff5b5ac2b486f821943f5863e0f88b6e8751cf499e"), looks := false }, kinds := [], alts := [], laidByText := true, laidKinds := [.data, .data, .data, .data, .data, .widerDeep, .pinned], laidTests := true, laidLooks := .later }
def ValidateTellsUptoCardSaid : Prop := Claim7.holds Tryz.pinned (.plain (OpenSpec.upto validateTellsSpec)) validateTellsUptoCard

/-- THE SECOND FORM's CARD OF 'matriculalaw21.ValidateChanges'. -/
def validateChangesUptoCard : Claim7 := { stood := { row := validateChangesUptoRow, standIns := [], harness := (true, "ab201521280da2ff598e2fff5b5ac2b486f821943f5863e0f88b6e8751cf499e"), looks := false }, kinds := [], alts := [], laidByText := true, laidKinds := [.data, .data, .data, .data, .data, .widerDeep, .pinned], laidTests := true, laidLooks := .later }
def ValidateChangesUptoCardSaid : Prop := Claim7.holds Tryz.pinned (.plain (OpenSpec.upto validateChangesSpec)) validateChangesUptoCard

/-- THE SECOND FORM's CARD OF 'matriculalaw20.GrantOnce'. -/
def grantOnceUptoCard : Claim7 := { stood := { row := grantOnceUptoRow, standIns := [], harness := (true, "ab201521280da2ff598e2fff5b5ac2b486f821943f5863e0f88b6e8751cf499e"), looks := false }, kinds := [], alts := [], laidByText := true, laidKinds := [.data, .data, .data, .data, .data, .widerDeep, .pinned], laidTests := true, laidLooks := .later }
def GrantOnceUptoCardSaid : Prop := Claim7.holds Tryz.pinned (.plain (OpenSpec.upto grantOnceSpec)) grantOnceUptoCard

/-- THE SECOND FORM's CARD OF 'matriculalaw20.GrantChooses'. -/
def grantChoosesUptoCard : Claim7 := { stood := { row := grantChoosesUptoRow, standIns := [], harness := (true, "ab201521280da2ff598e2fff5b5ac2b486f821943f5863e0f88b6e8751cf499e"), looks := false }, kinds := [], alts := [], laidByText := true, laidKinds := [.data, .data, .data, .data, .data, .widerDeep, .pinned], laidTests := true, laidLooks := .later }
def GrantChoosesUptoCardSaid : Prop := Claim7.holds Tryz.pinned (.plain (OpenSpec.upto grantChoosesSpec)) grantChoosesUptoCard

/-- THE SECOND FORM's CARD OF 'matriculalaw20.GrantPasswords'. -/
def grantPasswordsUptoCard : Claim7 := { stood := { row := grantPasswordsUptoRow, standIns := [], harness := (true, "ab201521280da2ff598e2fff5b5ac2b486f821943f5863e0f88b6e8751cf499e"), looks := false }, kinds := [], alts := [], laidByText := true, laidKinds := [.data, .data, .data, .data, .data, .widerDeep, .pinned], laidTests := true, laidLooks := .later }
def GrantPasswordsUptoCardSaid : Prop := Claim7.holds Tryz.pinned (.plain (OpenSpec.upto grantPasswordsSpec)) grantPasswordsUptoCard

/-- THE SECOND FORM's CARD OF 'matriculalaw20.GrantPlays'. -/
def grantPlaysUptoCard : Claim7 := { stood := { row := grantPlaysUptoRow, standIns := [], harness := (true, "ab201521280da2ff598e2fff5b5ac2b486f821943f5863e0f88b6e8751cf499e"), looks := false }, kinds := [], alts := [], laidByText := true, laidKinds := [.data, .data, .data, .data, .data, .widerDeep, .pinned], laidTests := true, laidLooks := .later }
def GrantPlaysUptoCardSaid : Prop := Claim7.holds Tryz.pinned (.plain (OpenSpec.upto grantPlaysSpec)) grantPlaysUptoCard

/-- THE SECOND FORM's CARD OF 'matriculalaw20.GrantFails'. -/
def grantFailsUptoCard : Claim7 := { stood := { row := grantFailsUptoRow, standIns := [], harness := (true, "ab201521280da2ff598e2fff5b5ac2b486f821943f5863e0f88b6e8751cf499e"), looks := false }, kinds := [], alts := [], laidByText := true, laidKinds := [.data, .data, .data, .data, .data, .widerDeep, .pinned], laidTests := true, laidLooks := .later }
def GrantFailsUptoCardSaid : Prop := Claim7.holds Tryz.pinned (.plain (OpenSpec.upto grantFailsSpec)) grantFailsUptoCard
end Rows
end Go.Proofs.YtadhiihnnkcagaaGreatDoor
