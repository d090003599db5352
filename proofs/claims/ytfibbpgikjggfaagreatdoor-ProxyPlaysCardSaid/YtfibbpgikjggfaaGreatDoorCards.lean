/-
  DERIVED. GIVEN WITH THE SEED: THE CARDS: each row of YtfibbpgikjggfaaGreatDoorRows.lean that lists a variable, with what it lists TIED to the program's text (the seventh form; the later family's looks); each row that meets fmt, with fmt's text TOLD by the authors' own Lean function (tested against real Go, not proved from fmt's source: count such statements apart). THE CARD IS WHAT COUNTS. Prove the row's statement (the work); the ties are given (YtfibbpgikjggfaaGreatDoorTie.lean); close each card by the builder's one call (the guide's Derived/Test/ToyasCard.lean, 'card_holds'). Laid BY PROGRAM, IN A SANDBOX (cutbox-door.mjs). By AI agents, Wed Nov 11 2026. No macro, syntax, notation, axiom, sorry.
-/
import Derived.Test.YtfibbpgikjggfaaGreatDoorRows
import GoSem.ClaimSeven
namespace Go.Proofs.YtfibbpgikjggfaaGreatDoor
namespace Rows

/-- THE TIED CARD OF 'matriculalaw22.ProxyAllowed'. -/
def proxyAllowedCard : Claim7 := { stood := { row := proxyAllowedRow, standIns := [], harness := (true, "f50c528b2740b9d2b96812d02f405c984035f8e97c2f3fb47ee885acb42fd1e3"), looks := false }, kinds := [], alts := [], laidByText := true, laidKinds := [.data, .data, .data, .data, .data, .widerDeep, .pinned], laidTests := true, laidLooks := .later }
def ProxyAllowedCardSaid : Prop := Claim7.holds Tryz.pinned (.plain (OpenSpec.ofChange proxyAllowedSpec)) proxyAllowedCard

/-- THE TIED CARD OF 'matriculalaw22.ProxyIssues'. -/
def proxyIssuesCard : Claim7 := { stood := { row := proxyIssuesRow, standIns := [], harness := (true, "f50c528b2740b9d2b96812d02f405c984035f8e97c2f3fb47ee885acb42fd1e3"), looks := false }, kinds := [], alts := [], laidByText := true, laidKinds := [.data, .data, .data, .data, .data, .widerDeep, .pinned], laidTests := true, laidLooks := .later }
def ProxyIssuesCardSaid : Prop := Claim7.holds Tryz.pinned (.plain (OpenSpec.ofChange proxyIssuesSpec)) proxyIssuesCard

/-- THE TIED CARD OF 'matriculalaw22.ProxyAnswered'. -/
def proxyAnsweredCard : Claim7 := { stood := { row := proxyAnsweredRow, standIns := [], harness := (true, "f50c528b2740b9d2b96812d02f405c984035f8e97c2f3fb47ee885acb42fd1e3"), looks := false }, kinds := [], alts := [], laidByText := true, laidKinds := [.data, .data, .data, .data, .data, .widerDeep, .pinned], laidTests := true, laidLooks := .later }
def ProxyAnsweredCardSaid : Prop := Claim7.holds Tryz.pinned (.plain (OpenSpec.ofChange proxyAnsweredSpec)) proxyAnsweredCard

/-- THE TIED CARD OF 'matriculalaw22.ProxyPlays'. -/
def proxyPlaysCard : Claim7 := { stood := { row := proxyPlaysRow, standIns := [], harness := (true, "f50c528b2740b9d2b96812d02f405c984035f8e97c2f3fb47ee885acb42fd1e3"), looks := false }, kinds := [], alts := [], laidByText := true, laidKinds := [.data, .data, .data, .data, .data, .widerDeep, .pinned], laidTests := true, laidLooks := .later }
def ProxyPlaysCardSaid : Prop := Claim7.holds Tryz.pinned (.plain (OpenSpec.ofChange proxyPlaysSpec)) proxyPlaysCard

/-- THE TIED CARD OF 'matriculalaw22.ProxyTargets'. -/
def proxyTargetsCard : Claim7 := { stood := { row := proxyTargetsRow, standIns := [], harness := (true, "f50c528b2740b9d2b96812d02f405c984035f8e97c2f3fb47ee885acb42fd1e3"), looks := false }, kinds := [], alts := [], laidByText := true, laidKinds := [.data, .data, .data, .data, .data, .widerDeep, .pinned], laidTests := true, laidLooks := .later }
def ProxyTargetsCardSaid : Prop := Claim7.holds Tryz.pinned (.plain (OpenSpec.ofChange proxyTargetsSpec)) proxyTargetsCard

/-- THE SECOND FORM's CARD OF 'matriculalaw22.ProxyAllowed'. -/
def proxyAllowedUptoCard : Claim7 := { stood := { row := proxyAllowedUptoRow, standIns := [], harness := (true, "f50c528b2740b9d2b96812d02f405c984035f8e97c2f3fb47ee885acb42fd1e3"), looks := false }, kinds := [], alts := [], laidByText := true, laidKinds := [.data, .data, .data, .data, .data, .widerDeep, .pinned], laidTests := true, laidLooks := .later }
def ProxyAllowedUptoCardSaid : Prop := Claim7.holds Tryz.pinned (.plain (OpenSpec.upto proxyAllowedSpec)) proxyAllowedUptoCard

/-- THE SECOND FORM's CARD OF 'matriculalaw22.ProxyIssues'. -/
def proxyIssuesUptoCard : Claim7 := { stood := { row := proxyIssuesUptoRow, standIns := [], harness := (true, "f50c528b2740b9d2b96812d02f405c984035f8e97c2f3fb47ee885acb42fd1e3"), looks := false }, kinds := [], alts := [], laidByText := true, laidKinds := [.data, .data, .data, .data, .data, .widerDeep, .pinned], laidTests := true, laidLooks := .later }
def ProxyIssuesUptoCardSaid : Prop := Claim7.holds Tryz.pinned (.plain (OpenSpec.upto proxyIssuesSpec)) proxyIssuesUptoCard

/-- THE SECOND FORM's CARD OF 'matriculalaw22.ProxyAnswered'. -/
def proxyAnsweredUptoCard : Claim7 := { stood := { row := proxyAnsweredUptoRow, standIns := [], harness := (true, "f50c528b2740b9d2b96812d02f405c984035f8e97c2f3fb47ee885acb42fd1e3"), looks := false }, kinds := [], alts := [], laidByText := true, laidKinds := [.data, .data, .data, .data, .data, .widerDeep, .pinned], laidTests := true, laidLooks := .later }
def ProxyAnsweredUptoCardSaid : Prop := Claim7.holds Tryz.pinned (.plain (OpenSpec.upto proxyAnsweredSpec)) proxyAnsweredUptoCard

/-- THE SECOND FORM's CARD OF 'matriculalaw22.ProxyPlays'. -/
def proxyPlaysUptoCard : Claim7 := { stood := { row := proxyPlaysUptoRow, standIns := [], harness := (true, "f50c528b2740b9d2b96812d02f405c984035f8e97c2f3fb47ee885acb42fd1e3"), looks := false }, kinds := [], alts := [], laidByText := true, laidKinds := [.data, .data, .data, .data, .data, .widerDeep, .pinned], laidTests := true, laidLooks := .later }
def ProxyPlaysUptoCardSaid : Prop := Claim7.holds Tryz.pinned (.plain (OpenSpec.upto proxyPlaysSpec)) proxyPlaysUptoCard

/-- THE SECOND FORM's CARD OF 'matriculalaw22.ProxyTargets'. -/
def proxyTargetsUptoCard : Claim7 := { stood := { row := proxyTargetsUptoRow, standIns := [], harness := (true, "f50c528b2740b9d2b96812d02f405c984035f8e97c2f3fb47ee885acb42fd1e3"), looks := false }, kinds := [], alts := [], laidByText := true, laidKinds := [.data, .data, .data, .data, .data, .widerDeep, .pinned], laidTests := true, laidLooks := .later }
def ProxyTargetsUptoCardSaid : Prop := Claim7.holds Tryz.pinned (.plain (OpenSpec.upto proxyTargetsSpec)) proxyTargetsUptoCard
end Rows
end Go.Proofs.YtfibbpgikjggfaaGreatDoor
