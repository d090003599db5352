/-
  No cell of these rows narrows 'for every input' (looked for: loops, veiled, ifaces, maps, wideKeys, modest, calm, conditions, laid).
  DERIVED. THE GIVEN ROWS OF THIS SEAT. 7 by the template 'for every input the law returns true; each argument reads behind the call as it read before'; 0 by the template 'total and deterministic' (their statements: YtfmdhpgfbojjaaaTotals.lean).
  GIVEN WITH THE SEED: the statements are not yours to turn. If you find one false, say at which input.
  Laid BY PROGRAM, IN A SANDBOX (cutbox-rows.mjs): the forced cells as the released guide's own fill.sh prints them over the translation 3ef4511210ccd010… (all of the seat's roots in one cut). By AI agents, Wed Nov 11 2026. No macro, syntax, notation, axiom, sorry.
-/
import Derived.Test.YtfmdhpgfbojjaaaChecked
import GoSem.Claim
import GoSem.ClaimJoined
import GoSem.ClaimMapViews
import Derived.JoinedTies
import Derived.KernelRfl
namespace Go.Proofs.Ytfmdhpgfbojjaaa
/- THE CELL 'sum', in the pinned program and in every row, IS THE sha256 OF THE DUMP (.gsa) THAT YtfmdhpgfbojjaaaProg.lean LOADS. Nothing in Lean hashes anything: it is a label: what it is worth is what the hold of that sum in a sandbox is worth. -/
noncomputable def Try.pinned : Pinned := { name := "ytfmdhpgfbojjaaa", sum := "3ef4511210ccd0100a665c018323861a53a21bc10597ecc72bdbce1fe57a0026", checked := Try.checked }
namespace Rows
def none {H : Type} : Left H := { results := [], args := [] }

/-- 'matriculalaw16.RankOrders': WHATEVER THE INPUT: true; the input reads as it did. -/
def rankOrdersSpec : ChangeSpec := { name := "rankOrders", fn := fun _ => fun
  | [d] => { results := [.lit (.bool true)], args := [d] }
  | _ => none }
def rankOrdersRow : OpenClaim := { program := "ytfmdhpgfbojjaaa", sum := "3ef4511210ccd0100a665c018323861a53a21bc10597ecc72bdbce1fe57a0026", func := "matricula/matriculalaw16.RankOrders", spec := "rankOrders", inPlace := ["math.Float64frombits", "math.Float64bits", "math.archCeil", "math.archFloor", "math.archTrunc"], unfollowed := true, recurses := true, apart := false }
def RankOrdersSaid : Prop := rankOrdersRow.holds Try.pinned (OpenSpec.ofChange rankOrdersSpec)

/-- ITS FALSE NEIGHBOUR: 'it returns false'. Refute it at one input. -/
def rankOrdersWrong : ChangeSpec := { name := "rankOrders", fn := fun _ => fun
  | [d] => { results := [.lit (.bool false)], args := [d] }
  | _ => none }
def RankOrdersWrongFalsely : Prop := rankOrdersRow.holds Try.pinned (OpenSpec.ofChange rankOrdersWrong)

/-- 'matriculalaw16.RankWaits': WHATEVER THE INPUT: true; the input reads as it did. -/
def rankWaitsSpec : ChangeSpec := { name := "rankWaits", fn := fun _ => fun
  | [d1, d2, d3, d4] => { results := [.lit (.bool true)], args := [d1, d2, d3, d4] }
  | _ => none }
def rankWaitsRow : OpenClaim := { program := "ytfmdhpgfbojjaaa", sum := "3ef4511210ccd0100a665c018323861a53a21bc10597ecc72bdbce1fe57a0026", func := "matricula/matriculalaw16.RankWaits", spec := "rankWaits", inPlace := ["math.Float64frombits", "math.Float64bits", "math.archCeil", "math.archFloor", "math.archTrunc"], unfollowed := true, recurses := true, apart := false }
def RankWaitsSaid : Prop := rankWaitsRow.holds Try.pinned (OpenSpec.ofChange rankWaitsSpec)

/-- ITS FALSE NEIGHBOUR: 'it returns false'. Refute it at one input. -/
def rankWaitsWrong : ChangeSpec := { name := "rankWaits", fn := fun _ => fun
  | [d1, d2, d3, d4] => { results := [.lit (.bool false)], args := [d1, d2, d3, d4] }
  | _ => none }
def RankWaitsWrongFalsely : Prop := rankWaitsRow.holds Try.pinned (OpenSpec.ofChange rankWaitsWrong)

/-- 'matriculalaw16.RankCounts': WHATEVER THE INPUT: true; the input reads as it did. -/
def rankCountsSpec : ChangeSpec := { name := "rankCounts", fn := fun _ => fun
  | [d1, d2, d3] => { results := [.lit (.bool true)], args := [d1, d2, d3] }
  | _ => none }
def rankCountsRow : OpenClaim := { program := "ytfmdhpgfbojjaaa", sum := "3ef4511210ccd0100a665c018323861a53a21bc10597ecc72bdbce1fe57a0026", func := "matricula/matriculalaw16.RankCounts", spec := "rankCounts", inPlace := ["math.Float64frombits", "math.Float64bits", "math.archCeil", "math.archFloor", "math.archTrunc"], unfollowed := true, recurses := true, apart := false }
def RankCountsSaid : Prop := rankCountsRow.holds Try.pinned (OpenSpec.ofChange rankCountsSpec)

/-- ITS FALSE NEIGHBOUR: 'it returns false'. Refute it at one input. -/
def rankCountsWrong : ChangeSpec := { name := "rankCounts", fn := fun _ => fun
  | [d1, d2, d3] => { results := [.lit (.bool false)], args := [d1, d2, d3] }
  | _ => none }
def RankCountsWrongFalsely : Prop := rankCountsRow.holds Try.pinned (OpenSpec.ofChange rankCountsWrong)

/-- 'matriculalaw16.RankTells': WHATEVER THE INPUT: true; the input reads as it did. -/
def rankTellsSpec : ChangeSpec := { name := "rankTells", fn := fun _ => fun
  | [d1, d2, d3, d4, d5] => { results := [.lit (.bool true)], args := [d1, d2, d3, d4, d5] }
  | _ => none }
def rankTellsRow : OpenClaim := { program := "ytfmdhpgfbojjaaa", sum := "3ef4511210ccd0100a665c018323861a53a21bc10597ecc72bdbce1fe57a0026", func := "matricula/matriculalaw16.RankTells", spec := "rankTells", inPlace := ["math.Float64frombits", "math.Float64bits", "math.archCeil", "math.archFloor", "math.archTrunc"], unfollowed := true, recurses := true, apart := false }
def RankTellsSaid : Prop := rankTellsRow.holds Try.pinned (OpenSpec.ofChange rankTellsSpec)

/-- ITS FALSE NEIGHBOUR: 'it returns false'. Refute it at one input. -/
def rankTellsWrong : ChangeSpec := { name := "rankTells", fn := fun _ => fun
  | [d1, d2, d3, d4, d5] => { results := [.lit (.bool false)], args := [d1, d2, d3, d4, d5] }
  | _ => none }
def RankTellsWrongFalsely : Prop := rankTellsRow.holds Try.pinned (OpenSpec.ofChange rankTellsWrong)

/-- 'matriculalaw16.RankOne': WHATEVER THE INPUT: true; the input reads as it did. -/
def rankOneSpec : ChangeSpec := { name := "rankOne", fn := fun _ => fun
  | [d1, d2, d3] => { results := [.lit (.bool true)], args := [d1, d2, d3] }
  | _ => none }
def rankOneRow : OpenClaim := { program := "ytfmdhpgfbojjaaa", sum := "3ef4511210ccd0100a665c018323861a53a21bc10597ecc72bdbce1fe57a0026", func := "matricula/matriculalaw16.RankOne", spec := "rankOne", inPlace := ["math.Float64frombits", "math.Float64bits", "math.archCeil", "math.archFloor", "math.archTrunc"], unfollowed := true, recurses := true, apart := false }
def RankOneSaid : Prop := rankOneRow.holds Try.pinned (OpenSpec.ofChange rankOneSpec)

/-- ITS FALSE NEIGHBOUR: 'it returns false'. Refute it at one input. -/
def rankOneWrong : ChangeSpec := { name := "rankOne", fn := fun _ => fun
  | [d1, d2, d3] => { results := [.lit (.bool false)], args := [d1, d2, d3] }
  | _ => none }
def RankOneWrongFalsely : Prop := rankOneRow.holds Try.pinned (OpenSpec.ofChange rankOneWrong)

/-- 'matriculalaw16.RankSorts': WHATEVER THE INPUT: true; the input reads as it did. -/
def rankSortsSpec : ChangeSpec := { name := "rankSorts", fn := fun _ => fun
  | [d] => { results := [.lit (.bool true)], args := [d] }
  | _ => none }
def rankSortsRow : OpenClaim := { program := "ytfmdhpgfbojjaaa", sum := "3ef4511210ccd0100a665c018323861a53a21bc10597ecc72bdbce1fe57a0026", func := "matricula/matriculalaw16.RankSorts", spec := "rankSorts", inPlace := ["math.Float64frombits", "math.Float64bits", "math.archCeil", "math.archFloor", "math.archTrunc"], unfollowed := true, recurses := true, apart := false }
def RankSortsSaid : Prop := rankSortsRow.holds Try.pinned (OpenSpec.ofChange rankSortsSpec)

/-- ITS FALSE NEIGHBOUR: 'it returns false'. Refute it at one input. -/
def rankSortsWrong : ChangeSpec := { name := "rankSorts", fn := fun _ => fun
  | [d] => { results := [.lit (.bool false)], args := [d] }
  | _ => none }
def RankSortsWrongFalsely : Prop := rankSortsRow.holds Try.pinned (OpenSpec.ofChange rankSortsWrong)

/-- 'matriculalaw16.RankTurned': WHATEVER THE INPUT: true; the input reads as it did. -/
def rankTurnedSpec : ChangeSpec := { name := "rankTurned", fn := fun _ => fun
  | [d1, d2] => { results := [.lit (.bool true)], args := [d1, d2] }
  | _ => none }
def rankTurnedRow : OpenClaim := { program := "ytfmdhpgfbojjaaa", sum := "3ef4511210ccd0100a665c018323861a53a21bc10597ecc72bdbce1fe57a0026", func := "matricula/matriculalaw16.RankTurned", spec := "rankTurned", inPlace := ["math.Float64frombits", "math.Float64bits", "math.archCeil", "math.archFloor", "math.archTrunc"], unfollowed := true, recurses := true, apart := false }
def RankTurnedSaid : Prop := rankTurnedRow.holds Try.pinned (OpenSpec.ofChange rankTurnedSpec)

/-- ITS FALSE NEIGHBOUR: 'it returns false'. Refute it at one input. -/
def rankTurnedWrong : ChangeSpec := { name := "rankTurned", fn := fun _ => fun
  | [d1, d2] => { results := [.lit (.bool false)], args := [d1, d2] }
  | _ => none }
def RankTurnedWrongFalsely : Prop := rankTurnedRow.holds Try.pinned (OpenSpec.ofChange rankTurnedWrong)

/- THE SECOND FORM. 'bulk': how many values and letters a reading holds, each counted each time it is reached (what is shared counts as often as it is met; a slice's spare places count too). A statement '..UptoSaid' is the law's where the arguments, and the package variables that the reading takes, are together of bulk at most 1048576: NARROWER than '..Said'. Prove '..Said' where nothing that the law and all that it calls make is longer than what came in: it says more and counts as full. Else prove '..UptoSaid'. A law counts once. -/
mutual
def uptoBulk {H : Type} : DataW H → Nat
  | .lit (.string bytes) => bytes.length + 1
  | .lit _ => 1
  | .nil => 1
  | .ptr d => uptoBulk d + 1
  | .slice elems spare => uptoBulkAll elems + uptoBulkAll spare + 1
  | .agg parts => uptoBulkAll parts + 1
  | .iface _ d => uptoBulk d + 1
  | .map entries => uptoBulkEntries entries + 1
  | .held _ => 1
def uptoBulkAll {H : Type} : List (DataW H) → Nat
  | [] => 0
  | d :: r => uptoBulk d + uptoBulkAll r
def uptoBulkEntries {H : Type} : List (Lit × DataW H) → Nat
  | [] => 0
  | x :: r => uptoBulkEntry x + uptoBulkEntries r
def uptoBulkEntry {H : Type} : Lit × DataW H → Nat
  | (.string bytes, d) => bytes.length + uptoBulk d + 1
  | (_, d) => uptoBulk d + 1
 end
def uptoSmall : (H : Type) → List (DataW H) → Bool := fun _ ds => decide (uptoBulkAll ds ≤ 1048576)
def OpenSpec.upto (s : _root_.Go.ChangeSpec) : _root_.Go.OpenSpec := { _root_.Go.OpenSpec.ofChange s with cond := some uptoSmall }

/-- 'matriculalaw16.RankOrders', WHERE WHAT IT READS IS OF BULK AT MOST 1048576: true; the input reads as it did. -/
def rankOrdersUptoRow : OpenClaim := { program := "ytfmdhpgfbojjaaa", sum := "3ef4511210ccd0100a665c018323861a53a21bc10597ecc72bdbce1fe57a0026", func := "matricula/matriculalaw16.RankOrders", spec := "rankOrders", inPlace := ["math.Float64frombits", "math.Float64bits", "math.archCeil", "math.archFloor", "math.archTrunc"], unfollowed := true, recurses := true, apart := false, narrowed := true }
def RankOrdersUptoSaid : Prop := rankOrdersUptoRow.holds Try.pinned (OpenSpec.upto rankOrdersSpec)

/-- 'matriculalaw16.RankWaits', WHERE WHAT IT READS IS OF BULK AT MOST 1048576: true; the input reads as it did. -/
def rankWaitsUptoRow : OpenClaim := { program := "ytfmdhpgfbojjaaa", sum := "3ef4511210ccd0100a665c018323861a53a21bc10597ecc72bdbce1fe57a0026", func := "matricula/matriculalaw16.RankWaits", spec := "rankWaits", inPlace := ["math.Float64frombits", "math.Float64bits", "math.archCeil", "math.archFloor", "math.archTrunc"], unfollowed := true, recurses := true, apart := false, narrowed := true }
def RankWaitsUptoSaid : Prop := rankWaitsUptoRow.holds Try.pinned (OpenSpec.upto rankWaitsSpec)

/-- 'matriculalaw16.RankCounts', WHERE WHAT IT READS IS OF BULK AT MOST 1048576: true; the input reads as it did. -/
def rankCountsUptoRow : OpenClaim := { program := "ytfmdhpgfbojjaaa", sum := "3ef4511210ccd0100a665c018323861a53a21bc10597ecc72bdbce1fe57a0026", func := "matricula/matriculalaw16.RankCounts", spec := "rankCounts", inPlace := ["math.Float64frombits", "math.Float64bits", "math.archCeil", "math.archFloor", "math.archTrunc"], unfollowed := true, recurses := true, apart := false, narrowed := true }
def RankCountsUptoSaid : Prop := rankCountsUptoRow.holds Try.pinned (OpenSpec.upto rankCountsSpec)

/-- 'matriculalaw16.RankTells', WHERE WHAT IT READS IS OF BULK AT MOST 1048576: true; the input reads as it did. -/
def rankTellsUptoRow : OpenClaim := { program := "ytfmdhpgfbojjaaa", sum := "3ef4511210ccd0100a665c018323861a53a21bc10597ecc72bdbce1fe57a0026", func := "matricula/matriculalaw16.RankTells", spec := "rankTells", inPlace := ["math.Float64frombits", "math.Float64bits", "math.archCeil", "math.archFloor", "math.archTrunc"], unfollowed := true, recurses := true, apart := false, narrowed := true }
def RankTellsUptoSaid : Prop := rankTellsUptoRow.holds Try.pinned (OpenSpec.upto rankTellsSpec)

/-- 'matriculalaw16.RankOne', WHERE WHAT IT READS IS OF BULK AT MOST 1048576: true; the input reads as it did. -/
def rankOneUptoRow : OpenClaim := { program := "ytfmdhpgfbojjaaa", sum := "3ef4511210ccd0100a665c018323861a53a21bc10597ecc72bdbce1fe57a0026", func := "matricula/matriculalaw16.RankOne", spec := "rankOne", inPlace := ["math.Float64frombits", "math.Float64bits", "math.archCeil", "math.archFloor", "math.archTrunc"], unfollowed := true, recurses := true, apart := false, narrowed := true }
def RankOneUptoSaid : Prop := rankOneUptoRow.holds Try.pinned (OpenSpec.upto rankOneSpec)

/-- 'matriculalaw16.RankSorts', WHERE WHAT IT READS IS OF BULK AT MOST 1048576: true; the input reads as it did. -/
def rankSortsUptoRow : OpenClaim := { program := "ytfmdhpgfbojjaaa", sum := "3ef4511210ccd0100a665c018323861a53a21bc10597ecc72bdbce1fe57a0026", func := "matricula/matriculalaw16.RankSorts", spec := "rankSorts", inPlace := ["math.Float64frombits", "math.Float64bits", "math.archCeil", "math.archFloor", "math.archTrunc"], unfollowed := true, recurses := true, apart := false, narrowed := true }
def RankSortsUptoSaid : Prop := rankSortsUptoRow.holds Try.pinned (OpenSpec.upto rankSortsSpec)

/-- 'matriculalaw16.RankTurned', WHERE WHAT IT READS IS OF BULK AT MOST 1048576: true; the input reads as it did. -/
def rankTurnedUptoRow : OpenClaim := { program := "ytfmdhpgfbojjaaa", sum := "3ef4511210ccd0100a665c018323861a53a21bc10597ecc72bdbce1fe57a0026", func := "matricula/matriculalaw16.RankTurned", spec := "rankTurned", inPlace := ["math.Float64frombits", "math.Float64bits", "math.archCeil", "math.archFloor", "math.archTrunc"], unfollowed := true, recurses := true, apart := false, narrowed := true }
def RankTurnedUptoSaid : Prop := rankTurnedUptoRow.holds Try.pinned (OpenSpec.upto rankTurnedSpec)

end Rows
end Go.Proofs.Ytfmdhpgfbojjaaa
