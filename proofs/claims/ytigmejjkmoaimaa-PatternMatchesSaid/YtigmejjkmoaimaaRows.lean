/-
  No cell of these rows narrows 'for every input' (looked for: loops, veiled, ifaces, maps, wideKeys, modest, calm, conditions, laid).
  DERIVED. THE GIVEN ROWS OF THIS SEAT. 6 by the template 'for every input the law returns true; each argument reads behind the call as it read before'; 0 by the template 'total and deterministic' (their statements: YtigmejjkmoaimaaTotals.lean).
  GIVEN WITH THE SEED: the statements are not yours to turn. If you find one false, say at which input.
  Laid BY PROGRAM, IN A SANDBOX (cutbox-rows.mjs): the forced cells as the released guide's own fill.sh prints them over the translation 4ac3bc5441a831e0… (all of the seat's roots in one cut). By AI agents, Wed Nov 11 2026. No macro, syntax, notation, axiom, sorry.
-/
import Derived.Test.YtigmejjkmoaimaaChecked
import GoSem.Claim
import GoSem.ClaimJoined
import GoSem.ClaimMapViews
import Derived.JoinedTies
import Derived.KernelRfl
namespace Go.Proofs.Ytigmejjkmoaimaa
/- THE CELL 'sum', in the pinned program and in every row, IS THE sha256 OF THE DUMP (.gsa) THAT YtigmejjkmoaimaaProg.lean LOADS. Nothing in Lean hashes anything: it is a label: what it is worth is what the hold of that sum in a sandbox is worth. -/
noncomputable def Try.pinned : Pinned := { name := "ytigmejjkmoaimaa", sum := "4ac3bc5441a831e0c1b6c3f07032f717b420e3be74a07f908dd81cada6acbc93", checked := Try.checked }
namespace Rows
def none {H : Type} : Left H := { results := [], args := [] }

/-- 'matriculalaw17.PatternBrackets': WHATEVER THE INPUT: true; the input reads as it did. -/
def patternBracketsSpec : ChangeSpec := { name := "patternBrackets", fn := fun _ => fun
  | [d1, d2, d3] => { results := [.lit (.bool true)], args := [d1, d2, d3] }
  | _ => none }
def patternBracketsRow : OpenClaim := { program := "ytigmejjkmoaimaa", sum := "4ac3bc5441a831e0c1b6c3f07032f717b420e3be74a07f908dd81cada6acbc93", func := "matricula/matriculalaw17.PatternBrackets", spec := "patternBrackets", recurses := true, apart := false }
def PatternBracketsSaid : Prop := patternBracketsRow.holds Try.pinned (OpenSpec.ofChange patternBracketsSpec)

/-- ITS FALSE NEIGHBOUR: 'it returns false'. Refute it at one input. -/
def patternBracketsWrong : ChangeSpec := { name := "patternBrackets", fn := fun _ => fun
  | [d1, d2, d3] => { results := [.lit (.bool false)], args := [d1, d2, d3] }
  | _ => none }
def PatternBracketsWrongFalsely : Prop := patternBracketsRow.holds Try.pinned (OpenSpec.ofChange patternBracketsWrong)

/-- 'matriculalaw17.PatternSide': WHATEVER THE INPUT: true; the input reads as it did. -/
def patternSideSpec : ChangeSpec := { name := "patternSide", fn := fun _ => fun
  | [d1, d2, d3] => { results := [.lit (.bool true)], args := [d1, d2, d3] }
  | _ => none }
def patternSideRow : OpenClaim := { program := "ytigmejjkmoaimaa", sum := "4ac3bc5441a831e0c1b6c3f07032f717b420e3be74a07f908dd81cada6acbc93", func := "matricula/matriculalaw17.PatternSide", spec := "patternSide", recurses := true, apart := false }
def PatternSideSaid : Prop := patternSideRow.holds Try.pinned (OpenSpec.ofChange patternSideSpec)

/-- ITS FALSE NEIGHBOUR: 'it returns false'. Refute it at one input. -/
def patternSideWrong : ChangeSpec := { name := "patternSide", fn := fun _ => fun
  | [d1, d2, d3] => { results := [.lit (.bool false)], args := [d1, d2, d3] }
  | _ => none }
def PatternSideWrongFalsely : Prop := patternSideRow.holds Try.pinned (OpenSpec.ofChange patternSideWrong)

/-- 'matriculalaw17.PatternReads': WHATEVER THE INPUT: true; the input reads as it did. -/
def patternReadsSpec : ChangeSpec := { name := "patternReads", fn := fun _ => fun
  | [d] => { results := [.lit (.bool true)], args := [d] }
  | _ => none }
def patternReadsRow : OpenClaim := { program := "ytigmejjkmoaimaa", sum := "4ac3bc5441a831e0c1b6c3f07032f717b420e3be74a07f908dd81cada6acbc93", func := "matricula/matriculalaw17.PatternReads", spec := "patternReads", recurses := true, apart := false }
def PatternReadsSaid : Prop := patternReadsRow.holds Try.pinned (OpenSpec.ofChange patternReadsSpec)

/-- ITS FALSE NEIGHBOUR: 'it returns false'. Refute it at one input. -/
def patternReadsWrong : ChangeSpec := { name := "patternReads", fn := fun _ => fun
  | [d] => { results := [.lit (.bool false)], args := [d] }
  | _ => none }
def PatternReadsWrongFalsely : Prop := patternReadsRow.holds Try.pinned (OpenSpec.ofChange patternReadsWrong)

/-- 'matriculalaw17.PatternMatches': WHATEVER THE INPUT: true; the input reads as it did. -/
def patternMatchesSpec : ChangeSpec := { name := "patternMatches", fn := fun _ => fun
  | [d1, d2] => { results := [.lit (.bool true)], args := [d1, d2] }
  | _ => none }
def patternMatchesRow : OpenClaim := { program := "ytigmejjkmoaimaa", sum := "4ac3bc5441a831e0c1b6c3f07032f717b420e3be74a07f908dd81cada6acbc93", func := "matricula/matriculalaw17.PatternMatches", spec := "patternMatches", recurses := true, apart := false }
def PatternMatchesSaid : Prop := patternMatchesRow.holds Try.pinned (OpenSpec.ofChange patternMatchesSpec)

/-- ITS FALSE NEIGHBOUR: 'it returns false'. Refute it at one input. -/
def patternMatchesWrong : ChangeSpec := { name := "patternMatches", fn := fun _ => fun
  | [d1, d2] => { results := [.lit (.bool false)], args := [d1, d2] }
  | _ => none }
def PatternMatchesWrongFalsely : Prop := patternMatchesRow.holds Try.pinned (OpenSpec.ofChange patternMatchesWrong)

/-- 'matriculalaw17.PatternLiteral': WHATEVER THE INPUT: true; the input reads as it did. -/
def patternLiteralSpec : ChangeSpec := { name := "patternLiteral", fn := fun _ => fun
  | [d1, d2] => { results := [.lit (.bool true)], args := [d1, d2] }
  | _ => none }
def patternLiteralRow : OpenClaim := { program := "ytigmejjkmoaimaa", sum := "4ac3bc5441a831e0c1b6c3f07032f717b420e3be74a07f908dd81cada6acbc93", func := "matricula/matriculalaw17.PatternLiteral", spec := "patternLiteral", inPlace := ["internal/bytealg.IndexByteString", "internal/abi.NoEscape"], recurses := true, apart := false }
def PatternLiteralSaid : Prop := patternLiteralRow.holds Try.pinned (OpenSpec.ofChange patternLiteralSpec)

/-- ITS FALSE NEIGHBOUR: 'it returns false'. Refute it at one input. -/
def patternLiteralWrong : ChangeSpec := { name := "patternLiteral", fn := fun _ => fun
  | [d1, d2] => { results := [.lit (.bool false)], args := [d1, d2] }
  | _ => none }
def PatternLiteralWrongFalsely : Prop := patternLiteralRow.holds Try.pinned (OpenSpec.ofChange patternLiteralWrong)

/-- 'matriculalaw17.PatternStars': WHATEVER THE INPUT: true; the input reads as it did. -/
def patternStarsSpec : ChangeSpec := { name := "patternStars", fn := fun _ => fun
  | [d1, d2, d3] => { results := [.lit (.bool true)], args := [d1, d2, d3] }
  | _ => none }
def patternStarsRow : OpenClaim := { program := "ytigmejjkmoaimaa", sum := "4ac3bc5441a831e0c1b6c3f07032f717b420e3be74a07f908dd81cada6acbc93", func := "matricula/matriculalaw17.PatternStars", spec := "patternStars", inPlace := ["internal/bytealg.IndexByteString", "internal/abi.NoEscape"], recurses := true, apart := false }
def PatternStarsSaid : Prop := patternStarsRow.holds Try.pinned (OpenSpec.ofChange patternStarsSpec)

/-- ITS FALSE NEIGHBOUR: 'it returns false'. Refute it at one input. -/
def patternStarsWrong : ChangeSpec := { name := "patternStars", fn := fun _ => fun
  | [d1, d2, d3] => { results := [.lit (.bool false)], args := [d1, d2, d3] }
  | _ => none }
def PatternStarsWrongFalsely : Prop := patternStarsRow.holds Try.pinned (OpenSpec.ofChange patternStarsWrong)

/- THE SECOND FORM. 'bulk': how many values and letters a reading holds, each counted each time it is reached (what is shared counts as often as it is met; a slice's spare places count too). A statement '..UptoSaid' is the law's where the arguments, and the package variables that the reading takes, are together of bulk at most 1048576: NARROWER than '..Said'. Prove '..Said' where nothing that the law and all that it calls make is longer than what came in: it says more and counts as full. Else prove '..UptoSaid'. A law counts once. -/
mutual
def uptoBulk {H : Type} : DataW H → Nat
  | .lit (.string bytes) => bytes.length + 1
  | .lit _ => 1
  | .nil => 1
  | .ptr d => uptoBulk d + 1
  | .slice elems spare => uptoBulkAll elems + uptoBulkAll spare + 1
  | .agg parts => uptoBulkAll parts + 1
  | .iface _ d => uptoBulk d + 1
  | .map entries => uptoBulkEntries entries + 1
  | .held _ => 1
def uptoBulkAll {H : Type} : List (DataW H) → Nat
  | [] => 0
  | d :: r => uptoBulk d + uptoBulkAll r
def uptoBulkEntries {H : Type} : List (Lit × DataW H) → Nat
  | [] => 0
  | x :: r => uptoBulkEntry x + uptoBulkEntries r
def uptoBulkEntry {H : Type} : Lit × DataW H → Nat
  | (.string bytes, d) => bytes.length + uptoBulk d + 1
  | (_, d) => uptoBulk d + 1
 end
def uptoSmall : (H : Type) → List (DataW H) → Bool := fun _ ds => decide (uptoBulkAll ds ≤ 1048576)
def OpenSpec.upto (s : _root_.Go.ChangeSpec) : _root_.Go.OpenSpec := { _root_.Go.OpenSpec.ofChange s with cond := some uptoSmall }

/-- 'matriculalaw17.PatternBrackets', WHERE WHAT IT READS IS OF BULK AT MOST 1048576: true; the input reads as it did. -/
def patternBracketsUptoRow : OpenClaim := { program := "ytigmejjkmoaimaa", sum := "4ac3bc5441a831e0c1b6c3f07032f717b420e3be74a07f908dd81cada6acbc93", func := "matricula/matriculalaw17.PatternBrackets", spec := "patternBrackets", recurses := true, apart := false, narrowed := true }
def PatternBracketsUptoSaid : Prop := patternBracketsUptoRow.holds Try.pinned (OpenSpec.upto patternBracketsSpec)

/-- 'matriculalaw17.PatternSide', WHERE WHAT IT READS IS OF BULK AT MOST 1048576: true; the input reads as it did. -/
def patternSideUptoRow : OpenClaim := { program := "ytigmejjkmoaimaa", sum := "4ac3bc5441a831e0c1b6c3f07032f717b420e3be74a07f908dd81cada6acbc93", func := "matricula/matriculalaw17.PatternSide", spec := "patternSide", recurses := true, apart := false, narrowed := true }
def PatternSideUptoSaid : Prop := patternSideUptoRow.holds Try.pinned (OpenSpec.upto patternSideSpec)

/-- 'matriculalaw17.PatternReads', WHERE WHAT IT READS IS OF BULK AT MOST 1048576: true; the input reads as it did. -/
def patternReadsUptoRow : OpenClaim := { program := "ytigmejjkmoaimaa", sum := "4ac3bc5441a831e0c1b6c3f07032f717b420e3be74a07f908dd81cada6acbc93", func := "matricula/matriculalaw17.PatternReads", spec := "patternReads", recurses := true, apart := false, narrowed := true }
def PatternReadsUptoSaid : Prop := patternReadsUptoRow.holds Try.pinned (OpenSpec.upto patternReadsSpec)

/-- 'matriculalaw17.PatternMatches', WHERE WHAT IT READS IS OF BULK AT MOST 1048576: true; the input reads as it did. -/
def patternMatchesUptoRow : OpenClaim := { program := "ytigmejjkmoaimaa", sum := "4ac3bc5441a831e0c1b6c3f07032f717b420e3be74a07f908dd81cada6acbc93", func := "matricula/matriculalaw17.PatternMatches", spec := "patternMatches", recurses := true, apart := false, narrowed := true }
def PatternMatchesUptoSaid : Prop := patternMatchesUptoRow.holds Try.pinned (OpenSpec.upto patternMatchesSpec)

/-- 'matriculalaw17.PatternLiteral', WHERE WHAT IT READS IS OF BULK AT MOST 1048576: true; the input reads as it did. -/
def patternLiteralUptoRow : OpenClaim := { program := "ytigmejjkmoaimaa", sum := "4ac3bc5441a831e0c1b6c3f07032f717b420e3be74a07f908dd81cada6acbc93", func := "matricula/matriculalaw17.PatternLiteral", spec := "patternLiteral", inPlace := ["internal/bytealg.IndexByteString", "internal/abi.NoEscape"], recurses := true, apart := false, narrowed := true }
def PatternLiteralUptoSaid : Prop := patternLiteralUptoRow.holds Try.pinned (OpenSpec.upto patternLiteralSpec)

/-- 'matriculalaw17.PatternStars', WHERE WHAT IT READS IS OF BULK AT MOST 1048576: true; the input reads as it did. -/
def patternStarsUptoRow : OpenClaim := { program := "ytigmejjkmoaimaa", sum := "4ac3bc5441a831e0c1b6c3f07032f717b420e3be74a07f908dd81cada6acbc93", func := "matricula/matriculalaw17.PatternStars", spec := "patternStars", inPlace := ["internal/bytealg.IndexByteString", "internal/abi.NoEscape"], recurses := true, apart := false, narrowed := true }
def PatternStarsUptoSaid : Prop := patternStarsUptoRow.holds Try.pinned (OpenSpec.upto patternStarsSpec)

end Rows
end Go.Proofs.Ytigmejjkmoaimaa
