/-
  NARROWER THAN 'FOR EVERY INPUT', by the rows' own cells (each row's printed sentence says how): LogoutPlays: laid · LogoutCodes: laid · LogoutBack: laid · LogoutEnds: laid · LogoutTold: laid.
  DERIVED. THE GIVEN ROWS OF THIS SEAT. 5 by the template 'for every input the law returns true; each argument reads behind the call as it read before'; 0 by the template 'total and deterministic' (their statements: YtbciobiiejpdgaaGreatDoorTotals.lean).
  GIVEN WITH THE SEED: the statements are not yours to turn. If you find one false, say at which input.
  Laid BY PROGRAM, IN A SANDBOX (cutbox-rows.mjs): the forced cells as the released guide's own fill.sh prints them over the translation dc3d311e616778ac… (all of the seat's roots in one cut). By AI agents, Wed Nov 11 2026. No macro, syntax, notation, axiom, sorry.
-/
import Derived.Test.YtbciobiiejpdgaaGreatDoorChecked
import GoSem.PinnedTables
import GoSem.Claim
import GoSem.ClaimJoined
import GoSem.ClaimMapViews
import Derived.JoinedTies
import Derived.KernelRfl
namespace Go.Proofs.YtbciobiiejpdgaaGreatDoor
/- THE CELL 'sum', in the pinned program and in every row, IS THE sha256 OF THE DUMP (.gsa) THAT YtbciobiiejpdgaaGreatDoorProg.lean LOADS. Nothing in Lean hashes anything: it is a label: what it is worth is what the hold of that sum in a sandbox is worth. -/
noncomputable def Tryz.pinned : Pinned := { name := "ytbciobiiejpdgaagreatdoor", sum := "dc3d311e616778acdf8dca8217ea47ee11fdfd857c53130a50244bef82d09acb", checked := Tryz.checked }
namespace Rows
def none {H : Type} : Left H := { results := [], args := [] }

/- WHAT THE LISTED PACKAGE-LEVEL VARIABLES READ AS WHEN THE CALL BEGINS. Each datum BY PROGRAM (the guide's laid-datum.mjs) off the statement by which the dump's own 'gosem.cut.vars' lays the variable. In a bare row this is a premise. The card (YtbciobiiejpdgaaGreatDoorCards.lean) ties it to the program's text. -/
def laid_math_bits_deBruijn32tab {H : Type} : DataW H := .agg [.lit (.int .u8 0), .lit (.int .u8 1), .lit (.int .u8 28), .lit (.int .u8 2), .lit (.int .u8 29), .lit (.int .u8 14), .lit (.int .u8 24), .lit (.int .u8 3), .lit (.int .u8 30), .lit (.int .u8 22), .lit (.int .u8 20), .lit (.int .u8 15), .lit (.int .u8 25), .lit (.int .u8 17), .lit (.int .u8 4), .lit (.int .u8 8), .lit (.int .u8 31), .lit (.int .u8 27), .lit (.int .u8 13), .lit (.int .u8 23), .lit (.int .u8 21), .lit (.int .u8 19), .lit (.int .u8 16), .lit (.int .u8 7), .lit (.int .u8 26), .lit (.int .u8 12), .lit (.int .u8 18), .lit (.int .u8 6), .lit (.int .u8 11), .lit (.int .u8 5), .lit (.int .u8 10), .lit (.int .u8 9)]
def laid_math_bits_deBruijn64tab {H : Type} : DataW H := .agg [.lit (.int .u8 0), .lit (.int .u8 1), .lit (.int .u8 56), .lit (.int .u8 2), .lit (.int .u8 57), .lit (.int .u8 49), .lit (.int .u8 28), .lit (.int .u8 3), .lit (.int .u8 61), .lit (.int .u8 58), .lit (.int .u8 42), .lit (.int .u8 50), .lit (.int .u8 38), .lit (.int .u8 29), .lit (.int .u8 17), .lit (.int .u8 4), .lit (.int .u8 62), .lit (.int .u8 47), .lit (.int .u8 59), .lit (.int .u8 36), .lit (.int .u8 45), .lit (.int .u8 43), .lit (.int .u8 51), .lit (.int .u8 22), .lit (.int .u8 53), .lit (.int .u8 39), .lit (.int .u8 33), .lit (.int .u8 30), .lit (.int .u8 24), .lit (.int .u8 18), .lit (.int .u8 12), .lit (.int .u8 5), .lit (.int .u8 63), .lit (.int .u8 55), .lit (.int .u8 48), .lit (.int .u8 27), .lit (.int .u8 60), .lit (.int .u8 41), .lit (.int .u8 37), .lit (.int .u8 16), .lit (.int .u8 46), .lit (.int .u8 35), .lit (.int .u8 44), .lit (.int .u8 21), .lit (.int .u8 52), .lit (.int .u8 32), .lit (.int .u8 23), .lit (.int .u8 11), .lit (.int .u8 54), .lit (.int .u8 26), .lit (.int .u8 40), .lit (.int .u8 15), .lit (.int .u8 34), .lit (.int .u8 20), .lit (.int .u8 31), .lit (.int .u8 10), .lit (.int .u8 25), .lit (.int .u8 14), .lit (.int .u8 19), .lit (.int .u8 9), .lit (.int .u8 13), .lit (.int .u8 8), .lit (.int .u8 7), .lit (.int .u8 6)]
def laid_internal_strconv_uint64pow10 {H : Type} : DataW H := .agg [.lit (.int .u64 1), .lit (.int .u64 10), .lit (.int .u64 100), .lit (.int .u64 1000), .lit (.int .u64 10000), .lit (.int .u64 100000), .lit (.int .u64 1000000), .lit (.int .u64 10000000), .lit (.int .u64 100000000), .lit (.int .u64 1000000000), .lit (.int .u64 10000000000), .lit (.int .u64 100000000000), .lit (.int .u64 1000000000000), .lit (.int .u64 10000000000000), .lit (.int .u64 100000000000000), .lit (.int .u64 1000000000000000), .lit (.int .u64 10000000000000000), .lit (.int .u64 100000000000000000), .lit (.int .u64 1000000000000000000), .lit (.int .u64 10000000000000000000)]
def laid_unicode_utf8_acceptRanges {H : Type} : DataW H := .agg [.agg [.lit (.int .u8 128), .lit (.int .u8 191)], .agg [.lit (.int .u8 160), .lit (.int .u8 191)], .agg [.lit (.int .u8 128), .lit (.int .u8 159)], .agg [.lit (.int .u8 144), .lit (.int .u8 191)], .agg [.lit (.int .u8 128), .lit (.int .u8 143)], .agg [.lit (.int .u8 0), .lit (.int .u8 0)], .agg [.lit (.int .u8 0), .lit (.int .u8 0)], .agg [.lit (.int .u8 0), .lit (.int .u8 0)], .agg [.lit (.int .u8 0), .lit (.int .u8 0)], .agg [.lit (.int .u8 0), .lit (.int .u8 0)], .agg [.lit (.int .u8 0), .lit (.int .u8 0)], .agg [.lit (.int .u8 0), .lit (.int .u8 0)], .agg [.lit (.int .u8 0), .lit (.int .u8 0)], .agg [.lit (.int .u8 0), .lit (.int .u8 0)], .agg [.lit (.int .u8 0), .lit (.int .u8 0)], .agg [.lit (.int .u8 0), .lit (.int .u8 0)]]
def laid_strconv_ErrRange {H : Type} : DataW H := .iface "*errors.errorString" (.ptr (.agg [.lit (.string [118, 97, 108, 117, 101, 32, 111, 117, 116, 32, 111, 102, 32, 114, 97, 110, 103, 101])]))
def laid_strconv_ErrSyntax {H : Type} : DataW H := .iface "*errors.errorString" (.ptr (.agg [.lit (.string [105, 110, 118, 97, 108, 105, 100, 32, 115, 121, 110, 116, 97, 120])]))
def laid_matricula_ticket_prefixes {H : Type} : DataW H := .agg [.lit (.string []), .lit (.string [84, 71, 84]), .lit (.string [83, 84]), .lit (.string [80, 84]), .lit (.string [80, 71, 84]), .lit (.string [80, 71, 84, 73, 79, 85]), .lit (.string [76, 84])]
def laid_matricula_xml_marks {H : Type} : DataW H := .agg [.agg [.lit (.string [38]), .lit (.string [38, 97, 109, 112, 59])], .agg [.lit (.string [60]), .lit (.string [38, 108, 116, 59])], .agg [.lit (.string [62]), .lit (.string [38, 103, 116, 59])], .agg [.lit (.string [34]), .lit (.string [38, 113, 117, 111, 116, 59])], .agg [.lit (.string [39]), .lit (.string [38, 35, 51, 57, 59])]]
/-- One of Go's own tables, pinned by name: the form's constant. -/
def laid_unicode_utf8_first : DataW Unit := Go.Pinned.utf8First
def laid_matricula_pct_digits {H : Type} : DataW H := .agg [.lit (.int .u8 48), .lit (.int .u8 49), .lit (.int .u8 50), .lit (.int .u8 51), .lit (.int .u8 52), .lit (.int .u8 53), .lit (.int .u8 54), .lit (.int .u8 55), .lit (.int .u8 56), .lit (.int .u8 57), .lit (.int .u8 65), .lit (.int .u8 66), .lit (.int .u8 67), .lit (.int .u8 68), .lit (.int .u8 69), .lit (.int .u8 70)]

/-- 'matriculalaw23.LogoutPlays': WHATEVER THE INPUT: true; the input reads as it did. -/
def logoutPlaysSpec : ChangeSpec := { name := "logoutPlays", fn := fun _ => fun
  | [d1, d2, d3] => { results := [.lit (.bool true)], args := [d1, d2, d3] }
  | _ => none }
def logoutPlaysRow : OpenClaim := { program := "ytbciobiiejpdgaagreatdoor", sum := "dc3d311e616778acdf8dca8217ea47ee11fdfd857c53130a50244bef82d09acb", func := "matricula/matriculalaw23.LogoutPlays", spec := "logoutPlays", inPlace := ["internal/bytealg.IndexByteString", "internal/bytealg.IndexString", "math.archCeil", "math.archFloor", "math.Float64bits", "math.Float64frombits", "math.archTrunc", "internal/abi.NoEscape", "internal/bytealg.CountString", "internal/bytealg.MakeNoZero"], unfollowed := true, recurses := true, named := ["matricula/ticket.prefixes", "internal/bytealg.MaxLen", "internal/strconv.uint64pow10", "math/bits.deBruijn32tab", "math/bits.deBruijn64tab", "matricula/xml.marks", "unicode/utf8.first", "unicode/utf8.acceptRanges", "strconv.ErrSyntax", "strconv.ErrRange"], apart := false, laid := [("math/bits.deBruijn32tab", laid_math_bits_deBruijn32tab), ("math/bits.deBruijn64tab", laid_math_bits_deBruijn64tab), ("internal/strconv.uint64pow10", laid_internal_strconv_uint64pow10), ("unicode/utf8.acceptRanges", laid_unicode_utf8_acceptRanges), ("strconv.ErrRange", laid_strconv_ErrRange), ("strconv.ErrSyntax", laid_strconv_ErrSyntax), ("matricula/ticket.prefixes", laid_matricula_ticket_prefixes), ("matricula/xml.marks", laid_matricula_xml_marks), ("unicode/utf8.first", laid_unicode_utf8_first)] }
def LogoutPlaysSaid : Prop := logoutPlaysRow.holds Tryz.pinned (OpenSpec.ofChange logoutPlaysSpec)

/-- ITS FALSE NEIGHBOUR: 'it returns false'. Refute it at one input. -/
def logoutPlaysWrong : ChangeSpec := { name := "logoutPlays", fn := fun _ => fun
  | [d1, d2, d3] => { results := [.lit (.bool false)], args := [d1, d2, d3] }
  | _ => none }
def LogoutPlaysWrongFalsely : Prop := logoutPlaysRow.holds Tryz.pinned (OpenSpec.ofChange logoutPlaysWrong)

/-- 'matriculalaw23.LogoutCodes': WHATEVER THE INPUT: true; the input reads as it did. -/
def logoutCodesSpec : ChangeSpec := { name := "logoutCodes", fn := fun _ => fun
  | [d1, d2, d3] => { results := [.lit (.bool true)], args := [d1, d2, d3] }
  | _ => none }
def logoutCodesRow : OpenClaim := { program := "ytbciobiiejpdgaagreatdoor", sum := "dc3d311e616778acdf8dca8217ea47ee11fdfd857c53130a50244bef82d09acb", func := "matricula/matriculalaw23.LogoutCodes", spec := "logoutCodes", inPlace := ["internal/bytealg.IndexByteString", "internal/bytealg.IndexString", "math.archCeil", "math.archFloor", "math.Float64bits", "math.Float64frombits", "math.archTrunc", "internal/abi.NoEscape", "internal/bytealg.CountString", "internal/bytealg.MakeNoZero"], unfollowed := true, recurses := true, named := ["matricula/ticket.prefixes", "internal/bytealg.MaxLen", "internal/strconv.uint64pow10", "math/bits.deBruijn32tab", "math/bits.deBruijn64tab", "matricula/xml.marks", "unicode/utf8.first", "unicode/utf8.acceptRanges", "strconv.ErrSyntax", "strconv.ErrRange"], apart := false, laid := [("math/bits.deBruijn32tab", laid_math_bits_deBruijn32tab), ("math/bits.deBruijn64tab", laid_math_bits_deBruijn64tab), ("internal/strconv.uint64pow10", laid_internal_strconv_uint64pow10), ("unicode/utf8.acceptRanges", laid_unicode_utf8_acceptRanges), ("strconv.ErrRange", laid_strconv_ErrRange), ("strconv.ErrSyntax", laid_strconv_ErrSyntax), ("matricula/ticket.prefixes", laid_matricula_ticket_prefixes), ("matricula/xml.marks", laid_matricula_xml_marks), ("unicode/utf8.first", laid_unicode_utf8_first)] }
def LogoutCodesSaid : Prop := logoutCodesRow.holds Tryz.pinned (OpenSpec.ofChange logoutCodesSpec)

/-- ITS FALSE NEIGHBOUR: 'it returns false'. Refute it at one input. -/
def logoutCodesWrong : ChangeSpec := { name := "logoutCodes", fn := fun _ => fun
  | [d1, d2, d3] => { results := [.lit (.bool false)], args := [d1, d2, d3] }
  | _ => none }
def LogoutCodesWrongFalsely : Prop := logoutCodesRow.holds Tryz.pinned (OpenSpec.ofChange logoutCodesWrong)

/-- 'matriculalaw23.LogoutBack': WHATEVER THE INPUT: true; the input reads as it did. -/
def logoutBackSpec : ChangeSpec := { name := "logoutBack", fn := fun _ => fun
  | [d1, d2, d3] => { results := [.lit (.bool true)], args := [d1, d2, d3] }
  | _ => none }
def logoutBackRow : OpenClaim := { program := "ytbciobiiejpdgaagreatdoor", sum := "dc3d311e616778acdf8dca8217ea47ee11fdfd857c53130a50244bef82d09acb", func := "matricula/matriculalaw23.LogoutBack", spec := "logoutBack", inPlace := ["internal/bytealg.IndexByteString", "internal/bytealg.IndexString", "math.archCeil", "math.archFloor", "math.Float64bits", "math.Float64frombits", "math.archTrunc", "internal/abi.NoEscape", "internal/bytealg.CountString", "internal/bytealg.MakeNoZero"], unfollowed := true, recurses := true, named := ["matricula/ticket.prefixes", "internal/bytealg.MaxLen", "internal/strconv.uint64pow10", "math/bits.deBruijn32tab", "math/bits.deBruijn64tab", "matricula/xml.marks", "unicode/utf8.first", "unicode/utf8.acceptRanges", "strconv.ErrSyntax", "strconv.ErrRange"], apart := false, laid := [("math/bits.deBruijn32tab", laid_math_bits_deBruijn32tab), ("math/bits.deBruijn64tab", laid_math_bits_deBruijn64tab), ("internal/strconv.uint64pow10", laid_internal_strconv_uint64pow10), ("unicode/utf8.acceptRanges", laid_unicode_utf8_acceptRanges), ("strconv.ErrRange", laid_strconv_ErrRange), ("strconv.ErrSyntax", laid_strconv_ErrSyntax), ("matricula/ticket.prefixes", laid_matricula_ticket_prefixes), ("matricula/xml.marks", laid_matricula_xml_marks), ("unicode/utf8.first", laid_unicode_utf8_first)] }
def LogoutBackSaid : Prop := logoutBackRow.holds Tryz.pinned (OpenSpec.ofChange logoutBackSpec)

/-- ITS FALSE NEIGHBOUR: 'it returns false'. Refute it at one input. -/
def logoutBackWrong : ChangeSpec := { name := "logoutBack", fn := fun _ => fun
  | [d1, d2, d3] => { results := [.lit (.bool false)], args := [d1, d2, d3] }
  | _ => none }
def LogoutBackWrongFalsely : Prop := logoutBackRow.holds Tryz.pinned (OpenSpec.ofChange logoutBackWrong)

/-- 'matriculalaw23.LogoutEnds': WHATEVER THE INPUT: true; the input reads as it did. -/
def logoutEndsSpec : ChangeSpec := { name := "logoutEnds", fn := fun _ => fun
  | [d1, d2, d3, d4] => { results := [.lit (.bool true)], args := [d1, d2, d3, d4] }
  | _ => none }
def logoutEndsRow : OpenClaim := { program := "ytbciobiiejpdgaagreatdoor", sum := "dc3d311e616778acdf8dca8217ea47ee11fdfd857c53130a50244bef82d09acb", func := "matricula/matriculalaw23.LogoutEnds", spec := "logoutEnds", inPlace := ["internal/bytealg.IndexByteString", "internal/bytealg.IndexString", "math.archCeil", "math.archFloor", "math.Float64bits", "math.Float64frombits", "math.archTrunc", "internal/abi.NoEscape", "internal/bytealg.CountString", "internal/bytealg.MakeNoZero"], unfollowed := true, recurses := true, named := ["matricula/ticket.prefixes", "internal/bytealg.MaxLen", "internal/strconv.uint64pow10", "math/bits.deBruijn32tab", "math/bits.deBruijn64tab", "matricula/xml.marks", "unicode/utf8.first", "unicode/utf8.acceptRanges", "strconv.ErrSyntax", "strconv.ErrRange", "matricula/pct.digits"], apart := false, laid := [("math/bits.deBruijn32tab", laid_math_bits_deBruijn32tab), ("math/bits.deBruijn64tab", laid_math_bits_deBruijn64tab), ("internal/strconv.uint64pow10", laid_internal_strconv_uint64pow10), ("unicode/utf8.acceptRanges", laid_unicode_utf8_acceptRanges), ("strconv.ErrRange", laid_strconv_ErrRange), ("strconv.ErrSyntax", laid_strconv_ErrSyntax), ("matricula/pct.digits", laid_matricula_pct_digits), ("matricula/ticket.prefixes", laid_matricula_ticket_prefixes), ("matricula/xml.marks", laid_matricula_xml_marks), ("unicode/utf8.first", laid_unicode_utf8_first)] }
def LogoutEndsSaid : Prop := logoutEndsRow.holds Tryz.pinned (OpenSpec.ofChange logoutEndsSpec)

/-- ITS FALSE NEIGHBOUR: 'it returns false'. Refute it at one input. -/
def logoutEndsWrong : ChangeSpec := { name := "logoutEnds", fn := fun _ => fun
  | [d1, d2, d3, d4] => { results := [.lit (.bool false)], args := [d1, d2, d3, d4] }
  | _ => none }
def LogoutEndsWrongFalsely : Prop := logoutEndsRow.holds Tryz.pinned (OpenSpec.ofChange logoutEndsWrong)

/-- 'matriculalaw23.LogoutTold': WHATEVER THE INPUT: true; the input reads as it did. -/
def logoutToldSpec : ChangeSpec := { name := "logoutTold", fn := fun _ => fun
  | [d1, d2, d3] => { results := [.lit (.bool true)], args := [d1, d2, d3] }
  | _ => none }
def logoutToldRow : OpenClaim := { program := "ytbciobiiejpdgaagreatdoor", sum := "dc3d311e616778acdf8dca8217ea47ee11fdfd857c53130a50244bef82d09acb", func := "matricula/matriculalaw23.LogoutTold", spec := "logoutTold", inPlace := ["internal/bytealg.IndexByteString", "internal/bytealg.IndexString", "math.archCeil", "math.archFloor", "math.Float64bits", "math.Float64frombits", "math.archTrunc", "internal/abi.NoEscape", "internal/bytealg.CountString", "internal/bytealg.MakeNoZero"], unfollowed := true, recurses := true, named := ["matricula/ticket.prefixes", "internal/bytealg.MaxLen", "internal/strconv.uint64pow10", "math/bits.deBruijn32tab", "math/bits.deBruijn64tab", "matricula/xml.marks", "unicode/utf8.first", "unicode/utf8.acceptRanges", "strconv.ErrSyntax", "strconv.ErrRange", "matricula/pct.digits"], apart := false, laid := [("math/bits.deBruijn32tab", laid_math_bits_deBruijn32tab), ("math/bits.deBruijn64tab", laid_math_bits_deBruijn64tab), ("internal/strconv.uint64pow10", laid_internal_strconv_uint64pow10), ("unicode/utf8.acceptRanges", laid_unicode_utf8_acceptRanges), ("strconv.ErrRange", laid_strconv_ErrRange), ("strconv.ErrSyntax", laid_strconv_ErrSyntax), ("matricula/pct.digits", laid_matricula_pct_digits), ("matricula/ticket.prefixes", laid_matricula_ticket_prefixes), ("matricula/xml.marks", laid_matricula_xml_marks), ("unicode/utf8.first", laid_unicode_utf8_first)] }
def LogoutToldSaid : Prop := logoutToldRow.holds Tryz.pinned (OpenSpec.ofChange logoutToldSpec)

/-- ITS FALSE NEIGHBOUR: 'it returns false'. Refute it at one input. -/
def logoutToldWrong : ChangeSpec := { name := "logoutTold", fn := fun _ => fun
  | [d1, d2, d3] => { results := [.lit (.bool false)], args := [d1, d2, d3] }
  | _ => none }
def LogoutToldWrongFalsely : Prop := logoutToldRow.holds Tryz.pinned (OpenSpec.ofChange logoutToldWrong)

/- THE SECOND FORM. 'bulk': how many values and letters a reading holds, each counted each time it is reached (what is shared counts as often as it is met; a slice's spare places count too). A statement '..UptoSaid' is the law's where the arguments, and the package variables that the reading takes, are together of bulk at most 1048576: NARROWER than '..Said'. Prove '..Said' where nothing that the law and all that it calls make is longer than what came in: it says more and counts as full. Else prove '..UptoSaid'. A law counts once. -/
mutual
def uptoBulk {H : Type} : DataW H → Nat
  | .lit (.string bytes) => bytes.length + 1
  | .lit _ => 1
  | .nil => 1
  | .ptr d => uptoBulk d + 1
  | .slice elems spare => uptoBulkAll elems + uptoBulkAll spare + 1
  | .agg parts => uptoBulkAll parts + 1
  | .iface _ d => uptoBulk d + 1
  | .map entries => uptoBulkEntries entries + 1
  | .held _ => 1
def uptoBulkAll {H : Type} : List (DataW H) → Nat
  | [] => 0
  | d :: r => uptoBulk d + uptoBulkAll r
def uptoBulkEntries {H : Type} : List (Lit × DataW H) → Nat
  | [] => 0
  | x :: r => uptoBulkEntry x + uptoBulkEntries r
def uptoBulkEntry {H : Type} : Lit × DataW H → Nat
  | (.string bytes, d) => bytes.length + uptoBulk d + 1
  | (_, d) => uptoBulk d + 1
 end
def uptoSmall : (H : Type) → List (DataW H) → Bool := fun _ ds => decide (uptoBulkAll ds ≤ 1048576)
def OpenSpec.upto (s : _root_.Go.ChangeSpec) : _root_.Go.OpenSpec := { _root_.Go.OpenSpec.ofChange s with cond := some uptoSmall }

/-- 'matriculalaw23.LogoutPlays', WHERE WHAT IT READS IS OF BULK AT MOST 1048576: true; the input reads as it did. -/
def logoutPlaysUptoRow : OpenClaim := { program := "ytbciobiiejpdgaagreatdoor", sum := "dc3d311e616778acdf8dca8217ea47ee11fdfd857c53130a50244bef82d09acb", func := "matricula/matriculalaw23.LogoutPlays", spec := "logoutPlays", inPlace := ["internal/bytealg.IndexByteString", "internal/bytealg.IndexString", "math.archCeil", "math.archFloor", "math.Float64bits", "math.Float64frombits", "math.archTrunc", "internal/abi.NoEscape", "internal/bytealg.CountString", "internal/bytealg.MakeNoZero"], unfollowed := true, recurses := true, named := ["matricula/ticket.prefixes", "internal/bytealg.MaxLen", "internal/strconv.uint64pow10", "math/bits.deBruijn32tab", "math/bits.deBruijn64tab", "matricula/xml.marks", "unicode/utf8.first", "unicode/utf8.acceptRanges", "strconv.ErrSyntax", "strconv.ErrRange"], apart := false, laid := [("math/bits.deBruijn32tab", laid_math_bits_deBruijn32tab), ("math/bits.deBruijn64tab", laid_math_bits_deBruijn64tab), ("internal/strconv.uint64pow10", laid_internal_strconv_uint64pow10), ("unicode/utf8.acceptRanges", laid_unicode_utf8_acceptRanges), ("strconv.ErrRange", laid_strconv_ErrRange), ("strconv.ErrSyntax", laid_strconv_ErrSyntax), ("matricula/ticket.prefixes", laid_matricula_ticket_prefixes), ("matricula/xml.marks", laid_matricula_xml_marks), ("unicode/utf8.first", laid_unicode_utf8_first)], narrowed := true }
def LogoutPlaysUptoSaid : Prop := logoutPlaysUptoRow.holds Tryz.pinned (OpenSpec.upto logoutPlaysSpec)

/-- 'matriculalaw23.LogoutCodes', WHERE WHAT IT READS IS OF BULK AT MOST 1048576: true; the input reads as it did. -/
def logoutCodesUptoRow : OpenClaim := { program := "ytbciobiiejpdgaagreatdoor", sum := "dc3d311e616778acdf8dca8217ea47ee11fdfd857c53130a50244bef82d09acb", func := "matricula/matriculalaw23.LogoutCodes", spec := "logoutCodes", inPlace := ["internal/bytealg.IndexByteString", "internal/bytealg.IndexString", "math.archCeil", "math.archFloor", "math.Float64bits", "math.Float64frombits", "math.archTrunc", "internal/abi.NoEscape", "internal/bytealg.CountString", "internal/bytealg.MakeNoZero"], unfollowed := true, recurses := true, named := ["matricula/ticket.prefixes", "internal/bytealg.MaxLen", "internal/strconv.uint64pow10", "math/bits.deBruijn32tab", "math/bits.deBruijn64tab", "matricula/xml.marks", "unicode/utf8.first", "unicode/utf8.acceptRanges", "strconv.ErrSyntax", "strconv.ErrRange"], apart := false, laid := [("math/bits.deBruijn32tab", laid_math_bits_deBruijn32tab), ("math/bits.deBruijn64tab", laid_math_bits_deBruijn64tab), ("internal/strconv.uint64pow10", laid_internal_strconv_uint64pow10), ("unicode/utf8.acceptRanges", laid_unicode_utf8_acceptRanges), ("strconv.ErrRange", laid_strconv_ErrRange), ("strconv.ErrSyntax", laid_strconv_ErrSyntax), ("matricula/ticket.prefixes", laid_matricula_ticket_prefixes), ("matricula/xml.marks", laid_matricula_xml_marks), ("unicode/utf8.first", laid_unicode_utf8_first)], narrowed := true }
def LogoutCodesUptoSaid : Prop := logoutCodesUptoRow.holds Tryz.pinned (OpenSpec.upto logoutCodesSpec)

/-- 'matriculalaw23.LogoutBack', WHERE WHAT IT READS IS OF BULK AT MOST 1048576: true; the input reads as it did. -/
def logoutBackUptoRow : OpenClaim := { program := "ytbciobiiejpdgaagreatdoor", sum := "dc3d311e616778acdf8dca8217ea47ee11fdfd857c53130a50244bef82d09acb", func := "matricula/matriculalaw23.LogoutBack", spec := "logoutBack", inPlace := ["internal/bytealg.IndexByteString", "internal/bytealg.IndexString", "math.archCeil", "math.archFloor", "math.Float64bits", "math.Float64frombits", "math.archTrunc", "internal/abi.NoEscape", "internal/bytealg.CountString", "internal/bytealg.MakeNoZero"], unfollowed := true, recurses := true, named := ["matricula/ticket.prefixes", "internal/bytealg.MaxLen", "internal/strconv.uint64pow10", "math/bits.deBruijn32tab", "math/bits.deBruijn64tab", "matricula/xml.marks", "unicode/utf8.first", "unicode/utf8.acceptRanges", "strconv.ErrSyntax", "strconv.ErrRange"], apart := false, laid := [("math/bits.deBruijn32tab", laid_math_bits_deBruijn32tab), ("math/bits.deBruijn64tab", laid_math_bits_deBruijn64tab), ("internal/strconv.uint64pow10", laid_internal_strconv_uint64pow10), ("unicode/utf8.acceptRanges", laid_unicode_utf8_acceptRanges), ("strconv.ErrRange", laid_strconv_ErrRange), ("strconv.ErrSyntax", laid_strconv_ErrSyntax), ("matricula/ticket.prefixes", laid_matricula_ticket_prefixes), ("matricula/xml.marks", laid_matricula_xml_marks), ("unicode/utf8.first", laid_unicode_utf8_first)], narrowed := true }
def LogoutBackUptoSaid : Prop := logoutBackUptoRow.holds Tryz.pinned (OpenSpec.upto logoutBackSpec)

/-- 'matriculalaw23.LogoutEnds', WHERE WHAT IT READS IS OF BULK AT MOST 1048576: true; the input reads as it did. -/
def logoutEndsUptoRow : OpenClaim := { program := "ytbciobiiejpdgaagreatdoor", sum := "dc3d311e616778acdf8dca8217ea47ee11fdfd857c53130a50244bef82d09acb", func := "matricula/matriculalaw23.LogoutEnds", spec := "logoutEnds", inPlace := ["internal/bytealg.IndexByteString", "internal/bytealg.IndexString", "math.archCeil", "math.archFloor", "math.Float64bits", "math.Float64frombits", "math.archTrunc", "internal/abi.NoEscape", "internal/bytealg.CountString", "internal/bytealg.MakeNoZero"], unfollowed := true, recurses := true, named := ["matricula/ticket.prefixes", "internal/bytealg.MaxLen", "internal/strconv.uint64pow10", "math/bits.deBruijn32tab", "math/bits.deBruijn64tab", "matricula/xml.marks", "unicode/utf8.first", "unicode/utf8.acceptRanges", "strconv.ErrSyntax", "strconv.ErrRange", "matricula/pct.digits"], apart := false, laid := [("math/bits.deBruijn32tab", laid_math_bits_deBruijn32tab), ("math/bits.deBruijn64tab", laid_math_bits_deBruijn64tab), ("internal/strconv.uint64pow10", laid_internal_strconv_uint64pow10), ("unicode/utf8.acceptRanges", laid_unicode_utf8_acceptRanges), ("strconv.ErrRange", laid_strconv_ErrRange), ("strconv.ErrSyntax", laid_strconv_ErrSyntax), ("matricula/pct.digits", laid_matricula_pct_digits), ("matricula/ticket.prefixes", laid_matricula_ticket_prefixes), ("matricula/xml.marks", laid_matricula_xml_marks), ("unicode/utf8.first", laid_unicode_utf8_first)], narrowed := true }
def LogoutEndsUptoSaid : Prop := logoutEndsUptoRow.holds Tryz.pinned (OpenSpec.upto logoutEndsSpec)

/-- 'matriculalaw23.LogoutTold', WHERE WHAT IT READS IS OF BULK AT MOST 1048576: true; the input reads as it did. -/
def logoutToldUptoRow : OpenClaim := { program := "ytbciobiiejpdgaagreatdoor", sum := "dc3d311e616778acdf8dca8217ea47ee11fdfd857c53130a50244bef82d09acb", func := "matricula/matriculalaw23.LogoutTold", spec := "logoutTold", inPlace := ["internal/bytealg.IndexByteString", "internal/bytealg.IndexString", "math.archCeil", "math.archFloor", "math.Float64bits", "math.Float64frombits", "math.archTrunc", "internal/abi.NoEscape", "internal/bytealg.CountString", "internal/bytealg.MakeNoZero"], unfollowed := true, recurses := true, named := ["matricula/ticket.prefixes", "internal/bytealg.MaxLen", "internal/strconv.uint64pow10", "math/bits.deBruijn32tab", "math/bits.deBruijn64tab", "matricula/xml.marks", "unicode/utf8.first", "unicode/utf8.acceptRanges", "strconv.ErrSyntax", "strconv.ErrRange", "matricula/pct.digits"], apart := false, laid := [("math/bits.deBruijn32tab", laid_math_bits_deBruijn32tab), ("math/bits.deBruijn64tab", laid_math_bits_deBruijn64tab), ("internal/strconv.uint64pow10", laid_internal_strconv_uint64pow10), ("unicode/utf8.acceptRanges", laid_unicode_utf8_acceptRanges), ("strconv.ErrRange", laid_strconv_ErrRange), ("strconv.ErrSyntax", laid_strconv_ErrSyntax), ("matricula/pct.digits", laid_matricula_pct_digits), ("matricula/ticket.prefixes", laid_matricula_ticket_prefixes), ("matricula/xml.marks", laid_matricula_xml_marks), ("unicode/utf8.first", laid_unicode_utf8_first)], narrowed := true }
def LogoutToldUptoSaid : Prop := logoutToldUptoRow.holds Tryz.pinned (OpenSpec.upto logoutToldSpec)

end Rows
end Go.Proofs.YtbciobiiejpdgaaGreatDoor
