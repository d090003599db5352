/-
  NARROWER THAN 'FOR EVERY INPUT', by the rows' own cells (each row's printed sentence says how): ValidateCodes: laid · ValidateOnce: laid · ValidateRight: laid · ValidateTells: laid · ValidateChanges: laid · GrantOnce: laid · GrantChooses: laid · GrantPasswords: laid · GrantPlays: laid · GrantFails: laid.
  DERIVED. THE GIVEN ROWS OF THIS SEAT. 10 by the template 'for every input the law returns true; each argument reads behind the call as it read before'; 0 by the template 'total and deterministic' (their statements: YtadhiihnnkcagaaGreatDoorTotals.lean).
  GIVEN WITH THE SEED: the statements are not yours to turn. If you find one false, say at which input.
  Laid BY PROGRAM, IN A SANDBOX (cutbox-rows.mjs): the forced cells as the released guide's own fill.sh prints them over the translation 9d882d64648ceebf… (all of the seat's roots in one cut). By AI agents, Wed Nov 11 2026. No macro, syntax, notation, axiom, sorry.
-/
import Derived.Test.YtadhiihnnkcagaaGreatDoorChecked
import GoSem.PinnedTables
import GoSem.Claim
import GoSem.ClaimJoined
import GoSem.ClaimMapViews
import Derived.JoinedTies
import Derived.KernelRfl
namespace Go.Proofs.YtadhiihnnkcagaaGreatDoor
/- THE CELL 'sum', in the pinned program and in every row, IS THE sha256 OF THE DUMP (.gsa) THAT YtadhiihnnkcagaaGreatDoorProg.lean LOADS. Nothing in Lean hashes anything: it is a label: what it is worth is what the hold of that sum in a sandbox is worth. -/
noncomputable def Tryz.pinned : Pinned := { name := "ytadhiihnnkcagaagreatdoor", sum := "9d882d64648ceebfa8be117a9368b3dc162aee9ab2d1cabc21b0773ae71b6e09", checked := Tryz.checked }
namespace Rows
def none {H : Type} : Left H := { results := [], args := [] }

/- WHAT THE LISTED PACKAGE-LEVEL VARIABLES READ AS WHEN THE CALL BEGINS. Each datum BY PROGRAM (the guide's laid-datum.mjs) off the statement by which the dump's own 'gosem.cut.vars' lays the variable. In a bare row this is a premise. The card (YtadhiihnnkcagaaGreatDoorCards.lean) ties it to the program's text. -/
def laid_math_bits_deBruijn32tab {H : Type} : DataW H := .agg [.lit (.int .u8 0), .lit (.int .u8 1), .lit (.int .u8 28), .lit (.int .u8 2), .lit (.int .u8 29), .lit (.int .u8 14), .lit (.int .u8 24), .lit (.int .u8 3), .lit (.int .u8 30), .lit (.int .u8 22), .lit (.int .u8 20), .lit (.int .u8 15), .lit (.int .u8 25), .lit (.int .u8 17), .lit (.int .u8 4), .lit (.int .u8 8), .lit (.int .u8 31), .lit (.int .u8 27), .lit (.int .u8 13), .lit (.int .u8 23), .lit (.int .u8 21), .lit (.int .u8 19), .lit (.int .u8 16), .lit (.int .u8 7), .lit (.int .u8 26), .lit (.int .u8 12), .lit (.int .u8 18), .lit (.int .u8 6), .lit (.int .u8 11), .lit (.int .u8 5), .lit (.int .u8 10), .lit (.int .u8 9)]
def laid_math_bits_deBruijn64tab {H : Type} : DataW H := .agg [.lit (.int .u8 0), .lit (.int .u8 1), .lit (.int .u8 56), .lit (.int .u8 2), .lit (.int .u8 57), .lit (.int .u8 49), .lit (.int .u8 28), .lit (.int .u8 3), .lit (.int .u8 61), .lit (.int .u8 58), .lit (.int .u8 42), .lit (.int .u8 50), .lit (.int .u8 38), .lit (.int .u8 29), .lit (.int .u8 17), .lit (.int .u8 4), .lit (.int .u8 62), .lit (.int .u8 47), .lit (.int .u8 59), .lit (.int .u8 36), .lit (.int .u8 45), .lit (.int .u8 43), .lit (.int .u8 51), .lit (.int .u8 22), .lit (.int .u8 53), .lit (.int .u8 39), .lit (.int .u8 33), .lit (.int .u8 30), .lit (.int .u8 24), .lit (.int .u8 18), .lit (.int .u8 12), .lit (.int .u8 5), .lit (.int .u8 63), .lit (.int .u8 55), .lit (.int .u8 48), .lit (.int .u8 27), .lit (.int .u8 60), .lit (.int .u8 41), .lit (.int .u8 37), .lit (.int .u8 16), .lit (.int .u8 46), .lit (.int .u8 35), .lit (.int .u8 44), .lit (.int .u8 21), .lit (.int .u8 52), .lit (.int .u8 32), .lit (.int .u8 23), .lit (.int .u8 11), .lit (.int .u8 54), .lit (.int .u8 26), .lit (.int .u8 40), .lit (.int .u8 15), .lit (.int .u8 34), .lit (.int .u8 20), .lit (.int .u8 31), .lit (.int .u8 10), .lit (.int .u8 25), .lit (.int .u8 14), .lit (.int .u8 19), .lit (.int .u8 9), .lit (.int .u8 13), .lit (.int .u8 8), .lit (.int .u8 7), .lit (.int .u8 6)]
def laid_internal_strconv_uint64pow10 {H : Type} : DataW H := .agg [.lit (.int .u64 1), .lit (.int .u64 10), .lit (.int .u64 100), .lit (.int .u64 1000), .lit (.int .u64 10000), .lit (.int .u64 100000), .lit (.int .u64 1000000), .lit (.int .u64 10000000), .lit (.int .u64 100000000), .lit (.int .u64 1000000000), .lit (.int .u64 10000000000), .lit (.int .u64 100000000000), .lit (.int .u64 1000000000000), .lit (.int .u64 10000000000000), .lit (.int .u64 100000000000000), .lit (.int .u64 1000000000000000), .lit (.int .u64 10000000000000000), .lit (.int .u64 100000000000000000), .lit (.int .u64 1000000000000000000), .lit (.int .u64 10000000000000000000)]
def laid_unicode_utf8_acceptRanges {H : Type} : DataW H := .agg [.agg [.lit (.int .u8 128), .lit (.int .u8 191)], .agg [.lit (.int .u8 160), .lit (.int .u8 191)], .agg [.lit (.int .u8 128), .lit (.int .u8 159)], .agg [.lit (.int .u8 144), .lit (.int .u8 191)], .agg [.lit (.int .u8 128), .lit (.int .u8 143)], .agg [.lit (.int .u8 0), .lit (.int .u8 0)], .agg [.lit (.int .u8 0), .lit (.int .u8 0)], .agg [.lit (.int .u8 0), .lit (.int .u8 0)], .agg [.lit (.int .u8 0), .lit (.int .u8 0)], .agg [.lit (.int .u8 0), .lit (.int .u8 0)], .agg [.lit (.int .u8 0), .lit (.int .u8 0)], .agg [.lit (.int .u8 0), .lit (.int .u8 0)], .agg [.lit (.int .u8 0), .lit (.int .u8 0)], .agg [.lit (.int .u8 0), .lit (.int .u8 0)], .agg [.lit (.int .u8 0), .lit (.int .u8 0)], .agg [.lit (.int .u8 0), .lit (.int .u8 0)]]
def laid_matricula_pct_digits {H : Type} : DataW H := .agg [.lit (.int .u8 48), .lit (.int .u8 49), .lit (.int .u8 50), .lit (.int .u8 51), .lit (.int .u8 52), .lit (.int .u8 53), .lit (.int .u8 54), .lit (.int .u8 55), .lit (.int .u8 56), .lit (.int .u8 57), .lit (.int .u8 65), .lit (.int .u8 66), .lit (.int .u8 67), .lit (.int .u8 68), .lit (.int .u8 69), .lit (.int .u8 70)]
def laid_matricula_ticket_prefixes {H : Type} : DataW H := .agg [.lit (.string []), .lit (.string [84, 71, 84]), .lit (.string [83, 84]), .lit (.string [80, 84]), .lit (.string [80, 71, 84]), .lit (.string [80, 71, 84, 73, 79, 85]), .lit (.string [76, 84])]
/-- One of Go's own tables, pinned by name: the form's constant. -/
def laid_unicode_utf8_first : DataW Unit := Go.Pinned.utf8First

/-- 'matriculalaw21.ValidateCodes': WHATEVER THE INPUT: true; the input reads as it did. -/
def validateCodesSpec : ChangeSpec := { name := "validateCodes", fn := fun _ => fun
  | [d1, d2] => { results := [.lit (.bool true)], args := [d1, d2] }
  | _ => none }
def validateCodesRow : OpenClaim := { program := "ytadhiihnnkcagaagreatdoor", sum := "9d882d64648ceebfa8be117a9368b3dc162aee9ab2d1cabc21b0773ae71b6e09", func := "matricula/matriculalaw21.ValidateCodes", spec := "validateCodes", inPlace := ["math.Float64bits", "internal/bytealg.IndexByteString", "internal/bytealg.IndexString", "internal/abi.NoEscape", "internal/bytealg.CountString"], unfollowed := true, recurses := true, named := ["matricula/ticket.prefixes", "internal/bytealg.MaxLen", "matricula/pct.digits", "unicode/utf8.first", "unicode/utf8.acceptRanges", "internal/strconv.uint64pow10", "math/bits.deBruijn32tab", "math/bits.deBruijn64tab"], apart := false, laid := [("math/bits.deBruijn32tab", laid_math_bits_deBruijn32tab), ("math/bits.deBruijn64tab", laid_math_bits_deBruijn64tab), ("internal/strconv.uint64pow10", laid_internal_strconv_uint64pow10), ("unicode/utf8.acceptRanges", laid_unicode_utf8_acceptRanges), ("matricula/pct.digits", laid_matricula_pct_digits), ("matricula/ticket.prefixes", laid_matricula_ticket_prefixes), ("unicode/utf8.first", laid_unicode_utf8_first)] }
def ValidateCodesSaid : Prop := validateCodesRow.holds Tryz.pinned (OpenSpec.ofChange validateCodesSpec)

/-- ITS FALSE NEIGHBOUR: 'it returns false'. Refute it at one input. -/
def validateCodesWrong : ChangeSpec := { name := "validateCodes", fn := fun _ => fun
  | [d1, d2] => { results := [.lit (.bool false)], args := [d1, d2] }
  | _ => none }
def ValidateCodesWrongFalsely : Prop := validateCodesRow.holds Tryz.pinned (OpenSpec.ofChange validateCodesWrong)

/-- 'matriculalaw21.ValidateOnce': WHATEVER THE INPUT: true; the input reads as it did. -/
def validateOnceSpec : ChangeSpec := { name := "validateOnce", fn := fun _ => fun
  | [d1, d2, d3, d4, d5] => { results := [.lit (.bool true)], args := [d1, d2, d3, d4, d5] }
  | _ => none }
def validateOnceRow : OpenClaim := { program := "ytadhiihnnkcagaagreatdoor", sum := "9d882d64648ceebfa8be117a9368b3dc162aee9ab2d1cabc21b0773ae71b6e09", func := "matricula/matriculalaw21.ValidateOnce", spec := "validateOnce", inPlace := ["math.Float64bits", "internal/bytealg.IndexByteString", "internal/bytealg.IndexString", "internal/abi.NoEscape", "internal/bytealg.CountString"], unfollowed := true, recurses := true, named := ["matricula/ticket.prefixes", "internal/bytealg.MaxLen", "matricula/pct.digits", "unicode/utf8.first", "unicode/utf8.acceptRanges", "internal/strconv.uint64pow10", "math/bits.deBruijn32tab", "math/bits.deBruijn64tab"], apart := false, laid := [("math/bits.deBruijn32tab", laid_math_bits_deBruijn32tab), ("math/bits.deBruijn64tab", laid_math_bits_deBruijn64tab), ("internal/strconv.uint64pow10", laid_internal_strconv_uint64pow10), ("unicode/utf8.acceptRanges", laid_unicode_utf8_acceptRanges), ("matricula/pct.digits", laid_matricula_pct_digits), ("matricula/ticket.prefixes", laid_matricula_ticket_prefixes), ("unicode/utf8.first", laid_unicode_utf8_first)] }
def ValidateOnceSaid : Prop := validateOnceRow.holds Tryz.pinned (OpenSpec.ofChange validateOnceSpec)

/-- ITS FALSE NEIGHBOUR: 'it returns false'. Refute it at one input. -/
def validateOnceWrong : ChangeSpec := { name := "validateOnce", fn := fun _ => fun
  | [d1, d2, d3, d4, d5] => { results := [.lit (.bool false)], args := [d1, d2, d3, d4, d5] }
  | _ => none }
def ValidateOnceWrongFalsely : Prop := validateOnceRow.holds Tryz.pinned (OpenSpec.ofChange validateOnceWrong)

/-- 'matriculalaw21.ValidateRight': WHATEVER THE INPUT: true; the input reads as it did. -/
def validateRightSpec : ChangeSpec := { name := "validateRight", fn := fun _ => fun
  | [d1, d2, d3, d4] => { results := [.lit (.bool true)], args := [d1, d2, d3, d4] }
  | _ => none }
def validateRightRow : OpenClaim := { program := "ytadhiihnnkcagaagreatdoor", sum := "9d882d64648ceebfa8be117a9368b3dc162aee9ab2d1cabc21b0773ae71b6e09", func := "matricula/matriculalaw21.ValidateRight", spec := "validateRight", inPlace := ["math.Float64bits", "internal/bytealg.IndexByteString", "internal/bytealg.IndexString", "internal/abi.NoEscape", "internal/bytealg.CountString"], unfollowed := true, recurses := true, named := ["matricula/ticket.prefixes", "internal/bytealg.MaxLen", "matricula/pct.digits", "unicode/utf8.first", "unicode/utf8.acceptRanges", "internal/strconv.uint64pow10", "math/bits.deBruijn32tab", "math/bits.deBruijn64tab"], apart := false, laid := [("math/bits.deBruijn32tab", laid_math_bits_deBruijn32tab), ("math/bits.deBruijn64tab", laid_math_bits_deBruijn64tab), ("internal/strconv.uint64pow10", laid_internal_strconv_uint64pow10), ("unicode/utf8.acceptRanges", laid_unicode_utf8_acceptRanges), ("matricula/pct.digits", laid_matricula_pct_digits), ("matricula/ticket.prefixes", laid_matricula_ticket_prefixes), ("unicode/utf8.first", laid_unicode_utf8_first)] }
def ValidateRightSaid : Prop := validateRightRow.holds Tryz.pinned (OpenSpec.ofChange validateRightSpec)

/-- ITS FALSE NEIGHBOUR: 'it returns false'. Refute it at one input. -/
def validateRightWrong : ChangeSpec := { name := "validateRight", fn := fun _ => fun
  | [d1, d2, d3, d4] => { results := [.lit (.bool false)], args := [d1, d2, d3, d4] }
  | _ => none }
def ValidateRightWrongFalsely : Prop := validateRightRow.holds Tryz.pinned (OpenSpec.ofChange validateRightWrong)

/-- 'matriculalaw21.ValidateTells': WHATEVER THE INPUT: true; the input reads as it did. -/
def validateTellsSpec : ChangeSpec := { name := "validateTells", fn := fun _ => fun
  | [d1, d2, d3, d4, d5] => { results := [.lit (.bool true)], args := [d1, d2, d3, d4, d5] }
  | _ => none }
def validateTellsRow : OpenClaim := { program := "ytadhiihnnkcagaagreatdoor", sum := "9d882d64648ceebfa8be117a9368b3dc162aee9ab2d1cabc21b0773ae71b6e09", func := "matricula/matriculalaw21.ValidateTells", spec := "validateTells", inPlace := ["math.Float64bits", "internal/bytealg.IndexByteString", "internal/bytealg.IndexString", "internal/abi.NoEscape", "internal/bytealg.CountString"], unfollowed := true, recurses := true, named := ["matricula/ticket.prefixes", "internal/bytealg.MaxLen", "matricula/pct.digits", "unicode/utf8.first", "unicode/utf8.acceptRanges", "internal/strconv.uint64pow10", "math/bits.deBruijn32tab", "math/bits.deBruijn64tab"], apart := false, laid := [("math/bits.deBruijn32tab", laid_math_bits_deBruijn32tab), ("math/bits.deBruijn64tab", laid_math_bits_deBruijn64tab), ("internal/strconv.uint64pow10", laid_internal_strconv_uint64pow10), ("unicode/utf8.acceptRanges", laid_unicode_utf8_acceptRanges), ("matricula/pct.digits", laid_matricula_pct_digits), ("matricula/ticket.prefixes", laid_matricula_ticket_prefixes), ("unicode/utf8.first", laid_unicode_utf8_first)] }
def ValidateTellsSaid : Prop := validateTellsRow.holds Tryz.pinned (OpenSpec.ofChange validateTellsSpec)

/-- ITS FALSE NEIGHBOUR: 'it returns false'. Refute it at one input. -/
def validateTellsWrong : ChangeSpec := { name := "validateTells", fn := fun _ => fun
  | [d1, d2, d3, d4, d5] => { results := [.lit (.bool false)], args := [d1, d2, d3, d4, d5] }
  | _ => none }
def ValidateTellsWrongFalsely : Prop := validateTellsRow.holds Tryz.pinned (OpenSpec.ofChange validateTellsWrong)

/-- 'matriculalaw21.ValidateChanges': WHATEVER THE INPUT: true; the input reads as it did. -/
def validateChangesSpec : ChangeSpec := { name := "validateChanges", fn := fun _ => fun
  | [d1, d2, d3, d4] => { results := [.lit (.bool true)], args := [d1, d2, d3, d4] }
  | _ => none }
def validateChangesRow : OpenClaim := { program := "ytadhiihnnkcagaagreatdoor", sum := "9d882d64648ceebfa8be117a9368b3dc162aee9ab2d1cabc21b0773ae71b6e09", func := "matricula/matriculalaw21.ValidateChanges", spec := "validateChanges", inPlace := ["math.Float64bits", "internal/bytealg.IndexByteString", "internal/bytealg.IndexString", "internal/abi.NoEscape", "internal/bytealg.CountString"], unfollowed := true, recurses := true, named := ["matricula/ticket.prefixes", "internal/bytealg.MaxLen", "matricula/pct.digits", "unicode/utf8.first", "unicode/utf8.acceptRanges", "internal/strconv.uint64pow10", "math/bits.deBruijn32tab", "math/bits.deBruijn64tab"], apart := false, laid := [("math/bits.deBruijn32tab", laid_math_bits_deBruijn32tab), ("math/bits.deBruijn64tab", laid_math_bits_deBruijn64tab), ("internal/strconv.uint64pow10", laid_internal_strconv_uint64pow10), ("unicode/utf8.acceptRanges", laid_unicode_utf8_acceptRanges), ("matricula/pct.digits", laid_matricula_pct_digits), ("matricula/ticket.prefixes", laid_matricula_ticket_prefixes), ("unicode/utf8.first", laid_unicode_utf8_first)] }
def ValidateChangesSaid : Prop := validateChangesRow.holds Tryz.pinned (OpenSpec.ofChange validateChangesSpec)

/-- ITS FALSE NEIGHBOUR: 'it returns false'. Refute it at one input. -/
def validateChangesWrong : ChangeSpec := { name := "validateChanges", fn := fun _ => fun
  | [d1, d2, d3, d4] => { results := [.lit (.bool false)], args := [d1, d2, d3, d4] }
  | _ => none }
def ValidateChangesWrongFalsely : Prop := validateChangesRow.holds Tryz.pinned (OpenSpec.ofChange validateChangesWrong)

/-- 'matriculalaw20.GrantOnce': WHATEVER THE INPUT: true; the input reads as it did. -/
def grantOnceSpec : ChangeSpec := { name := "grantOnce", fn := fun _ => fun
  | [d1, d2, d3, d4, d5] => { results := [.lit (.bool true)], args := [d1, d2, d3, d4, d5] }
  | _ => none }
def grantOnceRow : OpenClaim := { program := "ytadhiihnnkcagaagreatdoor", sum := "9d882d64648ceebfa8be117a9368b3dc162aee9ab2d1cabc21b0773ae71b6e09", func := "matricula/matriculalaw20.GrantOnce", spec := "grantOnce", inPlace := ["math.Float64bits", "internal/bytealg.IndexByteString", "internal/bytealg.IndexString", "internal/abi.NoEscape", "internal/bytealg.CountString"], unfollowed := true, recurses := true, named := ["matricula/ticket.prefixes", "internal/bytealg.MaxLen", "matricula/pct.digits", "unicode/utf8.first", "unicode/utf8.acceptRanges", "internal/strconv.uint64pow10", "math/bits.deBruijn32tab", "math/bits.deBruijn64tab"], apart := false, laid := [("math/bits.deBruijn32tab", laid_math_bits_deBruijn32tab), ("math/bits.deBruijn64tab", laid_math_bits_deBruijn64tab), ("internal/strconv.uint64pow10", laid_internal_strconv_uint64pow10), ("unicode/utf8.acceptRanges", laid_unicode_utf8_acceptRanges), ("matricula/pct.digits", laid_matricula_pct_digits), ("matricula/ticket.prefixes", laid_matricula_ticket_prefixes), ("unicode/utf8.first", laid_unicode_utf8_first)] }
def GrantOnceSaid : Prop := grantOnceRow.holds Tryz.pinned (OpenSpec.ofChange grantOnceSpec)

/-- ITS FALSE NEIGHBOUR: 'it returns false'. Refute it at one input. -/
def grantOnceWrong : ChangeSpec := { name := "grantOnce", fn := fun _ => fun
  | [d1, d2, d3, d4, d5] => { results := [.lit (.bool false)], args := [d1, d2, d3, d4, d5] }
  | _ => none }
def GrantOnceWrongFalsely : Prop := grantOnceRow.holds Tryz.pinned (OpenSpec.ofChange grantOnceWrong)

/-- 'matriculalaw20.GrantChooses': WHATEVER THE INPUT: true; the input reads as it did. -/
def grantChoosesSpec : ChangeSpec := { name := "grantChooses", fn := fun _ => fun
  | [d1, d2, d3, d4] => { results := [.lit (.bool true)], args := [d1, d2, d3, d4] }
  | _ => none }
def grantChoosesRow : OpenClaim := { program := "ytadhiihnnkcagaagreatdoor", sum := "9d882d64648ceebfa8be117a9368b3dc162aee9ab2d1cabc21b0773ae71b6e09", func := "matricula/matriculalaw20.GrantChooses", spec := "grantChooses", inPlace := ["math.Float64bits", "internal/bytealg.IndexByteString", "internal/bytealg.IndexString", "internal/abi.NoEscape", "internal/bytealg.CountString"], unfollowed := true, recurses := true, named := ["matricula/ticket.prefixes", "internal/bytealg.MaxLen", "matricula/pct.digits", "unicode/utf8.first", "unicode/utf8.acceptRanges", "internal/strconv.uint64pow10", "math/bits.deBruijn32tab", "math/bits.deBruijn64tab"], apart := false, laid := [("math/bits.deBruijn32tab", laid_math_bits_deBruijn32tab), ("math/bits.deBruijn64tab", laid_math_bits_deBruijn64tab), ("internal/strconv.uint64pow10", laid_internal_strconv_uint64pow10), ("unicode/utf8.acceptRanges", laid_unicode_utf8_acceptRanges), ("matricula/pct.digits", laid_matricula_pct_digits), ("matricula/ticket.prefixes", laid_matricula_ticket_prefixes), ("unicode/utf8.first", laid_unicode_utf8_first)] }
def GrantChoosesSaid : Prop := grantChoosesRow.holds Tryz.pinned (OpenSpec.ofChange grantChoosesSpec)

/-- ITS FALSE NEIGHBOUR: 'it returns false'. Refute it at one input. -/
def grantChoosesWrong : ChangeSpec := { name := "grantChooses", fn := fun _ => fun
  | [d1, d2, d3, d4] => { results := [.lit (.bool false)], args := [d1, d2, d3, d4] }
  | _ => none }
def GrantChoosesWrongFalsely : Prop := grantChoosesRow.holds Tryz.pinned (OpenSpec.ofChange grantChoosesWrong)

/-- 'matriculalaw20.GrantPasswords': WHATEVER THE INPUT: true; the input reads as it did. -/
def grantPasswordsSpec : ChangeSpec := { name := "grantPasswords", fn := fun _ => fun
  | [d1, d2] => { results := [.lit (.bool true)], args := [d1, d2] }
  | _ => none }
def grantPasswordsRow : OpenClaim := { program := "ytadhiihnnkcagaagreatdoor", sum := "9d882d64648ceebfa8be117a9368b3dc162aee9ab2d1cabc21b0773ae71b6e09", func := "matricula/matriculalaw20.GrantPasswords", spec := "grantPasswords", inPlace := ["math.Float64bits", "internal/bytealg.IndexByteString", "internal/bytealg.IndexString", "internal/abi.NoEscape", "internal/bytealg.CountString"], unfollowed := true, recurses := true, named := ["matricula/ticket.prefixes", "internal/bytealg.MaxLen", "matricula/pct.digits", "unicode/utf8.first", "unicode/utf8.acceptRanges", "internal/strconv.uint64pow10", "math/bits.deBruijn32tab", "math/bits.deBruijn64tab"], apart := false, laid := [("math/bits.deBruijn32tab", laid_math_bits_deBruijn32tab), ("math/bits.deBruijn64tab", laid_math_bits_deBruijn64tab), ("internal/strconv.uint64pow10", laid_internal_strconv_uint64pow10), ("unicode/utf8.acceptRanges", laid_unicode_utf8_acceptRanges), ("matricula/pct.digits", laid_matricula_pct_digits), ("matricula/ticket.prefixes", laid_matricula_ticket_prefixes), ("unicode/utf8.first", laid_unicode_utf8_first)] }
def GrantPasswordsSaid : Prop := grantPasswordsRow.holds Tryz.pinned (OpenSpec.ofChange grantPasswordsSpec)

/-- ITS FALSE NEIGHBOUR: 'it returns false'. Refute it at one input. -/
def grantPasswordsWrong : ChangeSpec := { name := "grantPasswords", fn := fun _ => fun
  | [d1, d2] => { results := [.lit (.bool false)], args := [d1, d2] }
  | _ => none }
def GrantPasswordsWrongFalsely : Prop := grantPasswordsRow.holds Tryz.pinned (OpenSpec.ofChange grantPasswordsWrong)

/-- 'matriculalaw20.GrantPlays': WHATEVER THE INPUT: true; the input reads as it did. -/
def grantPlaysSpec : ChangeSpec := { name := "grantPlays", fn := fun _ => fun
  | [d1, d2] => { results := [.lit (.bool true)], args := [d1, d2] }
  | _ => none }
def grantPlaysRow : OpenClaim := { program := "ytadhiihnnkcagaagreatdoor", sum := "9d882d64648ceebfa8be117a9368b3dc162aee9ab2d1cabc21b0773ae71b6e09", func := "matricula/matriculalaw20.GrantPlays", spec := "grantPlays", inPlace := ["math.Float64bits", "internal/bytealg.IndexByteString", "internal/bytealg.IndexString", "internal/abi.NoEscape", "internal/bytealg.CountString"], unfollowed := true, recurses := true, named := ["matricula/ticket.prefixes", "internal/bytealg.MaxLen", "matricula/pct.digits", "unicode/utf8.first", "unicode/utf8.acceptRanges", "internal/strconv.uint64pow10", "math/bits.deBruijn32tab", "math/bits.deBruijn64tab"], apart := false, laid := [("math/bits.deBruijn32tab", laid_math_bits_deBruijn32tab), ("math/bits.deBruijn64tab", laid_math_bits_deBruijn64tab), ("internal/strconv.uint64pow10", laid_internal_strconv_uint64pow10), ("unicode/utf8.acceptRanges", laid_unicode_utf8_acceptRanges), ("matricula/pct.digits", laid_matricula_pct_digits), ("matricula/ticket.prefixes", laid_matricula_ticket_prefixes), ("unicode/utf8.first", laid_unicode_utf8_first)] }
def GrantPlaysSaid : Prop := grantPlaysRow.holds Tryz.pinned (OpenSpec.ofChange grantPlaysSpec)

/-- ITS FALSE NEIGHBOUR: 'it returns false'. Refute it at one input. -/
def grantPlaysWrong : ChangeSpec := { name := "grantPlays", fn := fun _ => fun
  | [d1, d2] => { results := [.lit (.bool false)], args := [d1, d2] }
  | _ => none }
def GrantPlaysWrongFalsely : Prop := grantPlaysRow.holds Tryz.pinned (OpenSpec.ofChange grantPlaysWrong)

/-- 'matriculalaw20.GrantFails': WHATEVER THE INPUT: true; the input reads as it did. -/
def grantFailsSpec : ChangeSpec := { name := "grantFails", fn := fun _ => fun
  | [d1, d2, d3] => { results := [.lit (.bool true)], args := [d1, d2, d3] }
  | _ => none }
def grantFailsRow : OpenClaim := { program := "ytadhiihnnkcagaagreatdoor", sum := "9d882d64648ceebfa8be117a9368b3dc162aee9ab2d1cabc21b0773ae71b6e09", func := "matricula/matriculalaw20.GrantFails", spec := "grantFails", inPlace := ["math.Float64bits", "internal/bytealg.IndexByteString", "internal/bytealg.IndexString", "internal/abi.NoEscape", "internal/bytealg.CountString"], unfollowed := true, recurses := true, named := ["matricula/ticket.prefixes", "internal/bytealg.MaxLen", "matricula/pct.digits", "unicode/utf8.first", "unicode/utf8.acceptRanges", "internal/strconv.uint64pow10", "math/bits.deBruijn32tab", "math/bits.deBruijn64tab"], apart := false, laid := [("math/bits.deBruijn32tab", laid_math_bits_deBruijn32tab), ("math/bits.deBruijn64tab", laid_math_bits_deBruijn64tab), ("internal/strconv.uint64pow10", laid_internal_strconv_uint64pow10), ("unicode/utf8.acceptRanges", laid_unicode_utf8_acceptRanges), ("matricula/pct.digits", laid_matricula_pct_digits), ("matricula/ticket.prefixes", laid_matricula_ticket_prefixes), ("unicode/utf8.first", laid_unicode_utf8_first)] }
def GrantFailsSaid : Prop := grantFailsRow.holds Tryz.pinned (OpenSpec.ofChange grantFailsSpec)

/-- ITS FALSE NEIGHBOUR: 'it returns false'. Refute it at one input. -/
def grantFailsWrong : ChangeSpec := { name := "grantFails", fn := fun _ => fun
  | [d1, d2, d3] => { results := [.lit (.bool false)], args := [d1, d2, d3] }
  | _ => none }
def GrantFailsWrongFalsely : Prop := grantFailsRow.holds Tryz.pinned (OpenSpec.ofChange grantFailsWrong)

/- THE SECOND FORM. 'bulk': how many values and letters a reading holds, each counted each time it is reached (what is shared counts as often as it is met; a slice's spare places count too). A statement '..UptoSaid' is the law's where the arguments, and the package variables that the reading takes, are together of bulk at most 1048576: NARROWER than '..Said'. Prove '..Said' where nothing that the law and all that it calls make is longer than what came in: it says more and counts as full. Else prove '..UptoSaid'. A law counts once. -/
mutual
def uptoBulk {H : Type} : DataW H → Nat
  | .lit (.string bytes) => bytes.length + 1
  | .lit _ => 1
  | .nil => 1
  | .ptr d => uptoBulk d + 1
  | .slice elems spare => uptoBulkAll elems + uptoBulkAll spare + 1
  | .agg parts => uptoBulkAll parts + 1
  | .iface _ d => uptoBulk d + 1
  | .map entries => uptoBulkEntries entries + 1
  | .held _ => 1
def uptoBulkAll {H : Type} : List (DataW H) → Nat
  | [] => 0
  | d :: r => uptoBulk d + uptoBulkAll r
def uptoBulkEntries {H : Type} : List (Lit × DataW H) → Nat
  | [] => 0
  | x :: r => uptoBulkEntry x + uptoBulkEntries r
def uptoBulkEntry {H : Type} : Lit × DataW H → Nat
  | (.string bytes, d) => bytes.length + uptoBulk d + 1
  | (_, d) => uptoBulk d + 1
 end
def uptoSmall : (H : Type) → List (DataW H) → Bool := fun _ ds => decide (uptoBulkAll ds ≤ 1048576)
def OpenSpec.upto (s : _root_.Go.ChangeSpec) : _root_.Go.OpenSpec := { _root_.Go.OpenSpec.ofChange s with cond := some uptoSmall }

/-- 'matriculalaw21.ValidateCodes', WHERE WHAT IT READS IS OF BULK AT MOST 1048576: true; the input reads as it did. -/
def validateCodesUptoRow : OpenClaim := { program := "ytadhiihnnkcagaagreatdoor", sum := "9d882d64648ceebfa8be117a9368b3dc162aee9ab2d1cabc21b0773ae71b6e09", func := "matricula/matriculalaw21.ValidateCodes", spec := "validateCodes", inPlace := ["math.Float64bits", "internal/bytealg.IndexByteString", "internal/bytealg.IndexString", "internal/abi.NoEscape", "internal/bytealg.CountString"], unfollowed := true, recurses := true, named := ["matricula/ticket.prefixes", "internal/bytealg.MaxLen", "matricula/pct.digits", "unicode/utf8.first", "unicode/utf8.acceptRanges", "internal/strconv.uint64pow10", "math/bits.deBruijn32tab", "math/bits.deBruijn64tab"], apart := false, laid := [("math/bits.deBruijn32tab", laid_math_bits_deBruijn32tab), ("math/bits.deBruijn64tab", laid_math_bits_deBruijn64tab), ("internal/strconv.uint64pow10", laid_internal_strconv_uint64pow10), ("unicode/utf8.acceptRanges", laid_unicode_utf8_acceptRanges), ("matricula/pct.digits", laid_matricula_pct_digits), ("matricula/ticket.prefixes", laid_matricula_ticket_prefixes), ("unicode/utf8.first", laid_unicode_utf8_first)], narrowed := true }
def ValidateCodesUptoSaid : Prop := validateCodesUptoRow.holds Tryz.pinned (OpenSpec.upto validateCodesSpec)

/-- 'matriculalaw21.ValidateOnce', WHERE WHAT IT READS IS OF BULK AT MOST 1048576: true; the input reads as it did. -/
def validateOnceUptoRow : OpenClaim := { program := "ytadhiihnnkcagaagreatdoor", sum := "9d882d64648ceebfa8be117a9368b3dc162aee9ab2d1cabc21b0773ae71b6e09", func := "matricula/matriculalaw21.ValidateOnce", spec := "validateOnce", inPlace := ["math.Float64bits", "internal/bytealg.IndexByteString", "internal/bytealg.IndexString", "internal/abi.NoEscape", "internal/bytealg.CountString"], unfollowed := true, recurses := true, named := ["matricula/ticket.prefixes", "internal/bytealg.MaxLen", "matricula/pct.digits", "unicode/utf8.first", "unicode/utf8.acceptRanges", "internal/strconv.uint64pow10", "math/bits.deBruijn32tab", "math/bits.deBruijn64tab"], apart := false, laid := [("math/bits.deBruijn32tab", laid_math_bits_deBruijn32tab), ("math/bits.deBruijn64tab", laid_math_bits_deBruijn64tab), ("internal/strconv.uint64pow10", laid_internal_strconv_uint64pow10), ("unicode/utf8.acceptRanges", laid_unicode_utf8_acceptRanges), ("matricula/pct.digits", laid_matricula_pct_digits), ("matricula/ticket.prefixes", laid_matricula_ticket_prefixes), ("unicode/utf8.first", laid_unicode_utf8_first)], narrowed := true }
def ValidateOnceUptoSaid : Prop := validateOnceUptoRow.holds Tryz.pinned (OpenSpec.upto validateOnceSpec)

/-- 'matriculalaw21.ValidateRight', WHERE WHAT IT READS IS OF BULK AT MOST 1048576: true; the input reads as it did. -/
def validateRightUptoRow : OpenClaim := { program := "ytadhiihnnkcagaagreatdoor", sum := "9d882d64648ceebfa8be117a9368b3dc162aee9ab2d1cabc21b0773ae71b6e09", func := "matricula/matriculalaw21.ValidateRight", spec := "validateRight", inPlace := ["math.Float64bits", "internal/bytealg.IndexByteString", "internal/bytealg.IndexString", "internal/abi.NoEscape", "internal/bytealg.CountString"], unfollowed := true, recurses := true, named := ["matricula/ticket.prefixes", "internal/bytealg.MaxLen", "matricula/pct.digits", "unicode/utf8.first", "unicode/utf8.acceptRanges", "internal/strconv.uint64pow10", "math/bits.deBruijn32tab", "math/bits.deBruijn64tab"], apart := false, laid := [("math/bits.deBruijn32tab", laid_math_bits_deBruijn32tab), ("math/bits.deBruijn64tab", laid_math_bits_deBruijn64tab), ("internal/strconv.uint64pow10", laid_internal_strconv_uint64pow10), ("unicode/utf8.acceptRanges", laid_unicode_utf8_acceptRanges), ("matricula/pct.digits", laid_matricula_pct_digits), ("matricula/ticket.prefixes", laid_matricula_ticket_prefixes), ("unicode/utf8.first", laid_unicode_utf8_first)], narrowed := true }
def ValidateRightUptoSaid : Prop := validateRightUptoRow.holds Tryz.pinned (OpenSpec.upto validateRightSpec)

/-- 'matriculalaw21.ValidateTells', WHERE WHAT IT READS IS OF BULK AT MOST 1048576: true; the input reads as it did. -/
def validateTellsUptoRow : OpenClaim := { program := "ytadhiihnnkcagaagreatdoor", sum := "9d882d64648ceebfa8be117a9368b3dc162aee9ab2d1cabc21b0773ae71b6e09", func := "matricula/matriculalaw21.ValidateTells", spec := "validateTells", inPlace := ["math.Float64bits", "internal/bytealg.IndexByteString", "internal/bytealg.IndexString", "internal/abi.NoEscape", "internal/bytealg.CountString"], unfollowed := true, recurses := true, named := ["matricula/ticket.prefixes", "internal/bytealg.MaxLen", "matricula/pct.digits", "unicode/utf8.first", "unicode/utf8.acceptRanges", "internal/strconv.uint64pow10", "math/bits.deBruijn32tab", "math/bits.deBruijn64tab"], apart := false, laid := [("math/bits.deBruijn32tab", laid_math_bits_deBruijn32tab), ("math/bits.deBruijn64tab", laid_math_bits_deBruijn64tab), ("internal/strconv.uint64pow10", laid_internal_strconv_uint64pow10), ("unicode/utf8.acceptRanges", laid_unicode_utf8_acceptRanges), ("matricula/pct.digits", laid_matricula_pct_digits), ("matricula/ticket.prefixes", laid_matricula_ticket_prefixes), ("unicode/utf8.first", laid_unicode_utf8_first)], narrowed := true }
def ValidateTellsUptoSaid : Prop := validateTellsUptoRow.holds Tryz.pinned (OpenSpec.upto validateTellsSpec)

/-- 'matriculalaw21.ValidateChanges', WHERE WHAT IT READS IS OF BULK AT MOST 1048576: true; the input reads as it did. -/
def validateChangesUptoRow : OpenClaim := { program := "ytadhiihnnkcagaagreatdoor", sum := "9d882d64648ceebfa8be117a9368b3dc162aee9ab2d1cabc21b0773ae71b6e09", func := "matricula/matriculalaw21.ValidateChanges", spec := "validateChanges", inPlace := ["math.Float64bits", "internal/bytealg.IndexByteString", "internal/bytealg.IndexString", "internal/abi.NoEscape", "internal/bytealg.CountString"], unfollowed := true, recurses := true, named := ["matricula/ticket.prefixes", "internal/bytealg.MaxLen", "matricula/pct.digits", "unicode/utf8.first", "unicode/utf8.acceptRanges", "internal/strconv.uint64pow10", "math/bits.deBruijn32tab", "math/bits.deBruijn64tab"], apart := false, laid := [("math/bits.deBruijn32tab", laid_math_bits_deBruijn32tab), ("math/bits.deBruijn64tab", laid_math_bits_deBruijn64tab), ("internal/strconv.uint64pow10", laid_internal_strconv_uint64pow10), ("unicode/utf8.acceptRanges", laid_unicode_utf8_acceptRanges), ("matricula/pct.digits", laid_matricula_pct_digits), ("matricula/ticket.prefixes", laid_matricula_ticket_prefixes), ("unicode/utf8.first", laid_unicode_utf8_first)], narrowed := true }
def ValidateChangesUptoSaid : Prop := validateChangesUptoRow.holds Tryz.pinned (OpenSpec.upto validateChangesSpec)

/-- 'matriculalaw20.GrantOnce', WHERE WHAT IT READS IS OF BULK AT MOST 1048576: true; the input reads as it did. -/
def grantOnceUptoRow : OpenClaim := { program := "ytadhiihnnkcagaagreatdoor", sum := "9d882d64648ceebfa8be117a9368b3dc162aee9ab2d1cabc21b0773ae71b6e09", func := "matricula/matriculalaw20.GrantOnce", spec := "grantOnce", inPlace := ["math.Float64bits", "internal/bytealg.IndexByteString", "internal/bytealg.IndexString", "internal/abi.NoEscape", "internal/bytealg.CountString"], unfollowed := true, recurses := true, named := ["matricula/ticket.prefixes", "internal/bytealg.MaxLen", "matricula/pct.digits", "unicode/utf8.first", "unicode/utf8.acceptRanges", "internal/strconv.uint64pow10", "math/bits.deBruijn32tab", "math/bits.deBruijn64tab"], apart := false, laid := [("math/bits.deBruijn32tab", laid_math_bits_deBruijn32tab), ("math/bits.deBruijn64tab", laid_math_bits_deBruijn64tab), ("internal/strconv.uint64pow10", laid_internal_strconv_uint64pow10), ("unicode/utf8.acceptRanges", laid_unicode_utf8_acceptRanges), ("matricula/pct.digits", laid_matricula_pct_digits), ("matricula/ticket.prefixes", laid_matricula_ticket_prefixes), ("unicode/utf8.first", laid_unicode_utf8_first)], narrowed := true }
def GrantOnceUptoSaid : Prop := grantOnceUptoRow.holds Tryz.pinned (OpenSpec.upto grantOnceSpec)

/-- 'matriculalaw20.GrantChooses', WHERE WHAT IT READS IS OF BULK AT MOST 1048576: true; the input reads as it did. -/
def grantChoosesUptoRow : OpenClaim := { program := "ytadhiihnnkcagaagreatdoor", sum := "9d882d64648ceebfa8be117a9368b3dc162aee9ab2d1cabc21b0773ae71b6e09", func := "matricula/matriculalaw20.GrantChooses", spec := "grantChooses", inPlace := ["math.Float64bits", "internal/bytealg.IndexByteString", "internal/bytealg.IndexString", "internal/abi.NoEscape", "internal/bytealg.CountString"], unfollowed := true, recurses := true, named := ["matricula/ticket.prefixes", "internal/bytealg.MaxLen", "matricula/pct.digits", "unicode/utf8.first", "unicode/utf8.acceptRanges", "internal/strconv.uint64pow10", "math/bits.deBruijn32tab", "math/bits.deBruijn64tab"], apart := false, laid := [("math/bits.deBruijn32tab", laid_math_bits_deBruijn32tab), ("math/bits.deBruijn64tab", laid_math_bits_deBruijn64tab), ("internal/strconv.uint64pow10", laid_internal_strconv_uint64pow10), ("unicode/utf8.acceptRanges", laid_unicode_utf8_acceptRanges), ("matricula/pct.digits", laid_matricula_pct_digits), ("matricula/ticket.prefixes", laid_matricula_ticket_prefixes), ("unicode/utf8.first", laid_unicode_utf8_first)], narrowed := true }
def GrantChoosesUptoSaid : Prop := grantChoosesUptoRow.holds Tryz.pinned (OpenSpec.upto grantChoosesSpec)

/-- 'matriculalaw20.GrantPasswords', WHERE WHAT IT READS IS OF BULK AT MOST 1048576: true; the input reads as it did. -/
def grantPasswordsUptoRow : OpenClaim := { program := "ytadhiihnnkcagaagreatdoor", sum := "9d882d64648ceebfa8be117a9368b3dc162aee9ab2d1cabc21b0773ae71b6e09", func := "matricula/matriculalaw20.GrantPasswords", spec := "grantPasswords", inPlace := ["math.Float64bits", "internal/bytealg.IndexByteString", "internal/bytealg.IndexString", "internal/abi.NoEscape", "internal/bytealg.CountString"], unfollowed := true, recurses := true, named := ["matricula/ticket.prefixes", "internal/bytealg.MaxLen", "matricula/pct.digits", "unicode/utf8.first", "unicode/utf8.acceptRanges", "internal/strconv.uint64pow10", "math/bits.deBruijn32tab", "math/bits.deBruijn64tab"], apart := false, laid := [("math/bits.deBruijn32tab", laid_math_bits_deBruijn32tab), ("math/bits.deBruijn64tab", laid_math_bits_deBruijn64tab), ("internal/strconv.uint64pow10", laid_internal_strconv_uint64pow10), ("unicode/utf8.acceptRanges", laid_unicode_utf8_acceptRanges), ("matricula/pct.digits", laid_matricula_pct_digits), ("matricula/ticket.prefixes", laid_matricula_ticket_prefixes), ("unicode/utf8.first", laid_unicode_utf8_first)], narrowed := true }
def GrantPasswordsUptoSaid : Prop := grantPasswordsUptoRow.holds Tryz.pinned (OpenSpec.upto grantPasswordsSpec)

/-- 'matriculalaw20.GrantPlays', WHERE WHAT IT READS IS OF BULK AT MOST 1048576: true; the input reads as it did. -/
def grantPlaysUptoRow : OpenClaim := { program := "ytadhiihnnkcagaagreatdoor", sum := "9d882d64648ceebfa8be117a9368b3dc162aee9ab2d1cabc21b0773ae71b6e09", func := "matricula/matriculalaw20.GrantPlays", spec := "grantPlays", inPlace := ["math.Float64bits", "internal/bytealg.IndexByteString", "internal/bytealg.IndexString", "internal/abi.NoEscape", "internal/bytealg.CountString"], unfollowed := true, recurses := true, named := ["matricula/ticket.prefixes", "internal/bytealg.MaxLen", "matricula/pct.digits", "unicode/utf8.first", "unicode/utf8.acceptRanges", "internal/strconv.uint64pow10", "math/bits.deBruijn32tab", "math/bits.deBruijn64tab"], apart := false, laid := [("math/bits.deBruijn32tab", laid_math_bits_deBruijn32tab), ("math/bits.deBruijn64tab", laid_math_bits_deBruijn64tab), ("internal/strconv.uint64pow10", laid_internal_strconv_uint64pow10), ("unicode/utf8.acceptRanges", laid_unicode_utf8_acceptRanges), ("matricula/pct.digits", laid_matricula_pct_digits), ("matricula/ticket.prefixes", laid_matricula_ticket_prefixes), ("unicode/utf8.first", laid_unicode_utf8_first)], narrowed := true }
def GrantPlaysUptoSaid : Prop := grantPlaysUptoRow.holds Tryz.pinned (OpenSpec.upto grantPlaysSpec)

/-- 'matriculalaw20.GrantFails', WHERE WHAT IT READS IS OF BULK AT MOST 1048576: true; the input reads as it did. -/
def grantFailsUptoRow : OpenClaim := { program := "ytadhiihnnkcagaagreatdoor", sum := "9d882d64648ceebfa8be117a9368b3dc162aee9ab2d1cabc21b0773ae71b6e09", func := "matricula/matriculalaw20.GrantFails", spec := "grantFails", inPlace := ["math.Float64bits", "internal/bytealg.IndexByteString", "internal/bytealg.IndexString", "internal/abi.NoEscape", "internal/bytealg.CountString"], unfollowed := true, recurses := true, named := ["matricula/ticket.prefixes", "internal/bytealg.MaxLen", "matricula/pct.digits", "unicode/utf8.first", "unicode/utf8.acceptRanges", "internal/strconv.uint64pow10", "math/bits.deBruijn32tab", "math/bits.deBruijn64tab"], apart := false, laid := [("math/bits.deBruijn32tab", laid_math_bits_deBruijn32tab), ("math/bits.deBruijn64tab", laid_math_bits_deBruijn64tab), ("internal/strconv.uint64pow10", laid_internal_strconv_uint64pow10), ("unicode/utf8.acceptRanges", laid_unicode_utf8_acceptRanges), ("matricula/pct.digits", laid_matricula_pct_digits), ("matricula/ticket.prefixes", laid_matricula_ticket_prefixes), ("unicode/utf8.first", laid_unicode_utf8_first)], narrowed := true }
def GrantFailsUptoSaid : Prop := grantFailsUptoRow.holds Tryz.pinned (OpenSpec.upto grantFailsSpec)

end Rows
end Go.Proofs.YtadhiihnnkcagaaGreatDoor
