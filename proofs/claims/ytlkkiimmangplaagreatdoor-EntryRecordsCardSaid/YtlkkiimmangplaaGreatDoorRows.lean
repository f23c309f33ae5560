/-
  NARROWER THAN 'FOR EVERY INPUT', by the rows' own cells (each row's printed sentence says how): GenerationNumbers: laid · GenerationSeveral: laid · GenerationKeeps: laid · GenerationGreatest: laid · GenerationRelative: laid · TopAccess: laid · GenerationRolls: laid · GenerationLimits: laid · EntryForms: laid · EntryRecords: laid · EntryDecodes: laid · EntryReturns: laid · EntryStrict: laid · EntryKeys: laid · EntryCuts: laid · AccessLevels: laid · AccessNeeds: laid · AccessChecks: laid · AccessErrors: laid · AccessPersons: laid · RebuildNotes: laid · RebuildReturns: laid · RebuildCompares: laid.
  DERIVED. THE GIVEN ROWS OF THIS SEAT. 23 by the template 'for every input the law returns true; each argument reads behind the call as it read before'; 0 by the template 'total and deterministic' (their statements: YtlkkiimmangplaaGreatDoorTotals.lean).
  GIVEN WITH THE SEED: the statements are not yours to turn. If you find one false, say at which input.
  Laid BY PROGRAM, IN A SANDBOX (cutbox-rows.mjs): the forced cells as the released guide's own fill.sh prints them over the translation 43b61295c2f17292… (all of the seat's roots in one cut). By AI agents, Wed Nov 11 2026. No macro, syntax, notation, axiom, sorry.
-/
import Derived.Test.YtlkkiimmangplaaGreatDoorChecked
import GoSem.PinnedTables
import GoSem.Claim
import GoSem.ClaimJoined
import GoSem.ClaimMapViews
import Derived.JoinedTies
import Derived.KernelRfl
namespace Go.Proofs.YtlkkiimmangplaaGreatDoor
/- THE CELL 'sum', in the pinned program and in every row, IS THE sha256 OF THE DUMP (.gsa) THAT YtlkkiimmangplaaGreatDoorProg.lean LOADS. Nothing in Lean hashes anything: it is a label: what it is worth is what the hold of that sum in a sandbox is worth. -/
noncomputable def Tryz.pinned : Pinned := { name := "ytlkkiimmangplaagreatdoor", sum := "43b61295c2f17292446cb7e3e8f1f2690d14c5a3cb2fb22296542307a3b61a2e", checked := Tryz.checked }
namespace Rows
def none {H : Type} : Left H := { results := [], args := [] }

/- WHAT THE LISTED PACKAGE-LEVEL VARIABLES READ AS WHEN THE CALL BEGINS. Each datum BY PROGRAM (the guide's laid-datum.mjs) off the statement by which the dump's own 'gosem.cut.vars' lays the variable. In a bare row this is a premise. The card (YtlkkiimmangplaaGreatDoorCards.lean) ties it to the program's text. -/
def laid_math_bits_deBruijn32tab {H : Type} : DataW H := .agg [.lit (.int .u8 0), .lit (.int .u8 1), .lit (.int .u8 28), .lit (.int .u8 2), .lit (.int .u8 29), .lit (.int .u8 14), .lit (.int .u8 24), .lit (.int .u8 3), .lit (.int .u8 30), .lit (.int .u8 22), .lit (.int .u8 20), .lit (.int .u8 15), .lit (.int .u8 25), .lit (.int .u8 17), .lit (.int .u8 4), .lit (.int .u8 8), .lit (.int .u8 31), .lit (.int .u8 27), .lit (.int .u8 13), .lit (.int .u8 23), .lit (.int .u8 21), .lit (.int .u8 19), .lit (.int .u8 16), .lit (.int .u8 7), .lit (.int .u8 26), .lit (.int .u8 12), .lit (.int .u8 18), .lit (.int .u8 6), .lit (.int .u8 11), .lit (.int .u8 5), .lit (.int .u8 10), .lit (.int .u8 9)]
def laid_math_bits_deBruijn64tab {H : Type} : DataW H := .agg [.lit (.int .u8 0), .lit (.int .u8 1), .lit (.int .u8 56), .lit (.int .u8 2), .lit (.int .u8 57), .lit (.int .u8 49), .lit (.int .u8 28), .lit (.int .u8 3), .lit (.int .u8 61), .lit (.int .u8 58), .lit (.int .u8 42), .lit (.int .u8 50), .lit (.int .u8 38), .lit (.int .u8 29), .lit (.int .u8 17), .lit (.int .u8 4), .lit (.int .u8 62), .lit (.int .u8 47), .lit (.int .u8 59), .lit (.int .u8 36), .lit (.int .u8 45), .lit (.int .u8 43), .lit (.int .u8 51), .lit (.int .u8 22), .lit (.int .u8 53), .lit (.int .u8 39), .lit (.int .u8 33), .lit (.int .u8 30), .lit (.int .u8 24), .lit (.int .u8 18), .lit (.int .u8 12), .lit (.int .u8 5), .lit (.int .u8 63), .lit (.int .u8 55), .lit (.int .u8 48), .lit (.int .u8 27), .lit (.int .u8 60), .lit (.int .u8 41), .lit (.int .u8 37), .lit (.int .u8 16), .lit (.int .u8 46), .lit (.int .u8 35), .lit (.int .u8 44), .lit (.int .u8 21), .lit (.int .u8 52), .lit (.int .u8 32), .lit (.int .u8 23), .lit (.int .u8 11), .lit (.int .u8 54), .lit (.int .u8 26), .lit (.int .u8 40), .lit (.int .u8 15), .lit (.int .u8 34), .lit (.int .u8 20), .lit (.int .u8 31), .lit (.int .u8 10), .lit (.int .u8 25), .lit (.int .u8 14), .lit (.int .u8 19), .lit (.int .u8 9), .lit (.int .u8 13), .lit (.int .u8 8), .lit (.int .u8 7), .lit (.int .u8 6)]
def laid_internal_strconv_uint64pow10 {H : Type} : DataW H := .agg [.lit (.int .u64 1), .lit (.int .u64 10), .lit (.int .u64 100), .lit (.int .u64 1000), .lit (.int .u64 10000), .lit (.int .u64 100000), .lit (.int .u64 1000000), .lit (.int .u64 10000000), .lit (.int .u64 100000000), .lit (.int .u64 1000000000), .lit (.int .u64 10000000000), .lit (.int .u64 100000000000), .lit (.int .u64 1000000000000), .lit (.int .u64 10000000000000), .lit (.int .u64 100000000000000), .lit (.int .u64 1000000000000000), .lit (.int .u64 10000000000000000), .lit (.int .u64 100000000000000000), .lit (.int .u64 1000000000000000000), .lit (.int .u64 10000000000000000000)]
def laid_unicode_utf8_acceptRanges {H : Type} : DataW H := .agg [.agg [.lit (.int .u8 128), .lit (.int .u8 191)], .agg [.lit (.int .u8 160), .lit (.int .u8 191)], .agg [.lit (.int .u8 128), .lit (.int .u8 159)], .agg [.lit (.int .u8 144), .lit (.int .u8 191)], .agg [.lit (.int .u8 128), .lit (.int .u8 143)], .agg [.lit (.int .u8 0), .lit (.int .u8 0)], .agg [.lit (.int .u8 0), .lit (.int .u8 0)], .agg [.lit (.int .u8 0), .lit (.int .u8 0)], .agg [.lit (.int .u8 0), .lit (.int .u8 0)], .agg [.lit (.int .u8 0), .lit (.int .u8 0)], .agg [.lit (.int .u8 0), .lit (.int .u8 0)], .agg [.lit (.int .u8 0), .lit (.int .u8 0)], .agg [.lit (.int .u8 0), .lit (.int .u8 0)], .agg [.lit (.int .u8 0), .lit (.int .u8 0)], .agg [.lit (.int .u8 0), .lit (.int .u8 0)], .agg [.lit (.int .u8 0), .lit (.int .u8 0)]]
/-- One of Go's own tables, pinned by name: the form's constant. -/
def laid_unicode_utf8_first : DataW Unit := Go.Pinned.utf8First

/-- 'dasdlaw38.GenerationNumbers': WHATEVER THE INPUT: true; the input reads as it did. -/
def generationNumbersSpec : ChangeSpec := { name := "generationNumbers", fn := fun _ => fun
  | [d1, d2] => { results := [.lit (.bool true)], args := [d1, d2] }
  | _ => none }
def generationNumbersRow : OpenClaim := { program := "ytlkkiimmangplaagreatdoor", sum := "43b61295c2f17292446cb7e3e8f1f2690d14c5a3cb2fb22296542307a3b61a2e", func := "dasd/dasdlaw38.GenerationNumbers", spec := "generationNumbers", inPlace := ["internal/bytealg.CountString", "internal/bytealg.IndexByteString", "internal/bytealg.IndexString"], unfollowed := true, recurses := true, named := ["unicode/utf8.first", "unicode/utf8.acceptRanges", "internal/bytealg.MaxLen", "internal/strconv.uint64pow10", "math/bits.deBruijn32tab", "math/bits.deBruijn64tab"], plainKeys := false, apart := false, laid := [("math/bits.deBruijn32tab", laid_math_bits_deBruijn32tab), ("math/bits.deBruijn64tab", laid_math_bits_deBruijn64tab), ("internal/strconv.uint64pow10", laid_internal_strconv_uint64pow10), ("unicode/utf8.acceptRanges", laid_unicode_utf8_acceptRanges), ("unicode/utf8.first", laid_unicode_utf8_first)] }
def GenerationNumbersSaid : Prop := generationNumbersRow.holds Tryz.pinned (OpenSpec.ofChange generationNumbersSpec)

/-- ITS FALSE NEIGHBOUR: 'it returns false'. Refute it at one input. -/
def generationNumbersWrong : ChangeSpec := { name := "generationNumbers", fn := fun _ => fun
  | [d1, d2] => { results := [.lit (.bool false)], args := [d1, d2] }
  | _ => none }
def GenerationNumbersWrongFalsely : Prop := generationNumbersRow.holds Tryz.pinned (OpenSpec.ofChange generationNumbersWrong)

/-- 'dasdlaw38.GenerationSeveral': WHATEVER THE INPUT: true; the input reads as it did. -/
def generationSeveralSpec : ChangeSpec := { name := "generationSeveral", fn := fun _ => fun
  | [d1, d2, d3] => { results := [.lit (.bool true)], args := [d1, d2, d3] }
  | _ => none }
def generationSeveralRow : OpenClaim := { program := "ytlkkiimmangplaagreatdoor", sum := "43b61295c2f17292446cb7e3e8f1f2690d14c5a3cb2fb22296542307a3b61a2e", func := "dasd/dasdlaw38.GenerationSeveral", spec := "generationSeveral", inPlace := ["internal/bytealg.CountString", "internal/bytealg.IndexByteString", "internal/bytealg.IndexString"], unfollowed := true, recurses := true, named := ["unicode/utf8.first", "unicode/utf8.acceptRanges", "internal/bytealg.MaxLen", "internal/strconv.uint64pow10", "math/bits.deBruijn32tab", "math/bits.deBruijn64tab"], plainKeys := false, apart := false, laid := [("math/bits.deBruijn32tab", laid_math_bits_deBruijn32tab), ("math/bits.deBruijn64tab", laid_math_bits_deBruijn64tab), ("internal/strconv.uint64pow10", laid_internal_strconv_uint64pow10), ("unicode/utf8.acceptRanges", laid_unicode_utf8_acceptRanges), ("unicode/utf8.first", laid_unicode_utf8_first)] }
def GenerationSeveralSaid : Prop := generationSeveralRow.holds Tryz.pinned (OpenSpec.ofChange generationSeveralSpec)

/-- ITS FALSE NEIGHBOUR: 'it returns false'. Refute it at one input. -/
def generationSeveralWrong : ChangeSpec := { name := "generationSeveral", fn := fun _ => fun
  | [d1, d2, d3] => { results := [.lit (.bool false)], args := [d1, d2, d3] }
  | _ => none }
def GenerationSeveralWrongFalsely : Prop := generationSeveralRow.holds Tryz.pinned (OpenSpec.ofChange generationSeveralWrong)

/-- 'dasdlaw38.GenerationKeeps': WHATEVER THE INPUT: true; the input reads as it did. -/
def generationKeepsSpec : ChangeSpec := { name := "generationKeeps", fn := fun _ => fun
  | [d1, d2, d3] => { results := [.lit (.bool true)], args := [d1, d2, d3] }
  | _ => none }
def generationKeepsRow : OpenClaim := { program := "ytlkkiimmangplaagreatdoor", sum := "43b61295c2f17292446cb7e3e8f1f2690d14c5a3cb2fb22296542307a3b61a2e", func := "dasd/dasdlaw38.GenerationKeeps", spec := "generationKeeps", inPlace := ["internal/bytealg.CountString", "internal/bytealg.IndexByteString", "internal/bytealg.IndexString"], unfollowed := true, recurses := true, named := ["unicode/utf8.first", "unicode/utf8.acceptRanges", "internal/bytealg.MaxLen", "internal/strconv.uint64pow10", "math/bits.deBruijn32tab", "math/bits.deBruijn64tab"], plainKeys := false, apart := false, laid := [("math/bits.deBruijn32tab", laid_math_bits_deBruijn32tab), ("math/bits.deBruijn64tab", laid_math_bits_deBruijn64tab), ("internal/strconv.uint64pow10", laid_internal_strconv_uint64pow10), ("unicode/utf8.acceptRanges", laid_unicode_utf8_acceptRanges), ("unicode/utf8.first", laid_unicode_utf8_first)] }
def GenerationKeepsSaid : Prop := generationKeepsRow.holds Tryz.pinned (OpenSpec.ofChange generationKeepsSpec)

/-- ITS FALSE NEIGHBOUR: 'it returns false'. Refute it at one input. -/
def generationKeepsWrong : ChangeSpec := { name := "generationKeeps", fn := fun _ => fun
  | [d1, d2, d3] => { results := [.lit (.bool false)], args := [d1, d2, d3] }
  | _ => none }
def GenerationKeepsWrongFalsely : Prop := generationKeepsRow.holds Tryz.pinned (OpenSpec.ofChange generationKeepsWrong)

/-- 'dasdlaw38.GenerationGreatest': WHATEVER THE INPUT: true; the input reads as it did. -/
def generationGreatestSpec : ChangeSpec := { name := "generationGreatest", fn := fun _ => fun
  | [d1, d2, d3] => { results := [.lit (.bool true)], args := [d1, d2, d3] }
  | _ => none }
def generationGreatestRow : OpenClaim := { program := "ytlkkiimmangplaagreatdoor", sum := "43b61295c2f17292446cb7e3e8f1f2690d14c5a3cb2fb22296542307a3b61a2e", func := "dasd/dasdlaw38.GenerationGreatest", spec := "generationGreatest", inPlace := ["internal/bytealg.CountString", "internal/bytealg.IndexByteString", "internal/bytealg.IndexString"], unfollowed := true, recurses := true, named := ["unicode/utf8.first", "unicode/utf8.acceptRanges", "internal/bytealg.MaxLen", "internal/strconv.uint64pow10", "math/bits.deBruijn32tab", "math/bits.deBruijn64tab"], plainKeys := false, apart := false, laid := [("math/bits.deBruijn32tab", laid_math_bits_deBruijn32tab), ("math/bits.deBruijn64tab", laid_math_bits_deBruijn64tab), ("internal/strconv.uint64pow10", laid_internal_strconv_uint64pow10), ("unicode/utf8.acceptRanges", laid_unicode_utf8_acceptRanges), ("unicode/utf8.first", laid_unicode_utf8_first)] }
def GenerationGreatestSaid : Prop := generationGreatestRow.holds Tryz.pinned (OpenSpec.ofChange generationGreatestSpec)

/-- ITS FALSE NEIGHBOUR: 'it returns false'. Refute it at one input. -/
def generationGreatestWrong : ChangeSpec := { name := "generationGreatest", fn := fun _ => fun
  | [d1, d2, d3] => { results := [.lit (.bool false)], args := [d1, d2, d3] }
  | _ => none }
def GenerationGreatestWrongFalsely : Prop := generationGreatestRow.holds Tryz.pinned (OpenSpec.ofChange generationGreatestWrong)

/-- 'dasdlaw38.GenerationRelative': WHATEVER THE INPUT: true; the input reads as it did. -/
def generationRelativeSpec : ChangeSpec := { name := "generationRelative", fn := fun _ => fun
  | [d1, d2, d3] => { results := [.lit (.bool true)], args := [d1, d2, d3] }
  | _ => none }
def generationRelativeRow : OpenClaim := { program := "ytlkkiimmangplaagreatdoor", sum := "43b61295c2f17292446cb7e3e8f1f2690d14c5a3cb2fb22296542307a3b61a2e", func := "dasd/dasdlaw38.GenerationRelative", spec := "generationRelative", inPlace := ["internal/bytealg.CountString", "internal/bytealg.IndexByteString", "internal/bytealg.IndexString"], unfollowed := true, recurses := true, named := ["unicode/utf8.first", "unicode/utf8.acceptRanges", "internal/bytealg.MaxLen", "internal/strconv.uint64pow10", "math/bits.deBruijn32tab", "math/bits.deBruijn64tab"], plainKeys := false, apart := false, laid := [("math/bits.deBruijn32tab", laid_math_bits_deBruijn32tab), ("math/bits.deBruijn64tab", laid_math_bits_deBruijn64tab), ("internal/strconv.uint64pow10", laid_internal_strconv_uint64pow10), ("unicode/utf8.acceptRanges", laid_unicode_utf8_acceptRanges), ("unicode/utf8.first", laid_unicode_utf8_first)] }
def GenerationRelativeSaid : Prop := generationRelativeRow.holds Tryz.pinned (OpenSpec.ofChange generationRelativeSpec)

/-- ITS FALSE NEIGHBOUR: 'it returns false'. Refute it at one input. -/
def generationRelativeWrong : ChangeSpec := { name := "generationRelative", fn := fun _ => fun
  | [d1, d2, d3] => { results := [.lit (.bool false)], args := [d1, d2, d3] }
  | _ => none }
def GenerationRelativeWrongFalsely : Prop := generationRelativeRow.holds Tryz.pinned (OpenSpec.ofChange generationRelativeWrong)

/-- 'dasdtop.TopAccess': WHATEVER THE INPUT: true; the input reads as it did. -/
def topAccessSpec : ChangeSpec := { name := "topAccess", fn := fun _ => fun
  | [d1, d2, d3, d4, d5, d6] => { results := [.lit (.bool true)], args := [d1, d2, d3, d4, d5, d6] }
  | _ => none }
def topAccessRow : OpenClaim := { program := "ytlkkiimmangplaagreatdoor", sum := "43b61295c2f17292446cb7e3e8f1f2690d14c5a3cb2fb22296542307a3b61a2e", func := "dasd/dasdtop.TopAccess", spec := "topAccess", inPlace := ["internal/bytealg.CountString", "internal/bytealg.IndexByteString", "internal/bytealg.IndexString", "internal/abi.NoEscape", "internal/bytealg.MakeNoZero", "internal/bytealg.abigen_runtime_cmpstring"], unfollowed := true, recurses := true, named := ["unicode/utf8.first", "unicode/utf8.acceptRanges", "internal/bytealg.MaxLen", "internal/strconv.uint64pow10", "math/bits.deBruijn32tab", "math/bits.deBruijn64tab"], plainKeys := false, apart := false, laid := [("math/bits.deBruijn32tab", laid_math_bits_deBruijn32tab), ("math/bits.deBruijn64tab", laid_math_bits_deBruijn64tab), ("internal/strconv.uint64pow10", laid_internal_strconv_uint64pow10), ("unicode/utf8.acceptRanges", laid_unicode_utf8_acceptRanges), ("unicode/utf8.first", laid_unicode_utf8_first)] }
def TopAccessSaid : Prop := topAccessRow.holds Tryz.pinned (OpenSpec.ofChange topAccessSpec)

/-- ITS FALSE NEIGHBOUR: 'it returns false'. Refute it at one input. -/
def topAccessWrong : ChangeSpec := { name := "topAccess", fn := fun _ => fun
  | [d1, d2, d3, d4, d5, d6] => { results := [.lit (.bool false)], args := [d1, d2, d3, d4, d5, d6] }
  | _ => none }
def TopAccessWrongFalsely : Prop := topAccessRow.holds Tryz.pinned (OpenSpec.ofChange topAccessWrong)

/-- 'dasdlaw38.GenerationRolls': WHATEVER THE INPUT: true; the input reads as it did. -/
def generationRollsSpec : ChangeSpec := { name := "generationRolls", fn := fun _ => fun
  | [d1, d2, d3, d4] => { results := [.lit (.bool true)], args := [d1, d2, d3, d4] }
  | _ => none }
def generationRollsRow : OpenClaim := { program := "ytlkkiimmangplaagreatdoor", sum := "43b61295c2f17292446cb7e3e8f1f2690d14c5a3cb2fb22296542307a3b61a2e", func := "dasd/dasdlaw38.GenerationRolls", spec := "generationRolls", inPlace := ["internal/bytealg.CountString", "internal/bytealg.IndexByteString", "internal/bytealg.IndexString"], unfollowed := true, recurses := true, named := ["unicode/utf8.first", "unicode/utf8.acceptRanges", "internal/bytealg.MaxLen", "internal/strconv.uint64pow10", "math/bits.deBruijn32tab", "math/bits.deBruijn64tab"], plainKeys := false, apart := false, laid := [("math/bits.deBruijn32tab", laid_math_bits_deBruijn32tab), ("math/bits.deBruijn64tab", laid_math_bits_deBruijn64tab), ("internal/strconv.uint64pow10", laid_internal_strconv_uint64pow10), ("unicode/utf8.acceptRanges", laid_unicode_utf8_acceptRanges), ("unicode/utf8.first", laid_unicode_utf8_first)] }
def GenerationRollsSaid : Prop := generationRollsRow.holds Tryz.pinned (OpenSpec.ofChange generationRollsSpec)

/-- ITS FALSE NEIGHBOUR: 'it returns false'. Refute it at one input. -/
def generationRollsWrong : ChangeSpec := { name := "generationRolls", fn := fun _ => fun
  | [d1, d2, d3, d4] => { results := [.lit (.bool false)], args := [d1, d2, d3, d4] }
  | _ => none }
def GenerationRollsWrongFalsely : Prop := generationRollsRow.holds Tryz.pinned (OpenSpec.ofChange generationRollsWrong)

/-- 'dasdlaw38.GenerationLimits': WHATEVER THE INPUT: true; the input reads as it did. -/
def generationLimitsSpec : ChangeSpec := { name := "generationLimits", fn := fun _ => fun
  | [d1, d2, d3] => { results := [.lit (.bool true)], args := [d1, d2, d3] }
  | _ => none }
def generationLimitsRow : OpenClaim := { program := "ytlkkiimmangplaagreatdoor", sum := "43b61295c2f17292446cb7e3e8f1f2690d14c5a3cb2fb22296542307a3b61a2e", func := "dasd/dasdlaw38.GenerationLimits", spec := "generationLimits", inPlace := ["internal/bytealg.CountString", "internal/bytealg.IndexByteString", "internal/bytealg.IndexString"], unfollowed := true, recurses := true, named := ["unicode/utf8.first", "unicode/utf8.acceptRanges", "internal/bytealg.MaxLen", "internal/strconv.uint64pow10", "math/bits.deBruijn32tab", "math/bits.deBruijn64tab"], plainKeys := false, apart := false, laid := [("math/bits.deBruijn32tab", laid_math_bits_deBruijn32tab), ("math/bits.deBruijn64tab", laid_math_bits_deBruijn64tab), ("internal/strconv.uint64pow10", laid_internal_strconv_uint64pow10), ("unicode/utf8.acceptRanges", laid_unicode_utf8_acceptRanges), ("unicode/utf8.first", laid_unicode_utf8_first)] }
def GenerationLimitsSaid : Prop := generationLimitsRow.holds Tryz.pinned (OpenSpec.ofChange generationLimitsSpec)

/-- ITS FALSE NEIGHBOUR: 'it returns false'. Refute it at one input. -/
def generationLimitsWrong : ChangeSpec := { name := "generationLimits", fn := fun _ => fun
  | [d1, d2, d3] => { results := [.lit (.bool false)], args := [d1, d2, d3] }
  | _ => none }
def GenerationLimitsWrongFalsely : Prop := generationLimitsRow.holds Tryz.pinned (OpenSpec.ofChange generationLimitsWrong)

/-- 'dasdlaw33.EntryForms': WHATEVER THE INPUT: true; the input reads as it did. -/
def entryFormsSpec : ChangeSpec := { name := "entryForms", fn := fun _ => fun
  | [d1, d2, d3, d4] => { results := [.lit (.bool true)], args := [d1, d2, d3, d4] }
  | _ => none }
def entryFormsRow : OpenClaim := { program := "ytlkkiimmangplaagreatdoor", sum := "43b61295c2f17292446cb7e3e8f1f2690d14c5a3cb2fb22296542307a3b61a2e", func := "dasd/dasdlaw33.EntryForms", spec := "entryForms", inPlace := ["internal/bytealg.CountString", "internal/bytealg.IndexByteString", "internal/bytealg.IndexString", "internal/abi.NoEscape", "internal/bytealg.MakeNoZero"], unfollowed := true, recurses := true, named := ["unicode/utf8.first", "unicode/utf8.acceptRanges", "internal/bytealg.MaxLen", "internal/strconv.uint64pow10", "math/bits.deBruijn32tab", "math/bits.deBruijn64tab"], plainKeys := false, apart := false, laid := [("math/bits.deBruijn32tab", laid_math_bits_deBruijn32tab), ("math/bits.deBruijn64tab", laid_math_bits_deBruijn64tab), ("internal/strconv.uint64pow10", laid_internal_strconv_uint64pow10), ("unicode/utf8.acceptRanges", laid_unicode_utf8_acceptRanges), ("unicode/utf8.first", laid_unicode_utf8_first)] }
def EntryFormsSaid : Prop := entryFormsRow.holds Tryz.pinned (OpenSpec.ofChange entryFormsSpec)

/-- ITS FALSE NEIGHBOUR: 'it returns false'. Refute it at one input. -/
def entryFormsWrong : ChangeSpec := { name := "entryForms", fn := fun _ => fun
  | [d1, d2, d3, d4] => { results := [.lit (.bool false)], args := [d1, d2, d3, d4] }
  | _ => none }
def EntryFormsWrongFalsely : Prop := entryFormsRow.holds Tryz.pinned (OpenSpec.ofChange entryFormsWrong)

/-- 'dasdlaw33.EntryRecords': WHATEVER THE INPUT: true; the input reads as it did. -/
def entryRecordsSpec : ChangeSpec := { name := "entryRecords", fn := fun _ => fun
  | [d] => { results := [.lit (.bool true)], args := [d] }
  | _ => none }
def entryRecordsRow : OpenClaim := { program := "ytlkkiimmangplaagreatdoor", sum := "43b61295c2f17292446cb7e3e8f1f2690d14c5a3cb2fb22296542307a3b61a2e", func := "dasd/dasdlaw33.EntryRecords", spec := "entryRecords", inPlace := ["internal/bytealg.CountString", "internal/bytealg.IndexByteString", "internal/bytealg.IndexString", "internal/abi.NoEscape", "internal/bytealg.MakeNoZero"], unfollowed := true, recurses := true, named := ["unicode/utf8.first", "unicode/utf8.acceptRanges", "internal/bytealg.MaxLen", "internal/strconv.uint64pow10", "math/bits.deBruijn32tab", "math/bits.deBruijn64tab"], plainKeys := false, apart := false, laid := [("math/bits.deBruijn32tab", laid_math_bits_deBruijn32tab), ("math/bits.deBruijn64tab", laid_math_bits_deBruijn64tab), ("internal/strconv.uint64pow10", laid_internal_strconv_uint64pow10), ("unicode/utf8.acceptRanges", laid_unicode_utf8_acceptRanges), ("unicode/utf8.first", laid_unicode_utf8_first)] }
def EntryRecordsSaid : Prop := entryRecordsRow.holds Tryz.pinned (OpenSpec.ofChange entryRecordsSpec)

/-- ITS FALSE NEIGHBOUR: 'it returns false'. Refute it at one input. -/
def entryRecordsWrong : ChangeSpec := { name := "entryRecords", fn := fun _ => fun
  | [d] => { results := [.lit (.bool false)], args := [d] }
  | _ => none }
def EntryRecordsWrongFalsely : Prop := entryRecordsRow.holds Tryz.pinned (OpenSpec.ofChange entryRecordsWrong)

/-- 'dasdlaw33.EntryDecodes': WHATEVER THE INPUT: true; the input reads as it did. -/
def entryDecodesSpec : ChangeSpec := { name := "entryDecodes", fn := fun _ => fun
  | [d] => { results := [.lit (.bool true)], args := [d] }
  | _ => none }
def entryDecodesRow : OpenClaim := { program := "ytlkkiimmangplaagreatdoor", sum := "43b61295c2f17292446cb7e3e8f1f2690d14c5a3cb2fb22296542307a3b61a2e", func := "dasd/dasdlaw33.EntryDecodes", spec := "entryDecodes", inPlace := ["internal/bytealg.CountString", "internal/bytealg.IndexByteString", "internal/bytealg.IndexString", "internal/abi.NoEscape", "internal/bytealg.MakeNoZero"], unfollowed := true, recurses := true, named := ["unicode/utf8.first", "unicode/utf8.acceptRanges", "internal/bytealg.MaxLen", "internal/strconv.uint64pow10", "math/bits.deBruijn32tab", "math/bits.deBruijn64tab"], plainKeys := false, apart := false, laid := [("math/bits.deBruijn32tab", laid_math_bits_deBruijn32tab), ("math/bits.deBruijn64tab", laid_math_bits_deBruijn64tab), ("internal/strconv.uint64pow10", laid_internal_strconv_uint64pow10), ("unicode/utf8.acceptRanges", laid_unicode_utf8_acceptRanges), ("unicode/utf8.first", laid_unicode_utf8_first)] }
def EntryDecodesSaid : Prop := entryDecodesRow.holds Tryz.pinned (OpenSpec.ofChange entryDecodesSpec)

/-- ITS FALSE NEIGHBOUR: 'it returns false'. Refute it at one input. -/
def entryDecodesWrong : ChangeSpec := { name := "entryDecodes", fn := fun _ => fun
  | [d] => { results := [.lit (.bool false)], args := [d] }
  | _ => none }
def EntryDecodesWrongFalsely : Prop := entryDecodesRow.holds Tryz.pinned (OpenSpec.ofChange entryDecodesWrong)

/-- 'dasdlaw33.EntryReturns': WHATEVER THE INPUT: true; the input reads as it did. -/
def entryReturnsSpec : ChangeSpec := { name := "entryReturns", fn := fun _ => fun
  | [d] => { results := [.lit (.bool true)], args := [d] }
  | _ => none }
def entryReturnsRow : OpenClaim := { program := "ytlkkiimmangplaagreatdoor", sum := "43b61295c2f17292446cb7e3e8f1f2690d14c5a3cb2fb22296542307a3b61a2e", func := "dasd/dasdlaw33.EntryReturns", spec := "entryReturns", inPlace := ["internal/bytealg.CountString", "internal/bytealg.IndexByteString", "internal/bytealg.IndexString", "internal/abi.NoEscape", "internal/bytealg.MakeNoZero"], unfollowed := true, recurses := true, named := ["unicode/utf8.first", "unicode/utf8.acceptRanges", "internal/bytealg.MaxLen", "internal/strconv.uint64pow10", "math/bits.deBruijn32tab", "math/bits.deBruijn64tab"], plainKeys := false, apart := false, laid := [("math/bits.deBruijn32tab", laid_math_bits_deBruijn32tab), ("math/bits.deBruijn64tab", laid_math_bits_deBruijn64tab), ("internal/strconv.uint64pow10", laid_internal_strconv_uint64pow10), ("unicode/utf8.acceptRanges", laid_unicode_utf8_acceptRanges), ("unicode/utf8.first", laid_unicode_utf8_first)] }
def EntryReturnsSaid : Prop := entryReturnsRow.holds Tryz.pinned (OpenSpec.ofChange entryReturnsSpec)

/-- ITS FALSE NEIGHBOUR: 'it returns false'. Refute it at one input. -/
def entryReturnsWrong : ChangeSpec := { name := "entryReturns", fn := fun _ => fun
  | [d] => { results := [.lit (.bool false)], args := [d] }
  | _ => none }
def EntryReturnsWrongFalsely : Prop := entryReturnsRow.holds Tryz.pinned (OpenSpec.ofChange entryReturnsWrong)

/-- 'dasdlaw33.EntryStrict': WHATEVER THE INPUT: true; the input reads as it did. -/
def entryStrictSpec : ChangeSpec := { name := "entryStrict", fn := fun _ => fun
  | [d] => { results := [.lit (.bool true)], args := [d] }
  | _ => none }
def entryStrictRow : OpenClaim := { program := "ytlkkiimmangplaagreatdoor", sum := "43b61295c2f17292446cb7e3e8f1f2690d14c5a3cb2fb22296542307a3b61a2e", func := "dasd/dasdlaw33.EntryStrict", spec := "entryStrict", inPlace := ["internal/bytealg.CountString", "internal/bytealg.IndexByteString", "internal/bytealg.IndexString", "internal/abi.NoEscape", "internal/bytealg.MakeNoZero"], unfollowed := true, recurses := true, named := ["unicode/utf8.first", "unicode/utf8.acceptRanges", "internal/bytealg.MaxLen", "internal/strconv.uint64pow10", "math/bits.deBruijn32tab", "math/bits.deBruijn64tab"], plainKeys := false, apart := false, laid := [("math/bits.deBruijn32tab", laid_math_bits_deBruijn32tab), ("math/bits.deBruijn64tab", laid_math_bits_deBruijn64tab), ("internal/strconv.uint64pow10", laid_internal_strconv_uint64pow10), ("unicode/utf8.acceptRanges", laid_unicode_utf8_acceptRanges), ("unicode/utf8.first", laid_unicode_utf8_first)] }
def EntryStrictSaid : Prop := entryStrictRow.holds Tryz.pinned (OpenSpec.ofChange entryStrictSpec)

/-- ITS FALSE NEIGHBOUR: 'it returns false'. Refute it at one input. -/
def entryStrictWrong : ChangeSpec := { name := "entryStrict", fn := fun _ => fun
  | [d] => { results := [.lit (.bool false)], args := [d] }
  | _ => none }
def EntryStrictWrongFalsely : Prop := entryStrictRow.holds Tryz.pinned (OpenSpec.ofChange entryStrictWrong)

/-- 'dasdlaw33.EntryKeys': WHATEVER THE INPUT: true; the input reads as it did. -/
def entryKeysSpec : ChangeSpec := { name := "entryKeys", fn := fun _ => fun
  | [d1, d2, d3, d4] => { results := [.lit (.bool true)], args := [d1, d2, d3, d4] }
  | _ => none }
def entryKeysRow : OpenClaim := { program := "ytlkkiimmangplaagreatdoor", sum := "43b61295c2f17292446cb7e3e8f1f2690d14c5a3cb2fb22296542307a3b61a2e", func := "dasd/dasdlaw33.EntryKeys", spec := "entryKeys", inPlace := ["internal/bytealg.CountString", "internal/bytealg.IndexByteString", "internal/bytealg.IndexString", "internal/abi.NoEscape", "internal/bytealg.MakeNoZero"], unfollowed := true, recurses := true, named := ["unicode/utf8.first", "unicode/utf8.acceptRanges", "internal/bytealg.MaxLen", "internal/strconv.uint64pow10", "math/bits.deBruijn32tab", "math/bits.deBruijn64tab"], plainKeys := false, apart := false, laid := [("math/bits.deBruijn32tab", laid_math_bits_deBruijn32tab), ("math/bits.deBruijn64tab", laid_math_bits_deBruijn64tab), ("internal/strconv.uint64pow10", laid_internal_strconv_uint64pow10), ("unicode/utf8.acceptRanges", laid_unicode_utf8_acceptRanges), ("unicode/utf8.first", laid_unicode_utf8_first)] }
def EntryKeysSaid : Prop := entryKeysRow.holds Tryz.pinned (OpenSpec.ofChange entryKeysSpec)

/-- ITS FALSE NEIGHBOUR: 'it returns false'. Refute it at one input. -/
def entryKeysWrong : ChangeSpec := { name := "entryKeys", fn := fun _ => fun
  | [d1, d2, d3, d4] => { results := [.lit (.bool false)], args := [d1, d2, d3, d4] }
  | _ => none }
def EntryKeysWrongFalsely : Prop := entryKeysRow.holds Tryz.pinned (OpenSpec.ofChange entryKeysWrong)

/-- 'dasdlaw33.EntryCuts': WHATEVER THE INPUT: true; the input reads as it did. -/
def entryCutsSpec : ChangeSpec := { name := "entryCuts", fn := fun _ => fun
  | [d1, d2, d3] => { results := [.lit (.bool true)], args := [d1, d2, d3] }
  | _ => none }
def entryCutsRow : OpenClaim := { program := "ytlkkiimmangplaagreatdoor", sum := "43b61295c2f17292446cb7e3e8f1f2690d14c5a3cb2fb22296542307a3b61a2e", func := "dasd/dasdlaw33.EntryCuts", spec := "entryCuts", inPlace := ["internal/bytealg.CountString", "internal/bytealg.IndexByteString", "internal/bytealg.IndexString", "internal/abi.NoEscape", "internal/bytealg.MakeNoZero"], unfollowed := true, recurses := true, named := ["unicode/utf8.first", "unicode/utf8.acceptRanges", "internal/bytealg.MaxLen", "internal/strconv.uint64pow10", "math/bits.deBruijn32tab", "math/bits.deBruijn64tab"], plainKeys := false, apart := false, laid := [("math/bits.deBruijn32tab", laid_math_bits_deBruijn32tab), ("math/bits.deBruijn64tab", laid_math_bits_deBruijn64tab), ("internal/strconv.uint64pow10", laid_internal_strconv_uint64pow10), ("unicode/utf8.acceptRanges", laid_unicode_utf8_acceptRanges), ("unicode/utf8.first", laid_unicode_utf8_first)] }
def EntryCutsSaid : Prop := entryCutsRow.holds Tryz.pinned (OpenSpec.ofChange entryCutsSpec)

/-- ITS FALSE NEIGHBOUR: 'it returns false'. Refute it at one input. -/
def entryCutsWrong : ChangeSpec := { name := "entryCuts", fn := fun _ => fun
  | [d1, d2, d3] => { results := [.lit (.bool false)], args := [d1, d2, d3] }
  | _ => none }
def EntryCutsWrongFalsely : Prop := entryCutsRow.holds Tryz.pinned (OpenSpec.ofChange entryCutsWrong)

/-- 'dasdlaw34.AccessLevels': WHATEVER THE INPUT: true; the input reads as it did. -/
def accessLevelsSpec : ChangeSpec := { name := "accessLevels", fn := fun _ => fun
  | [d1, d2, d3, d4] => { results := [.lit (.bool true)], args := [d1, d2, d3, d4] }
  | _ => none }
def accessLevelsRow : OpenClaim := { program := "ytlkkiimmangplaagreatdoor", sum := "43b61295c2f17292446cb7e3e8f1f2690d14c5a3cb2fb22296542307a3b61a2e", func := "dasd/dasdlaw34.AccessLevels", spec := "accessLevels", inPlace := ["internal/bytealg.CountString", "internal/bytealg.IndexByteString", "internal/bytealg.IndexString", "internal/abi.NoEscape", "internal/bytealg.MakeNoZero", "internal/bytealg.abigen_runtime_cmpstring"], unfollowed := true, recurses := true, named := ["unicode/utf8.first", "unicode/utf8.acceptRanges", "internal/bytealg.MaxLen", "internal/strconv.uint64pow10", "math/bits.deBruijn32tab", "math/bits.deBruijn64tab"], plainKeys := false, apart := false, laid := [("math/bits.deBruijn32tab", laid_math_bits_deBruijn32tab), ("math/bits.deBruijn64tab", laid_math_bits_deBruijn64tab), ("internal/strconv.uint64pow10", laid_internal_strconv_uint64pow10), ("unicode/utf8.acceptRanges", laid_unicode_utf8_acceptRanges), ("unicode/utf8.first", laid_unicode_utf8_first)] }
def AccessLevelsSaid : Prop := accessLevelsRow.holds Tryz.pinned (OpenSpec.ofChange accessLevelsSpec)

/-- ITS FALSE NEIGHBOUR: 'it returns false'. Refute it at one input. -/
def accessLevelsWrong : ChangeSpec := { name := "accessLevels", fn := fun _ => fun
  | [d1, d2, d3, d4] => { results := [.lit (.bool false)], args := [d1, d2, d3, d4] }
  | _ => none }
def AccessLevelsWrongFalsely : Prop := accessLevelsRow.holds Tryz.pinned (OpenSpec.ofChange accessLevelsWrong)

/-- 'dasdlaw34.AccessNeeds': WHATEVER THE INPUT: true; the input reads as it did. -/
def accessNeedsSpec : ChangeSpec := { name := "accessNeeds", fn := fun _ => fun
  | [d] => { results := [.lit (.bool true)], args := [d] }
  | _ => none }
def accessNeedsRow : OpenClaim := { program := "ytlkkiimmangplaagreatdoor", sum := "43b61295c2f17292446cb7e3e8f1f2690d14c5a3cb2fb22296542307a3b61a2e", func := "dasd/dasdlaw34.AccessNeeds", spec := "accessNeeds", inPlace := ["internal/bytealg.CountString", "internal/bytealg.IndexByteString", "internal/bytealg.IndexString", "internal/abi.NoEscape", "internal/bytealg.MakeNoZero", "internal/bytealg.abigen_runtime_cmpstring"], unfollowed := true, recurses := true, named := ["unicode/utf8.first", "unicode/utf8.acceptRanges", "internal/bytealg.MaxLen", "internal/strconv.uint64pow10", "math/bits.deBruijn32tab", "math/bits.deBruijn64tab"], plainKeys := false, apart := false, laid := [("math/bits.deBruijn32tab", laid_math_bits_deBruijn32tab), ("math/bits.deBruijn64tab", laid_math_bits_deBruijn64tab), ("internal/strconv.uint64pow10", laid_internal_strconv_uint64pow10), ("unicode/utf8.acceptRanges", laid_unicode_utf8_acceptRanges), ("unicode/utf8.first", laid_unicode_utf8_first)] }
def AccessNeedsSaid : Prop := accessNeedsRow.holds Tryz.pinned (OpenSpec.ofChange accessNeedsSpec)

/-- ITS FALSE NEIGHBOUR: 'it returns false'. Refute it at one input. -/
def accessNeedsWrong : ChangeSpec := { name := "accessNeeds", fn := fun _ => fun
  | [d] => { results := [.lit (.bool false)], args := [d] }
  | _ => none }
def AccessNeedsWrongFalsely : Prop := accessNeedsRow.holds Tryz.pinned (OpenSpec.ofChange accessNeedsWrong)

/-- 'dasdlaw34.AccessChecks': WHATEVER THE INPUT: true; the input reads as it did. -/
def accessChecksSpec : ChangeSpec := { name := "accessChecks", fn := fun _ => fun
  | [d1, d2, d3, d4, d5, d6] => { results := [.lit (.bool true)], args := [d1, d2, d3, d4, d5, d6] }
  | _ => none }
def accessChecksRow : OpenClaim := { program := "ytlkkiimmangplaagreatdoor", sum := "43b61295c2f17292446cb7e3e8f1f2690d14c5a3cb2fb22296542307a3b61a2e", func := "dasd/dasdlaw34.AccessChecks", spec := "accessChecks", inPlace := ["internal/bytealg.CountString", "internal/bytealg.IndexByteString", "internal/bytealg.IndexString", "internal/abi.NoEscape", "internal/bytealg.MakeNoZero", "internal/bytealg.abigen_runtime_cmpstring"], unfollowed := true, recurses := true, named := ["unicode/utf8.first", "unicode/utf8.acceptRanges", "internal/bytealg.MaxLen", "internal/strconv.uint64pow10", "math/bits.deBruijn32tab", "math/bits.deBruijn64tab"], plainKeys := false, apart := false, laid := [("math/bits.deBruijn32tab", laid_math_bits_deBruijn32tab), ("math/bits.deBruijn64tab", laid_math_bits_deBruijn64tab), ("internal/strconv.uint64pow10", laid_internal_strconv_uint64pow10), ("unicode/utf8.acceptRanges", laid_unicode_utf8_acceptRanges), ("unicode/utf8.first", laid_unicode_utf8_first)] }
def AccessChecksSaid : Prop := accessChecksRow.holds Tryz.pinned (OpenSpec.ofChange accessChecksSpec)

/-- ITS FALSE NEIGHBOUR: 'it returns false'. Refute it at one input. -/
def accessChecksWrong : ChangeSpec := { name := "accessChecks", fn := fun _ => fun
  | [d1, d2, d3, d4, d5, d6] => { results := [.lit (.bool false)], args := [d1, d2, d3, d4, d5, d6] }
  | _ => none }
def AccessChecksWrongFalsely : Prop := accessChecksRow.holds Tryz.pinned (OpenSpec.ofChange accessChecksWrong)

/-- 'dasdlaw34.AccessErrors': WHATEVER THE INPUT: true; the input reads as it did. -/
def accessErrorsSpec : ChangeSpec := { name := "accessErrors", fn := fun _ => fun
  | [d1, d2, d3, d4] => { results := [.lit (.bool true)], args := [d1, d2, d3, d4] }
  | _ => none }
def accessErrorsRow : OpenClaim := { program := "ytlkkiimmangplaagreatdoor", sum := "43b61295c2f17292446cb7e3e8f1f2690d14c5a3cb2fb22296542307a3b61a2e", func := "dasd/dasdlaw34.AccessErrors", spec := "accessErrors", inPlace := ["internal/bytealg.CountString", "internal/bytealg.IndexByteString", "internal/bytealg.IndexString", "internal/abi.NoEscape", "internal/bytealg.MakeNoZero", "internal/bytealg.abigen_runtime_cmpstring"], unfollowed := true, recurses := true, named := ["unicode/utf8.first", "unicode/utf8.acceptRanges", "internal/bytealg.MaxLen", "internal/strconv.uint64pow10", "math/bits.deBruijn32tab", "math/bits.deBruijn64tab"], plainKeys := false, apart := false, laid := [("math/bits.deBruijn32tab", laid_math_bits_deBruijn32tab), ("math/bits.deBruijn64tab", laid_math_bits_deBruijn64tab), ("internal/strconv.uint64pow10", laid_internal_strconv_uint64pow10), ("unicode/utf8.acceptRanges", laid_unicode_utf8_acceptRanges), ("unicode/utf8.first", laid_unicode_utf8_first)] }
def AccessErrorsSaid : Prop := accessErrorsRow.holds Tryz.pinned (OpenSpec.ofChange accessErrorsSpec)

/-- ITS FALSE NEIGHBOUR: 'it returns false'. Refute it at one input. -/
def accessErrorsWrong : ChangeSpec := { name := "accessErrors", fn := fun _ => fun
  | [d1, d2, d3, d4] => { results := [.lit (.bool false)], args := [d1, d2, d3, d4] }
  | _ => none }
def AccessErrorsWrongFalsely : Prop := accessErrorsRow.holds Tryz.pinned (OpenSpec.ofChange accessErrorsWrong)

/-- 'dasdlaw34.AccessPersons': WHATEVER THE INPUT: true; the input reads as it did. -/
def accessPersonsSpec : ChangeSpec := { name := "accessPersons", fn := fun _ => fun
  | [d1, d2, d3, d4, d5] => { results := [.lit (.bool true)], args := [d1, d2, d3, d4, d5] }
  | _ => none }
def accessPersonsRow : OpenClaim := { program := "ytlkkiimmangplaagreatdoor", sum := "43b61295c2f17292446cb7e3e8f1f2690d14c5a3cb2fb22296542307a3b61a2e", func := "dasd/dasdlaw34.AccessPersons", spec := "accessPersons", inPlace := ["internal/bytealg.CountString", "internal/bytealg.IndexByteString", "internal/bytealg.IndexString", "internal/abi.NoEscape", "internal/bytealg.MakeNoZero", "internal/bytealg.abigen_runtime_cmpstring"], unfollowed := true, recurses := true, named := ["unicode/utf8.first", "unicode/utf8.acceptRanges", "internal/bytealg.MaxLen", "internal/strconv.uint64pow10", "math/bits.deBruijn32tab", "math/bits.deBruijn64tab"], plainKeys := false, apart := false, laid := [("math/bits.deBruijn32tab", laid_math_bits_deBruijn32tab), ("math/bits.deBruijn64tab", laid_math_bits_deBruijn64tab), ("internal/strconv.uint64pow10", laid_internal_strconv_uint64pow10), ("unicode/utf8.acceptRanges", laid_unicode_utf8_acceptRanges), ("unicode/utf8.first", laid_unicode_utf8_first)] }
def AccessPersonsSaid : Prop := accessPersonsRow.holds Tryz.pinned (OpenSpec.ofChange accessPersonsSpec)

/-- ITS FALSE NEIGHBOUR: 'it returns false'. Refute it at one input. -/
def accessPersonsWrong : ChangeSpec := { name := "accessPersons", fn := fun _ => fun
  | [d1, d2, d3, d4, d5] => { results := [.lit (.bool false)], args := [d1, d2, d3, d4, d5] }
  | _ => none }
def AccessPersonsWrongFalsely : Prop := accessPersonsRow.holds Tryz.pinned (OpenSpec.ofChange accessPersonsWrong)

/-- 'dasdlaw37.RebuildNotes': WHATEVER THE INPUT: true; the input reads as it did. -/
def rebuildNotesSpec : ChangeSpec := { name := "rebuildNotes", fn := fun _ => fun
  | [d1, d2, d3] => { results := [.lit (.bool true)], args := [d1, d2, d3] }
  | _ => none }
def rebuildNotesRow : OpenClaim := { program := "ytlkkiimmangplaagreatdoor", sum := "43b61295c2f17292446cb7e3e8f1f2690d14c5a3cb2fb22296542307a3b61a2e", func := "dasd/dasdlaw37.RebuildNotes", spec := "rebuildNotes", inPlace := ["internal/bytealg.CountString", "internal/bytealg.IndexByteString", "internal/bytealg.IndexString", "internal/abi.NoEscape", "internal/bytealg.MakeNoZero", "internal/bytealg.abigen_runtime_cmpstring"], unfollowed := true, recurses := true, named := ["unicode/utf8.first", "unicode/utf8.acceptRanges", "internal/bytealg.MaxLen", "internal/strconv.uint64pow10", "math/bits.deBruijn32tab", "math/bits.deBruijn64tab"], plainKeys := false, apart := false, laid := [("math/bits.deBruijn32tab", laid_math_bits_deBruijn32tab), ("math/bits.deBruijn64tab", laid_math_bits_deBruijn64tab), ("internal/strconv.uint64pow10", laid_internal_strconv_uint64pow10), ("unicode/utf8.acceptRanges", laid_unicode_utf8_acceptRanges), ("unicode/utf8.first", laid_unicode_utf8_first)] }
def RebuildNotesSaid : Prop := rebuildNotesRow.holds Tryz.pinned (OpenSpec.ofChange rebuildNotesSpec)

/-- ITS FALSE NEIGHBOUR: 'it returns false'. Refute it at one input. -/
def rebuildNotesWrong : ChangeSpec := { name := "rebuildNotes", fn := fun _ => fun
  | [d1, d2, d3] => { results := [.lit (.bool false)], args := [d1, d2, d3] }
  | _ => none }
def RebuildNotesWrongFalsely : Prop := rebuildNotesRow.holds Tryz.pinned (OpenSpec.ofChange rebuildNotesWrong)

/-- 'dasdlaw37.RebuildReturns': WHATEVER THE INPUT: true; the input reads as it did. -/
def rebuildReturnsSpec : ChangeSpec := { name := "rebuildReturns", fn := fun _ => fun
  | [d1, d2, d3] => { results := [.lit (.bool true)], args := [d1, d2, d3] }
  | _ => none }
def rebuildReturnsRow : OpenClaim := { program := "ytlkkiimmangplaagreatdoor", sum := "43b61295c2f17292446cb7e3e8f1f2690d14c5a3cb2fb22296542307a3b61a2e", func := "dasd/dasdlaw37.RebuildReturns", spec := "rebuildReturns", inPlace := ["internal/bytealg.CountString", "internal/bytealg.IndexByteString", "internal/bytealg.IndexString", "internal/abi.NoEscape", "internal/bytealg.MakeNoZero", "internal/bytealg.abigen_runtime_cmpstring"], unfollowed := true, recurses := true, named := ["unicode/utf8.first", "unicode/utf8.acceptRanges", "internal/bytealg.MaxLen", "internal/strconv.uint64pow10", "math/bits.deBruijn32tab", "math/bits.deBruijn64tab"], plainKeys := false, apart := false, laid := [("math/bits.deBruijn32tab", laid_math_bits_deBruijn32tab), ("math/bits.deBruijn64tab", laid_math_bits_deBruijn64tab), ("internal/strconv.uint64pow10", laid_internal_strconv_uint64pow10), ("unicode/utf8.acceptRanges", laid_unicode_utf8_acceptRanges), ("unicode/utf8.first", laid_unicode_utf8_first)] }
def RebuildReturnsSaid : Prop := rebuildReturnsRow.holds Tryz.pinned (OpenSpec.ofChange rebuildReturnsSpec)

/-- ITS FALSE NEIGHBOUR: 'it returns false'. Refute it at one input. -/
def rebuildReturnsWrong : ChangeSpec := { name := "rebuildReturns", fn := fun _ => fun
  | [d1, d2, d3] => { results := [.lit (.bool false)], args := [d1, d2, d3] }
  | _ => none }
def RebuildReturnsWrongFalsely : Prop := rebuildReturnsRow.holds Tryz.pinned (OpenSpec.ofChange rebuildReturnsWrong)

/-- 'dasdlaw37.RebuildCompares': WHATEVER THE INPUT: true; the input reads as it did. -/
def rebuildComparesSpec : ChangeSpec := { name := "rebuildCompares", fn := fun _ => fun
  | [d1, d2] => { results := [.lit (.bool true)], args := [d1, d2] }
  | _ => none }
def rebuildComparesRow : OpenClaim := { program := "ytlkkiimmangplaagreatdoor", sum := "43b61295c2f17292446cb7e3e8f1f2690d14c5a3cb2fb22296542307a3b61a2e", func := "dasd/dasdlaw37.RebuildCompares", spec := "rebuildCompares", inPlace := ["internal/bytealg.CountString", "internal/bytealg.IndexByteString", "internal/bytealg.IndexString", "internal/abi.NoEscape", "internal/bytealg.MakeNoZero", "internal/bytealg.abigen_runtime_cmpstring"], unfollowed := true, recurses := true, named := ["unicode/utf8.first", "unicode/utf8.acceptRanges", "internal/bytealg.MaxLen", "internal/strconv.uint64pow10", "math/bits.deBruijn32tab", "math/bits.deBruijn64tab"], plainKeys := false, apart := false, laid := [("math/bits.deBruijn32tab", laid_math_bits_deBruijn32tab), ("math/bits.deBruijn64tab", laid_math_bits_deBruijn64tab), ("internal/strconv.uint64pow10", laid_internal_strconv_uint64pow10), ("unicode/utf8.acceptRanges", laid_unicode_utf8_acceptRanges), ("unicode/utf8.first", laid_unicode_utf8_first)] }
def RebuildComparesSaid : Prop := rebuildComparesRow.holds Tryz.pinned (OpenSpec.ofChange rebuildComparesSpec)

/-- ITS FALSE NEIGHBOUR: 'it returns false'. Refute it at one input. -/
def rebuildComparesWrong : ChangeSpec := { name := "rebuildCompares", fn := fun _ => fun
  | [d1, d2] => { results := [.lit (.bool false)], args := [d1, d2] }
  | _ => none }
def RebuildComparesWrongFalsely : Prop := rebuildComparesRow.holds Tryz.pinned (OpenSpec.ofChange rebuildComparesWrong)

/- THE SECOND FORM. 'bulk': how many values and letters a reading holds, each counted each time it is reached (what is shared counts as often as it is met; a slice's spare places count too). A statement '..UptoSaid' is the law's where the arguments, and the package variables that the reading takes, are together of bulk at most 1048576: NARROWER than '..Said'. Prove '..Said' where nothing that the law and all that it calls make is longer than what came in: it says more and counts as full. Else prove '..UptoSaid'. A law counts once. -/
mutual
def uptoBulk {H : Type} : DataW H → Nat
  | .lit (.string bytes) => bytes.length + 1
  | .lit _ => 1
  | .nil => 1
  | .ptr d => uptoBulk d + 1
  | .slice elems spare => uptoBulkAll elems + uptoBulkAll spare + 1
  | .agg parts => uptoBulkAll parts + 1
  | .iface _ d => uptoBulk d + 1
  | .map entries => uptoBulkEntries entries + 1
  | .held _ => 1
def uptoBulkAll {H : Type} : List (DataW H) → Nat
  | [] => 0
  | d :: r => uptoBulk d + uptoBulkAll r
def uptoBulkEntries {H : Type} : List (Lit × DataW H) → Nat
  | [] => 0
  | x :: r => uptoBulkEntry x + uptoBulkEntries r
def uptoBulkEntry {H : Type} : Lit × DataW H → Nat
  | (.string bytes, d) => bytes.length + uptoBulk d + 1
  | (_, d) => uptoBulk d + 1
 end
def uptoSmall : (H : Type) → List (DataW H) → Bool := fun _ ds => decide (uptoBulkAll ds ≤ 1048576)
def OpenSpec.upto (s : _root_.Go.ChangeSpec) : _root_.Go.OpenSpec := { _root_.Go.OpenSpec.ofChange s with cond := some uptoSmall }

/-- 'dasdlaw38.GenerationNumbers', WHERE WHAT IT READS IS OF BULK AT MOST 1048576: true; the input reads as it did. -/
def generationNumbersUptoRow : OpenClaim := { program := "ytlkkiimmangplaagreatdoor", sum := "43b61295c2f17292446cb7e3e8f1f2690d14c5a3cb2fb22296542307a3b61a2e", func := "dasd/dasdlaw38.GenerationNumbers", spec := "generationNumbers", inPlace := ["internal/bytealg.CountString", "internal/bytealg.IndexByteString", "internal/bytealg.IndexString"], unfollowed := true, recurses := true, named := ["unicode/utf8.first", "unicode/utf8.acceptRanges", "internal/bytealg.MaxLen", "internal/strconv.uint64pow10", "math/bits.deBruijn32tab", "math/bits.deBruijn64tab"], plainKeys := false, apart := false, laid := [("math/bits.deBruijn32tab", laid_math_bits_deBruijn32tab), ("math/bits.deBruijn64tab", laid_math_bits_deBruijn64tab), ("internal/strconv.uint64pow10", laid_internal_strconv_uint64pow10), ("unicode/utf8.acceptRanges", laid_unicode_utf8_acceptRanges), ("unicode/utf8.first", laid_unicode_utf8_first)], narrowed := true }
def GenerationNumbersUptoSaid : Prop := generationNumbersUptoRow.holds Tryz.pinned (OpenSpec.upto generationNumbersSpec)

/-- 'dasdlaw38.GenerationSeveral', WHERE WHAT IT READS IS OF BULK AT MOST 1048576: true; the input reads as it did. -/
def generationSeveralUptoRow : OpenClaim := { program := "ytlkkiimmangplaagreatdoor", sum := "43b61295c2f17292446cb7e3e8f1f2690d14c5a3cb2fb22296542307a3b61a2e", func := "dasd/dasdlaw38.GenerationSeveral", spec := "generationSeveral", inPlace := ["internal/bytealg.CountString", "internal/bytealg.IndexByteString", "internal/bytealg.IndexString"], unfollowed := true, recurses := true, named := ["unicode/utf8.first", "unicode/utf8.acceptRanges", "internal/bytealg.MaxLen", "internal/strconv.uint64pow10", "math/bits.deBruijn32tab", "math/bits.deBruijn64tab"], plainKeys := false, apart := false, laid := [("math/bits.deBruijn32tab", laid_math_bits_deBruijn32tab), ("math/bits.deBruijn64tab", laid_math_bits_deBruijn64tab), ("internal/strconv.uint64pow10", laid_internal_strconv_uint64pow10), ("unicode/utf8.acceptRanges", laid_unicode_utf8_acceptRanges), ("unicode/utf8.first", laid_unicode_utf8_first)], narrowed := true }
def GenerationSeveralUptoSaid : Prop := generationSeveralUptoRow.holds Tryz.pinned (OpenSpec.upto generationSeveralSpec)

/-- 'dasdlaw38.GenerationKeeps', WHERE WHAT IT READS IS OF BULK AT MOST 1048576: true; the input reads as it did. -/
def generationKeepsUptoRow : OpenClaim := { program := "ytlkkiimmangplaagreatdoor", sum := "43b61295c2f17292446cb7e3e8f1f2690d14c5a3cb2fb22296542307a3b61a2e", func := "dasd/dasdlaw38.GenerationKeeps", spec := "generationKeeps", inPlace := ["internal/bytealg.CountString", "internal/bytealg.IndexByteString", "internal/bytealg.IndexString"], unfollowed := true, recurses := true, named := ["unicode/utf8.first", "unicode/utf8.acceptRanges", "internal/bytealg.MaxLen", "internal/strconv.uint64pow10", "math/bits.deBruijn32tab", "math/bits.deBruijn64tab"], plainKeys := false, apart := false, laid := [("math/bits.deBruijn32tab", laid_math_bits_deBruijn32tab), ("math/bits.deBruijn64tab", laid_math_bits_deBruijn64tab), ("internal/strconv.uint64pow10", laid_internal_strconv_uint64pow10), ("unicode/utf8.acceptRanges", laid_unicode_utf8_acceptRanges), ("unicode/utf8.first", laid_unicode_utf8_first)], narrowed := true }
def GenerationKeepsUptoSaid : Prop := generationKeepsUptoRow.holds Tryz.pinned (OpenSpec.upto generationKeepsSpec)

/-- 'dasdlaw38.GenerationGreatest', WHERE WHAT IT READS IS OF BULK AT MOST 1048576: true; the input reads as it did. -/
def generationGreatestUptoRow : OpenClaim := { program := "ytlkkiimmangplaagreatdoor", sum := "43b61295c2f17292446cb7e3e8f1f2690d14c5a3cb2fb22296542307a3b61a2e", func := "dasd/dasdlaw38.GenerationGreatest", spec := "generationGreatest", inPlace := ["internal/bytealg.CountString", "internal/bytealg.IndexByteString", "internal/bytealg.IndexString"], unfollowed := true, recurses := true, named := ["unicode/utf8.first", "unicode/utf8.acceptRanges", "internal/bytealg.MaxLen", "internal/strconv.uint64pow10", "math/bits.deBruijn32tab", "math/bits.deBruijn64tab"], plainKeys := false, apart := false, laid := [("math/bits.deBruijn32tab", laid_math_bits_deBruijn32tab), ("math/bits.deBruijn64tab", laid_math_bits_deBruijn64tab), ("internal/strconv.uint64pow10", laid_internal_strconv_uint64pow10), ("unicode/utf8.acceptRanges", laid_unicode_utf8_acceptRanges), ("unicode/utf8.first", laid_unicode_utf8_first)], narrowed := true }
def GenerationGreatestUptoSaid : Prop := generationGreatestUptoRow.holds Tryz.pinned (OpenSpec.upto generationGreatestSpec)

/-- 'dasdlaw38.GenerationRelative', WHERE WHAT IT READS IS OF BULK AT MOST 1048576: true; the input reads as it did. -/
def generationRelativeUptoRow : OpenClaim := { program := "ytlkkiimmangplaagreatdoor", sum := "43b61295c2f17292446cb7e3e8f1f2690d14c5a3cb2fb22296542307a3b61a2e", func := "dasd/dasdlaw38.GenerationRelative", spec := "generationRelative", inPlace := ["internal/bytealg.CountString", "internal/bytealg.IndexByteString", "internal/bytealg.IndexString"], unfollowed := true, recurses := true, named := ["unicode/utf8.first", "unicode/utf8.acceptRanges", "internal/bytealg.MaxLen", "internal/strconv.uint64pow10", "math/bits.deBruijn32tab", "math/bits.deBruijn64tab"], plainKeys := false, apart := false, laid := [("math/bits.deBruijn32tab", laid_math_bits_deBruijn32tab), ("math/bits.deBruijn64tab", laid_math_bits_deBruijn64tab), ("internal/strconv.uint64pow10", laid_internal_strconv_uint64pow10), ("unicode/utf8.acceptRanges", laid_unicode_utf8_acceptRanges), ("unicode/utf8.first", laid_unicode_utf8_first)], narrowed := true }
def GenerationRelativeUptoSaid : Prop := generationRelativeUptoRow.holds Tryz.pinned (OpenSpec.upto generationRelativeSpec)

/-- 'dasdtop.TopAccess', WHERE WHAT IT READS IS OF BULK AT MOST 1048576: true; the input reads as it did. -/
def topAccessUptoRow : OpenClaim := { program := "ytlkkiimmangplaagreatdoor", sum := "43b61295c2f17292446cb7e3e8f1f2690d14c5a3cb2fb22296542307a3b61a2e", func := "dasd/dasdtop.TopAccess", spec := "topAccess", inPlace := ["internal/bytealg.CountString", "internal/bytealg.IndexByteString", "internal/bytealg.IndexString", "internal/abi.NoEscape", "internal/bytealg.MakeNoZero", "internal/bytealg.abigen_runtime_cmpstring"], unfollowed := true, recurses := true, named := ["unicode/utf8.first", "unicode/utf8.acceptRanges", "internal/bytealg.MaxLen", "internal/strconv.uint64pow10", "math/bits.deBruijn32tab", "math/bits.deBruijn64tab"], plainKeys := false, apart := false, laid := [("math/bits.deBruijn32tab", laid_math_bits_deBruijn32tab), ("math/bits.deBruijn64tab", laid_math_bits_deBruijn64tab), ("internal/strconv.uint64pow10", laid_internal_strconv_uint64pow10), ("unicode/utf8.acceptRanges", laid_unicode_utf8_acceptRanges), ("unicode/utf8.first", laid_unicode_utf8_first)], narrowed := true }
def TopAccessUptoSaid : Prop := topAccessUptoRow.holds Tryz.pinned (OpenSpec.upto topAccessSpec)

/-- 'dasdlaw38.GenerationRolls', WHERE WHAT IT READS IS OF BULK AT MOST 1048576: true; the input reads as it did. -/
def generationRollsUptoRow : OpenClaim := { program := "ytlkkiimmangplaagreatdoor", sum := "43b61295c2f17292446cb7e3e8f1f2690d14c5a3cb2fb22296542307a3b61a2e", func := "dasd/dasdlaw38.GenerationRolls", spec := "generationRolls", inPlace := ["internal/bytealg.CountString", "internal/bytealg.IndexByteString", "internal/bytealg.IndexString"], unfollowed := true, recurses := true, named := ["unicode/utf8.first", "unicode/utf8.acceptRanges", "internal/bytealg.MaxLen", "internal/strconv.uint64pow10", "math/bits.deBruijn32tab", "math/bits.deBruijn64tab"], plainKeys := false, apart := false, laid := [("math/bits.deBruijn32tab", laid_math_bits_deBruijn32tab), ("math/bits.deBruijn64tab", laid_math_bits_deBruijn64tab), ("internal/strconv.uint64pow10", laid_internal_strconv_uint64pow10), ("unicode/utf8.acceptRanges", laid_unicode_utf8_acceptRanges), ("unicode/utf8.first", laid_unicode_utf8_first)], narrowed := true }
def GenerationRollsUptoSaid : Prop := generationRollsUptoRow.holds Tryz.pinned (OpenSpec.upto generationRollsSpec)

/-- 'dasdlaw38.GenerationLimits', WHERE WHAT IT READS IS OF BULK AT MOST 1048576: true; the input reads as it did. -/
def generationLimitsUptoRow : OpenClaim := { program := "ytlkkiimmangplaagreatdoor", sum := "43b61295c2f17292446cb7e3e8f1f2690d14c5a3cb2fb22296542307a3b61a2e", func := "dasd/dasdlaw38.GenerationLimits", spec := "generationLimits", inPlace := ["internal/bytealg.CountString", "internal/bytealg.IndexByteString", "internal/bytealg.IndexString"], unfollowed := true, recurses := true, named := ["unicode/utf8.first", "unicode/utf8.acceptRanges", "internal/bytealg.MaxLen", "internal/strconv.uint64pow10", "math/bits.deBruijn32tab", "math/bits.deBruijn64tab"], plainKeys := false, apart := false, laid := [("math/bits.deBruijn32tab", laid_math_bits_deBruijn32tab), ("math/bits.deBruijn64tab", laid_math_bits_deBruijn64tab), ("internal/strconv.uint64pow10", laid_internal_strconv_uint64pow10), ("unicode/utf8.acceptRanges", laid_unicode_utf8_acceptRanges), ("unicode/utf8.first", laid_unicode_utf8_first)], narrowed := true }
def GenerationLimitsUptoSaid : Prop := generationLimitsUptoRow.holds Tryz.pinned (OpenSpec.upto generationLimitsSpec)

/-- 'dasdlaw33.EntryForms', WHERE WHAT IT READS IS OF BULK AT MOST 1048576: true; the input reads as it did. -/
def entryFormsUptoRow : OpenClaim := { program := "ytlkkiimmangplaagreatdoor", sum := "43b61295c2f17292446cb7e3e8f1f2690d14c5a3cb2fb22296542307a3b61a2e", func := "dasd/dasdlaw33.EntryForms", spec := "entryForms", inPlace := ["internal/bytealg.CountString", "internal/bytealg.IndexByteString", "internal/bytealg.IndexString", "internal/abi.NoEscape", "internal/bytealg.MakeNoZero"], unfollowed := true, recurses := true, named := ["unicode/utf8.first", "unicode/utf8.acceptRanges", "internal/bytealg.MaxLen", "internal/strconv.uint64pow10", "math/bits.deBruijn32tab", "math/bits.deBruijn64tab"], plainKeys := false, apart := false, laid := [("math/bits.deBruijn32tab", laid_math_bits_deBruijn32tab), ("math/bits.deBruijn64tab", laid_math_bits_deBruijn64tab), ("internal/strconv.uint64pow10", laid_internal_strconv_uint64pow10), ("unicode/utf8.acceptRanges", laid_unicode_utf8_acceptRanges), ("unicode/utf8.first", laid_unicode_utf8_first)], narrowed := true }
def EntryFormsUptoSaid : Prop := entryFormsUptoRow.holds Tryz.pinned (OpenSpec.upto entryFormsSpec)

/-- 'dasdlaw33.EntryRecords', WHERE WHAT IT READS IS OF BULK AT MOST 1048576: true; the input reads as it did. -/
def entryRecordsUptoRow : OpenClaim := { program := "ytlkkiimmangplaagreatdoor", sum := "43b61295c2f17292446cb7e3e8f1f2690d14c5a3cb2fb22296542307a3b61a2e", func := "dasd/dasdlaw33.EntryRecords", spec := "entryRecords", inPlace := ["internal/bytealg.CountString", "internal/bytealg.IndexByteString", "internal/bytealg.IndexString", "internal/abi.NoEscape", "internal/bytealg.MakeNoZero"], unfollowed := true, recurses := true, named := ["unicode/utf8.first", "unicode/utf8.acceptRanges", "internal/bytealg.MaxLen", "internal/strconv.uint64pow10", "math/bits.deBruijn32tab", "math/bits.deBruijn64tab"], plainKeys := false, apart := false, laid := [("math/bits.deBruijn32tab", laid_math_bits_deBruijn32tab), ("math/bits.deBruijn64tab", laid_math_bits_deBruijn64tab), ("internal/strconv.uint64pow10", laid_internal_strconv_uint64pow10), ("unicode/utf8.acceptRanges", laid_unicode_utf8_acceptRanges), ("unicode/utf8.first", laid_unicode_utf8_first)], narrowed := true }
def EntryRecordsUptoSaid : Prop := entryRecordsUptoRow.holds Tryz.pinned (OpenSpec.upto entryRecordsSpec)

/-- 'dasdlaw33.EntryDecodes', WHERE WHAT IT READS IS OF BULK AT MOST 1048576: true; the input reads as it did. -/
def entryDecodesUptoRow : OpenClaim := { program := "ytlkkiimmangplaagreatdoor", sum := "43b61295c2f17292446cb7e3e8f1f2690d14c5a3cb2fb22296542307a3b61a2e", func := "dasd/dasdlaw33.EntryDecodes", spec := "entryDecodes", inPlace := ["internal/bytealg.CountString", "internal/bytealg.IndexByteString", "internal/bytealg.IndexString", "internal/abi.NoEscape", "internal/bytealg.MakeNoZero"], unfollowed := true, recurses := true, named := ["unicode/utf8.first", "unicode/utf8.acceptRanges", "internal/bytealg.MaxLen", "internal/strconv.uint64pow10", "math/bits.deBruijn32tab", "math/bits.deBruijn64tab"], plainKeys := false, apart := false, laid := [("math/bits.deBruijn32tab", laid_math_bits_deBruijn32tab), ("math/bits.deBruijn64tab", laid_math_bits_deBruijn64tab), ("internal/strconv.uint64pow10", laid_internal_strconv_uint64pow10), ("unicode/utf8.acceptRanges", laid_unicode_utf8_acceptRanges), ("unicode/utf8.first", laid_unicode_utf8_first)], narrowed := true }
def EntryDecodesUptoSaid : Prop := entryDecodesUptoRow.holds Tryz.pinned (OpenSpec.upto entryDecodesSpec)

/-- 'dasdlaw33.EntryReturns', WHERE WHAT IT READS IS OF BULK AT MOST 1048576: true; the input reads as it did. -/
def entryReturnsUptoRow : OpenClaim := { program := "ytlkkiimmangplaagreatdoor", sum := "43b61295c2f17292446cb7e3e8f1f2690d14c5a3cb2fb22296542307a3b61a2e", func := "dasd/dasdlaw33.EntryReturns", spec := "entryReturns", inPlace := ["internal/bytealg.CountString", "internal/bytealg.IndexByteString", "internal/bytealg.IndexString", "internal/abi.NoEscape", "internal/bytealg.MakeNoZero"], unfollowed := true, recurses := true, named := ["unicode/utf8.first", "unicode/utf8.acceptRanges", "internal/bytealg.MaxLen", "internal/strconv.uint64pow10", "math/bits.deBruijn32tab", "math/bits.deBruijn64tab"], plainKeys := false, apart := false, laid := [("math/bits.deBruijn32tab", laid_math_bits_deBruijn32tab), ("math/bits.deBruijn64tab", laid_math_bits_deBruijn64tab), ("internal/strconv.uint64pow10", laid_internal_strconv_uint64pow10), ("unicode/utf8.acceptRanges", laid_unicode_utf8_acceptRanges), ("unicode/utf8.first", laid_unicode_utf8_first)], narrowed := true }
def EntryReturnsUptoSaid : Prop := entryReturnsUptoRow.holds Tryz.pinned (OpenSpec.upto entryReturnsSpec)

/-- 'dasdlaw33.EntryStrict', WHERE WHAT IT READS IS OF BULK AT MOST 1048576: true; the input reads as it did. -/
def entryStrictUptoRow : OpenClaim := { program := "ytlkkiimmangplaagreatdoor", sum := "43b61295c2f17292446cb7e3e8f1f2690d14c5a3cb2fb22296542307a3b61a2e", func := "dasd/dasdlaw33.EntryStrict", spec := "entryStrict", inPlace := ["internal/bytealg.CountString", "internal/bytealg.IndexByteString", "internal/bytealg.IndexString", "internal/abi.NoEscape", "internal/bytealg.MakeNoZero"], unfollowed := true, recurses := true, named := ["unicode/utf8.first", "unicode/utf8.acceptRanges", "internal/bytealg.MaxLen", "internal/strconv.uint64pow10", "math/bits.deBruijn32tab", "math/bits.deBruijn64tab"], plainKeys := false, apart := false, laid := [("math/bits.deBruijn32tab", laid_math_bits_deBruijn32tab), ("math/bits.deBruijn64tab", laid_math_bits_deBruijn64tab), ("internal/strconv.uint64pow10", laid_internal_strconv_uint64pow10), ("unicode/utf8.acceptRanges", laid_unicode_utf8_acceptRanges), ("unicode/utf8.first", laid_unicode_utf8_first)], narrowed := true }
def EntryStrictUptoSaid : Prop := entryStrictUptoRow.holds Tryz.pinned (OpenSpec.upto entryStrictSpec)

/-- 'dasdlaw33.EntryKeys', WHERE WHAT IT READS IS OF BULK AT MOST 1048576: true; the input reads as it did. -/
def entryKeysUptoRow : OpenClaim := { program := "ytlkkiimmangplaagreatdoor", sum := "43b61295c2f17292446cb7e3e8f1f2690d14c5a3cb2fb22296542307a3b61a2e", func := "dasd/dasdlaw33.EntryKeys", spec := "entryKeys", inPlace := ["internal/bytealg.CountString", "internal/bytealg.IndexByteString", "internal/bytealg.IndexString", "internal/abi.NoEscape", "internal/bytealg.MakeNoZero"], unfollowed := true, recurses := true, named := ["unicode/utf8.first", "unicode/utf8.acceptRanges", "internal/bytealg.MaxLen", "internal/strconv.uint64pow10", "math/bits.deBruijn32tab", "math/bits.deBruijn64tab"], plainKeys := false, apart := false, laid := [("math/bits.deBruijn32tab", laid_math_bits_deBruijn32tab), ("math/bits.deBruijn64tab", laid_math_bits_deBruijn64tab), ("internal/strconv.uint64pow10", laid_internal_strconv_uint64pow10), ("unicode/utf8.acceptRanges", laid_unicode_utf8_acceptRanges), ("unicode/utf8.first", laid_unicode_utf8_first)], narrowed := true }
def EntryKeysUptoSaid : Prop := entryKeysUptoRow.holds Tryz.pinned (OpenSpec.upto entryKeysSpec)

/-- 'dasdlaw33.EntryCuts', WHERE WHAT IT READS IS OF BULK AT MOST 1048576: true; the input reads as it did. -/
def entryCutsUptoRow : OpenClaim := { program := "ytlkkiimmangplaagreatdoor", sum := "43b61295c2f17292446cb7e3e8f1f2690d14c5a3cb2fb22296542307a3b61a2e", func := "dasd/dasdlaw33.EntryCuts", spec := "entryCuts", inPlace := ["internal/bytealg.CountString", "internal/bytealg.IndexByteString", "internal/bytealg.IndexString", "internal/abi.NoEscape", "internal/bytealg.MakeNoZero"], unfollowed := true, recurses := true, named := ["unicode/utf8.first", "unicode/utf8.acceptRanges", "internal/bytealg.MaxLen", "internal/strconv.uint64pow10", "math/bits.deBruijn32tab", "math/bits.deBruijn64tab"], plainKeys := false, apart := false, laid := [("math/bits.deBruijn32tab", laid_math_bits_deBruijn32tab), ("math/bits.deBruijn64tab", laid_math_bits_deBruijn64tab), ("internal/strconv.uint64pow10", laid_internal_strconv_uint64pow10), ("unicode/utf8.acceptRanges", laid_unicode_utf8_acceptRanges), ("unicode/utf8.first", laid_unicode_utf8_first)], narrowed := true }
def EntryCutsUptoSaid : Prop := entryCutsUptoRow.holds Tryz.pinned (OpenSpec.upto entryCutsSpec)

/-- 'dasdlaw34.AccessLevels', WHERE WHAT IT READS IS OF BULK AT MOST 1048576: true; the input reads as it did. -/
def accessLevelsUptoRow : OpenClaim := { program := "ytlkkiimmangplaagreatdoor", sum := "43b61295c2f17292446cb7e3e8f1f2690d14c5a3cb2fb22296542307a3b61a2e", func := "dasd/dasdlaw34.AccessLevels", spec := "accessLevels", inPlace := ["internal/bytealg.CountString", "internal/bytealg.IndexByteString", "internal/bytealg.IndexString", "internal/abi.NoEscape", "internal/bytealg.MakeNoZero", "internal/bytealg.abigen_runtime_cmpstring"], unfollowed := true, recurses := true, named := ["unicode/utf8.first", "unicode/utf8.acceptRanges", "internal/bytealg.MaxLen", "internal/strconv.uint64pow10", "math/bits.deBruijn32tab", "math/bits.deBruijn64tab"], plainKeys := false, apart := false, laid := [("math/bits.deBruijn32tab", laid_math_bits_deBruijn32tab), ("math/bits.deBruijn64tab", laid_math_bits_deBruijn64tab), ("internal/strconv.uint64pow10", laid_internal_strconv_uint64pow10), ("unicode/utf8.acceptRanges", laid_unicode_utf8_acceptRanges), ("unicode/utf8.first", laid_unicode_utf8_first)], narrowed := true }
def AccessLevelsUptoSaid : Prop := accessLevelsUptoRow.holds Tryz.pinned (OpenSpec.upto accessLevelsSpec)

/-- 'dasdlaw34.AccessNeeds', WHERE WHAT IT READS IS OF BULK AT MOST 1048576: true; the input reads as it did. -/
def accessNeedsUptoRow : OpenClaim := { program := "ytlkkiimmangplaagreatdoor", sum := "43b61295c2f17292446cb7e3e8f1f2690d14c5a3cb2fb22296542307a3b61a2e", func := "dasd/dasdlaw34.AccessNeeds", spec := "accessNeeds", inPlace := ["internal/bytealg.CountString", "internal/bytealg.IndexByteString", "internal/bytealg.IndexString", "internal/abi.NoEscape", "internal/bytealg.MakeNoZero", "internal/bytealg.abigen_runtime_cmpstring"], unfollowed := true, recurses := true, named := ["unicode/utf8.first", "unicode/utf8.acceptRanges", "internal/bytealg.MaxLen", "internal/strconv.uint64pow10", "math/bits.deBruijn32tab", "math/bits.deBruijn64tab"], plainKeys := false, apart := false, laid := [("math/bits.deBruijn32tab", laid_math_bits_deBruijn32tab), ("math/bits.deBruijn64tab", laid_math_bits_deBruijn64tab), ("internal/strconv.uint64pow10", laid_internal_strconv_uint64pow10), ("unicode/utf8.acceptRanges", laid_unicode_utf8_acceptRanges), ("unicode/utf8.first", laid_unicode_utf8_first)], narrowed := true }
def AccessNeedsUptoSaid : Prop := accessNeedsUptoRow.holds Tryz.pinned (OpenSpec.upto accessNeedsSpec)

/-- 'dasdlaw34.AccessChecks', WHERE WHAT IT READS IS OF BULK AT MOST 1048576: true; the input reads as it did. -/
def accessChecksUptoRow : OpenClaim := { program := "ytlkkiimmangplaagreatdoor", sum := "43b61295c2f17292446cb7e3e8f1f2690d14c5a3cb2fb22296542307a3b61a2e", func := "dasd/dasdlaw34.AccessChecks", spec := "accessChecks", inPlace := ["internal/bytealg.CountString", "internal/bytealg.IndexByteString", "internal/bytealg.IndexString", "internal/abi.NoEscape", "internal/bytealg.MakeNoZero", "internal/bytealg.abigen_runtime_cmpstring"], unfollowed := true, recurses := true, named := ["unicode/utf8.first", "unicode/utf8.acceptRanges", "internal/bytealg.MaxLen", "internal/strconv.uint64pow10", "math/bits.deBruijn32tab", "math/bits.deBruijn64tab"], plainKeys := false, apart := false, laid := [("math/bits.deBruijn32tab", laid_math_bits_deBruijn32tab), ("math/bits.deBruijn64tab", laid_math_bits_deBruijn64tab), ("internal/strconv.uint64pow10", laid_internal_strconv_uint64pow10), ("unicode/utf8.acceptRanges", laid_unicode_utf8_acceptRanges), ("unicode/utf8.first", laid_unicode_utf8_first)], narrowed := true }
def AccessChecksUptoSaid : Prop := accessChecksUptoRow.holds Tryz.pinned (OpenSpec.upto accessChecksSpec)

/-- 'dasdlaw34.AccessErrors', WHERE WHAT IT READS IS OF BULK AT MOST 1048576: true; the input reads as it did. -/
def accessErrorsUptoRow : OpenClaim := { program := "ytlkkiimmangplaagreatdoor", sum := "43b61295c2f17292446cb7e3e8f1f2690d14c5a3cb2fb22296542307a3b61a2e", func := "dasd/dasdlaw34.AccessErrors", spec := "accessErrors", inPlace := ["internal/bytealg.CountString", "internal/bytealg.IndexByteString", "internal/bytealg.IndexString", "internal/abi.NoEscape", "internal/bytealg.MakeNoZero", "internal/bytealg.abigen_runtime_cmpstring"], unfollowed := true, recurses := true, named := ["unicode/utf8.first", "unicode/utf8.acceptRanges", "internal/bytealg.MaxLen", "internal/strconv.uint64pow10", "math/bits.deBruijn32tab", "math/bits.deBruijn64tab"], plainKeys := false, apart := false, laid := [("math/bits.deBruijn32tab", laid_math_bits_deBruijn32tab), ("math/bits.deBruijn64tab", laid_math_bits_deBruijn64tab), ("internal/strconv.uint64pow10", laid_internal_strconv_uint64pow10), ("unicode/utf8.acceptRanges", laid_unicode_utf8_acceptRanges), ("unicode/utf8.first", laid_unicode_utf8_first)], narrowed := true }
def AccessErrorsUptoSaid : Prop := accessErrorsUptoRow.holds Tryz.pinned (OpenSpec.upto accessErrorsSpec)

/-- 'dasdlaw34.AccessPersons', WHERE WHAT IT READS IS OF BULK AT MOST 1048576: true; the input reads as it did. -/
def accessPersonsUptoRow : OpenClaim := { program := "ytlkkiimmangplaagreatdoor", sum := "43b61295c2f17292446cb7e3e8f1f2690d14c5a3cb2fb22296542307a3b61a2e", func := "dasd/dasdlaw34.AccessPersons", spec := "accessPersons", inPlace := ["internal/bytealg.CountString", "internal/bytealg.IndexByteString", "internal/bytealg.IndexString", "internal/abi.NoEscape", "internal/bytealg.MakeNoZero", "internal/bytealg.abigen_runtime_cmpstring"], unfollowed := true, recurses := true, named := ["unicode/utf8.first", "unicode/utf8.acceptRanges", "internal/bytealg.MaxLen", "internal/strconv.uint64pow10", "math/bits.deBruijn32tab", "math/bits.deBruijn64tab"], plainKeys := false, apart := false, laid := [("math/bits.deBruijn32tab", laid_math_bits_deBruijn32tab), ("math/bits.deBruijn64tab", laid_math_bits_deBruijn64tab), ("internal/strconv.uint64pow10", laid_internal_strconv_uint64pow10), ("unicode/utf8.acceptRanges", laid_unicode_utf8_acceptRanges), ("unicode/utf8.first", laid_unicode_utf8_first)], narrowed := true }
def AccessPersonsUptoSaid : Prop := accessPersonsUptoRow.holds Tryz.pinned (OpenSpec.upto accessPersonsSpec)

/-- 'dasdlaw37.RebuildNotes', WHERE WHAT IT READS IS OF BULK AT MOST 1048576: true; the input reads as it did. -/
def rebuildNotesUptoRow : OpenClaim := { program := "ytlkkiimmangplaagreatdoor", sum := "43b61295c2f17292446cb7e3e8f1f2690d14c5a3cb2fb22296542307a3b61a2e", func := "dasd/dasdlaw37.RebuildNotes", spec := "rebuildNotes", inPlace := ["internal/bytealg.CountString", "internal/bytealg.IndexByteString", "internal/bytealg.IndexString", "internal/abi.NoEscape", "internal/bytealg.MakeNoZero", "internal/bytealg.abigen_runtime_cmpstring"], unfollowed := true, recurses := true, named := ["unicode/utf8.first", "unicode/utf8.acceptRanges", "internal/bytealg.MaxLen", "internal/strconv.uint64pow10", "math/bits.deBruijn32tab", "math/bits.deBruijn64tab"], plainKeys := false, apart := false, laid := [("math/bits.deBruijn32tab", laid_math_bits_deBruijn32tab), ("math/bits.deBruijn64tab", laid_math_bits_deBruijn64tab), ("internal/strconv.uint64pow10", laid_internal_strconv_uint64pow10), ("unicode/utf8.acceptRanges", laid_unicode_utf8_acceptRanges), ("unicode/utf8.first", laid_unicode_utf8_first)], narrowed := true }
def RebuildNotesUptoSaid : Prop := rebuildNotesUptoRow.holds Tryz.pinned (OpenSpec.upto rebuildNotesSpec)

/-- 'dasdlaw37.RebuildReturns', WHERE WHAT IT READS IS OF BULK AT MOST 1048576: true; the input reads as it did. -/
def rebuildReturnsUptoRow : OpenClaim := { program := "ytlkkiimmangplaagreatdoor", sum := "43b61295c2f17292446cb7e3e8f1f2690d14c5a3cb2fb22296542307a3b61a2e", func := "dasd/dasdlaw37.RebuildReturns", spec := "rebuildReturns", inPlace := ["internal/bytealg.CountString", "internal/bytealg.IndexByteString", "internal/bytealg.IndexString", "internal/abi.NoEscape", "internal/bytealg.MakeNoZero", "internal/bytealg.abigen_runtime_cmpstring"], unfollowed := true, recurses := true, named := ["unicode/utf8.first", "unicode/utf8.acceptRanges", "internal/bytealg.MaxLen", "internal/strconv.uint64pow10", "math/bits.deBruijn32tab", "math/bits.deBruijn64tab"], plainKeys := false, apart := false, laid := [("math/bits.deBruijn32tab", laid_math_bits_deBruijn32tab), ("math/bits.deBruijn64tab", laid_math_bits_deBruijn64tab), ("internal/strconv.uint64pow10", laid_internal_strconv_uint64pow10), ("unicode/utf8.acceptRanges", laid_unicode_utf8_acceptRanges), ("unicode/utf8.first", laid_unicode_utf8_first)], narrowed := true }
def RebuildReturnsUptoSaid : Prop := rebuildReturnsUptoRow.holds Tryz.pinned (OpenSpec.upto rebuildReturnsSpec)

/-- 'dasdlaw37.RebuildCompares', WHERE WHAT IT READS IS OF BULK AT MOST 1048576: true; the input reads as it did. -/
def rebuildComparesUptoRow : OpenClaim := { program := "ytlkkiimmangplaagreatdoor", sum := "43b61295c2f17292446cb7e3e8f1f2690d14c5a3cb2fb22296542307a3b61a2e", func := "dasd/dasdlaw37.RebuildCompares", spec := "rebuildCompares", inPlace := ["internal/bytealg.CountString", "internal/bytealg.IndexByteString", "internal/bytealg.IndexString", "internal/abi.NoEscape", "internal/bytealg.MakeNoZero", "internal/bytealg.abigen_runtime_cmpstring"], unfollowed := true, recurses := true, named := ["unicode/utf8.first", "unicode/utf8.acceptRanges", "internal/bytealg.MaxLen", "internal/strconv.uint64pow10", "math/bits.deBruijn32tab", "math/bits.deBruijn64tab"], plainKeys := false, apart := false, laid := [("math/bits.deBruijn32tab", laid_math_bits_deBruijn32tab), ("math/bits.deBruijn64tab", laid_math_bits_deBruijn64tab), ("internal/strconv.uint64pow10", laid_internal_strconv_uint64pow10), ("unicode/utf8.acceptRanges", laid_unicode_utf8_acceptRanges), ("unicode/utf8.first", laid_unicode_utf8_first)], narrowed := true }
def RebuildComparesUptoSaid : Prop := rebuildComparesUptoRow.holds Tryz.pinned (OpenSpec.upto rebuildComparesSpec)

end Rows
end Go.Proofs.YtlkkiimmangplaaGreatDoor
