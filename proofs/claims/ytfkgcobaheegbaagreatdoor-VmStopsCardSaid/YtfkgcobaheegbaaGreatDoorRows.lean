/-
  NARROWER THAN 'FOR EVERY INPUT', by the rows' own cells (each row's printed sentence says how): SourceRuns: laid · SourceParts: laid · SourceGrows: laid · SourceWaits: laid · SourceCalls: laid · SourceTypes: laid · VmRuns: laid · VmMeans: laid · VmPlaces: laid · VmClones: laid · VmStops: laid · ViewMeans: laid.
  DERIVED. THE GIVEN ROWS OF THIS SEAT. 12 by the template 'for every input the law returns true; each argument reads behind the call as it read before'; 0 by the template 'total and deterministic' (their statements: YtfkgcobaheegbaaGreatDoorTotals.lean).
  GIVEN WITH THE SEED: the statements are not yours to turn. If you find one false, say at which input.
  Laid BY PROGRAM, IN A SANDBOX (cutbox-rows.mjs): the forced cells as the released guide's own fill.sh prints them over the translation 6a75cb249f2912aa… (all of the seat's roots in one cut). By AI agents, Wed Nov 11 2026. No macro, syntax, notation, axiom, sorry.
-/
import Derived.Test.YtfkgcobaheegbaaGreatDoorChecked
import GoSem.Claim
import GoSem.ClaimJoined
import GoSem.ClaimMapViews
import Derived.JoinedTies
import Derived.KernelRfl
namespace Go.Proofs.YtfkgcobaheegbaaGreatDoor
/- THE CELL 'sum', in the pinned program and in every row, IS THE sha256 OF THE DUMP (.gsa) THAT YtfkgcobaheegbaaGreatDoorProg.lean LOADS. Nothing in Lean hashes anything: it is a label: what it is worth is what the hold of that sum in a sandbox is worth. -/
noncomputable def Tryz.pinned : Pinned := { name := "ytfkgcobaheegbaagreatdoor", sum := "6a75cb249f2912aab6abddc49a85b0c57607078dabf83b57877c8234169380fb", checked := Tryz.checked }
namespace Rows
def none {H : Type} : Left H := { results := [], args := [] }

/- WHAT THE LISTED PACKAGE-LEVEL VARIABLES READ AS WHEN THE CALL BEGINS. Each datum BY PROGRAM (the guide's laid-datum.mjs) off the statement by which the dump's own 'gosem.cut.vars' lays the variable. In a bare row this is a premise. The card (YtfkgcobaheegbaaGreatDoorCards.lean) ties it to the program's text. -/
def laid_math_bits_deBruijn32tab {H : Type} : DataW H := .agg [.lit (.int .u8 0), .lit (.int .u8 1), .lit (.int .u8 28), .lit (.int .u8 2), .lit (.int .u8 29), .lit (.int .u8 14), .lit (.int .u8 24), .lit (.int .u8 3), .lit (.int .u8 30), .lit (.int .u8 22), .lit (.int .u8 20), .lit (.int .u8 15), .lit (.int .u8 25), .lit (.int .u8 17), .lit (.int .u8 4), .lit (.int .u8 8), .lit (.int .u8 31), .lit (.int .u8 27), .lit (.int .u8 13), .lit (.int .u8 23), .lit (.int .u8 21), .lit (.int .u8 19), .lit (.int .u8 16), .lit (.int .u8 7), .lit (.int .u8 26), .lit (.int .u8 12), .lit (.int .u8 18), .lit (.int .u8 6), .lit (.int .u8 11), .lit (.int .u8 5), .lit (.int .u8 10), .lit (.int .u8 9)]
def laid_math_bits_deBruijn64tab {H : Type} : DataW H := .agg [.lit (.int .u8 0), .lit (.int .u8 1), .lit (.int .u8 56), .lit (.int .u8 2), .lit (.int .u8 57), .lit (.int .u8 49), .lit (.int .u8 28), .lit (.int .u8 3), .lit (.int .u8 61), .lit (.int .u8 58), .lit (.int .u8 42), .lit (.int .u8 50), .lit (.int .u8 38), .lit (.int .u8 29), .lit (.int .u8 17), .lit (.int .u8 4), .lit (.int .u8 62), .lit (.int .u8 47), .lit (.int .u8 59), .lit (.int .u8 36), .lit (.int .u8 45), .lit (.int .u8 43), .lit (.int .u8 51), .lit (.int .u8 22), .lit (.int .u8 53), .lit (.int .u8 39), .lit (.int .u8 33), .lit (.int .u8 30), .lit (.int .u8 24), .lit (.int .u8 18), .lit (.int .u8 12), .lit (.int .u8 5), .lit (.int .u8 63), .lit (.int .u8 55), .lit (.int .u8 48), .lit (.int .u8 27), .lit (.int .u8 60), .lit (.int .u8 41), .lit (.int .u8 37), .lit (.int .u8 16), .lit (.int .u8 46), .lit (.int .u8 35), .lit (.int .u8 44), .lit (.int .u8 21), .lit (.int .u8 52), .lit (.int .u8 32), .lit (.int .u8 23), .lit (.int .u8 11), .lit (.int .u8 54), .lit (.int .u8 26), .lit (.int .u8 40), .lit (.int .u8 15), .lit (.int .u8 34), .lit (.int .u8 20), .lit (.int .u8 31), .lit (.int .u8 10), .lit (.int .u8 25), .lit (.int .u8 14), .lit (.int .u8 19), .lit (.int .u8 9), .lit (.int .u8 13), .lit (.int .u8 8), .lit (.int .u8 7), .lit (.int .u8 6)]
def laid_internal_strconv_uint64pow10 {H : Type} : DataW H := .agg [.lit (.int .u64 1), .lit (.int .u64 10), .lit (.int .u64 100), .lit (.int .u64 1000), .lit (.int .u64 10000), .lit (.int .u64 100000), .lit (.int .u64 1000000), .lit (.int .u64 10000000), .lit (.int .u64 100000000), .lit (.int .u64 1000000000), .lit (.int .u64 10000000000), .lit (.int .u64 100000000000), .lit (.int .u64 1000000000000), .lit (.int .u64 10000000000000), .lit (.int .u64 100000000000000), .lit (.int .u64 1000000000000000), .lit (.int .u64 10000000000000000), .lit (.int .u64 100000000000000000), .lit (.int .u64 1000000000000000000), .lit (.int .u64 10000000000000000000)]
def laid_strconv_ErrRange {H : Type} : DataW H := .iface "*errors.errorString" (.ptr (.agg [.lit (.string [118, 97, 108, 117, 101, 32, 111, 117, 116, 32, 111, 102, 32, 114, 97, 110, 103, 101])]))
def laid_strconv_ErrSyntax {H : Type} : DataW H := .iface "*errors.errorString" (.ptr (.agg [.lit (.string [105, 110, 118, 97, 108, 105, 100, 32, 115, 121, 110, 116, 97, 120])]))

/-- 'furcatelaw07.SourceRuns': WHATEVER THE INPUT: true; the input reads as it did. -/
def sourceRunsSpec : ChangeSpec := { name := "sourceRuns", fn := fun _ => fun
  | [d1, d2, d3] => { results := [.lit (.bool true)], args := [d1, d2, d3] }
  | _ => none }
def sourceRunsRow : OpenClaim := { program := "ytfkgcobaheegbaagreatdoor", sum := "6a75cb249f2912aab6abddc49a85b0c57607078dabf83b57877c8234169380fb", func := "furcate/furcatelaw07.SourceRuns", spec := "sourceRuns", unfollowed := true, recurses := true, named := ["strconv.ErrSyntax", "strconv.ErrRange", "internal/strconv.uint64pow10", "math/bits.deBruijn32tab", "math/bits.deBruijn64tab"], apart := false, laid := [("math/bits.deBruijn32tab", laid_math_bits_deBruijn32tab), ("math/bits.deBruijn64tab", laid_math_bits_deBruijn64tab), ("internal/strconv.uint64pow10", laid_internal_strconv_uint64pow10), ("strconv.ErrRange", laid_strconv_ErrRange), ("strconv.ErrSyntax", laid_strconv_ErrSyntax)] }
def SourceRunsSaid : Prop := sourceRunsRow.holds Tryz.pinned (OpenSpec.ofChange sourceRunsSpec)

/-- ITS FALSE NEIGHBOUR: 'it returns false'. Refute it at one input. -/
def sourceRunsWrong : ChangeSpec := { name := "sourceRuns", fn := fun _ => fun
  | [d1, d2, d3] => { results := [.lit (.bool false)], args := [d1, d2, d3] }
  | _ => none }
def SourceRunsWrongFalsely : Prop := sourceRunsRow.holds Tryz.pinned (OpenSpec.ofChange sourceRunsWrong)

/-- 'furcatelaw07.SourceParts': WHATEVER THE INPUT: true; the input reads as it did. -/
def sourcePartsSpec : ChangeSpec := { name := "sourceParts", fn := fun _ => fun
  | [d1, d2, d3] => { results := [.lit (.bool true)], args := [d1, d2, d3] }
  | _ => none }
def sourcePartsRow : OpenClaim := { program := "ytfkgcobaheegbaagreatdoor", sum := "6a75cb249f2912aab6abddc49a85b0c57607078dabf83b57877c8234169380fb", func := "furcate/furcatelaw07.SourceParts", spec := "sourceParts", unfollowed := true, recurses := true, named := ["strconv.ErrSyntax", "strconv.ErrRange", "internal/strconv.uint64pow10", "math/bits.deBruijn32tab", "math/bits.deBruijn64tab"], apart := false, laid := [("math/bits.deBruijn32tab", laid_math_bits_deBruijn32tab), ("math/bits.deBruijn64tab", laid_math_bits_deBruijn64tab), ("internal/strconv.uint64pow10", laid_internal_strconv_uint64pow10), ("strconv.ErrRange", laid_strconv_ErrRange), ("strconv.ErrSyntax", laid_strconv_ErrSyntax)] }
def SourcePartsSaid : Prop := sourcePartsRow.holds Tryz.pinned (OpenSpec.ofChange sourcePartsSpec)

/-- ITS FALSE NEIGHBOUR: 'it returns false'. Refute it at one input. -/
def sourcePartsWrong : ChangeSpec := { name := "sourceParts", fn := fun _ => fun
  | [d1, d2, d3] => { results := [.lit (.bool false)], args := [d1, d2, d3] }
  | _ => none }
def SourcePartsWrongFalsely : Prop := sourcePartsRow.holds Tryz.pinned (OpenSpec.ofChange sourcePartsWrong)

/-- 'furcatelaw07.SourceGrows': WHATEVER THE INPUT: true; the input reads as it did. -/
def sourceGrowsSpec : ChangeSpec := { name := "sourceGrows", fn := fun _ => fun
  | [d1, d2, d3] => { results := [.lit (.bool true)], args := [d1, d2, d3] }
  | _ => none }
def sourceGrowsRow : OpenClaim := { program := "ytfkgcobaheegbaagreatdoor", sum := "6a75cb249f2912aab6abddc49a85b0c57607078dabf83b57877c8234169380fb", func := "furcate/furcatelaw07.SourceGrows", spec := "sourceGrows", unfollowed := true, recurses := true, named := ["strconv.ErrSyntax", "strconv.ErrRange", "internal/strconv.uint64pow10", "math/bits.deBruijn32tab", "math/bits.deBruijn64tab"], apart := false, laid := [("math/bits.deBruijn32tab", laid_math_bits_deBruijn32tab), ("math/bits.deBruijn64tab", laid_math_bits_deBruijn64tab), ("internal/strconv.uint64pow10", laid_internal_strconv_uint64pow10), ("strconv.ErrRange", laid_strconv_ErrRange), ("strconv.ErrSyntax", laid_strconv_ErrSyntax)] }
def SourceGrowsSaid : Prop := sourceGrowsRow.holds Tryz.pinned (OpenSpec.ofChange sourceGrowsSpec)

/-- ITS FALSE NEIGHBOUR: 'it returns false'. Refute it at one input. -/
def sourceGrowsWrong : ChangeSpec := { name := "sourceGrows", fn := fun _ => fun
  | [d1, d2, d3] => { results := [.lit (.bool false)], args := [d1, d2, d3] }
  | _ => none }
def SourceGrowsWrongFalsely : Prop := sourceGrowsRow.holds Tryz.pinned (OpenSpec.ofChange sourceGrowsWrong)

/-- 'furcatelaw07.SourceWaits': WHATEVER THE INPUT: true; the input reads as it did. -/
def sourceWaitsSpec : ChangeSpec := { name := "sourceWaits", fn := fun _ => fun
  | [d1, d2, d3] => { results := [.lit (.bool true)], args := [d1, d2, d3] }
  | _ => none }
def sourceWaitsRow : OpenClaim := { program := "ytfkgcobaheegbaagreatdoor", sum := "6a75cb249f2912aab6abddc49a85b0c57607078dabf83b57877c8234169380fb", func := "furcate/furcatelaw07.SourceWaits", spec := "sourceWaits", unfollowed := true, recurses := true, named := ["strconv.ErrSyntax", "strconv.ErrRange", "internal/strconv.uint64pow10", "math/bits.deBruijn32tab", "math/bits.deBruijn64tab"], apart := false, laid := [("math/bits.deBruijn32tab", laid_math_bits_deBruijn32tab), ("math/bits.deBruijn64tab", laid_math_bits_deBruijn64tab), ("internal/strconv.uint64pow10", laid_internal_strconv_uint64pow10), ("strconv.ErrRange", laid_strconv_ErrRange), ("strconv.ErrSyntax", laid_strconv_ErrSyntax)] }
def SourceWaitsSaid : Prop := sourceWaitsRow.holds Tryz.pinned (OpenSpec.ofChange sourceWaitsSpec)

/-- ITS FALSE NEIGHBOUR: 'it returns false'. Refute it at one input. -/
def sourceWaitsWrong : ChangeSpec := { name := "sourceWaits", fn := fun _ => fun
  | [d1, d2, d3] => { results := [.lit (.bool false)], args := [d1, d2, d3] }
  | _ => none }
def SourceWaitsWrongFalsely : Prop := sourceWaitsRow.holds Tryz.pinned (OpenSpec.ofChange sourceWaitsWrong)

/-- 'furcatelaw07.SourceCalls': WHATEVER THE INPUT: true; the input reads as it did. -/
def sourceCallsSpec : ChangeSpec := { name := "sourceCalls", fn := fun _ => fun
  | [d1, d2, d3] => { results := [.lit (.bool true)], args := [d1, d2, d3] }
  | _ => none }
def sourceCallsRow : OpenClaim := { program := "ytfkgcobaheegbaagreatdoor", sum := "6a75cb249f2912aab6abddc49a85b0c57607078dabf83b57877c8234169380fb", func := "furcate/furcatelaw07.SourceCalls", spec := "sourceCalls", unfollowed := true, recurses := true, named := ["strconv.ErrSyntax", "strconv.ErrRange", "internal/strconv.uint64pow10", "math/bits.deBruijn32tab", "math/bits.deBruijn64tab"], apart := false, laid := [("math/bits.deBruijn32tab", laid_math_bits_deBruijn32tab), ("math/bits.deBruijn64tab", laid_math_bits_deBruijn64tab), ("internal/strconv.uint64pow10", laid_internal_strconv_uint64pow10), ("strconv.ErrRange", laid_strconv_ErrRange), ("strconv.ErrSyntax", laid_strconv_ErrSyntax)] }
def SourceCallsSaid : Prop := sourceCallsRow.holds Tryz.pinned (OpenSpec.ofChange sourceCallsSpec)

/-- ITS FALSE NEIGHBOUR: 'it returns false'. Refute it at one input. -/
def sourceCallsWrong : ChangeSpec := { name := "sourceCalls", fn := fun _ => fun
  | [d1, d2, d3] => { results := [.lit (.bool false)], args := [d1, d2, d3] }
  | _ => none }
def SourceCallsWrongFalsely : Prop := sourceCallsRow.holds Tryz.pinned (OpenSpec.ofChange sourceCallsWrong)

/-- 'furcatelaw07.SourceTypes': WHATEVER THE INPUT: true; the input reads as it did. -/
def sourceTypesSpec : ChangeSpec := { name := "sourceTypes", fn := fun _ => fun
  | [d1, d2, d3] => { results := [.lit (.bool true)], args := [d1, d2, d3] }
  | _ => none }
def sourceTypesRow : OpenClaim := { program := "ytfkgcobaheegbaagreatdoor", sum := "6a75cb249f2912aab6abddc49a85b0c57607078dabf83b57877c8234169380fb", func := "furcate/furcatelaw07.SourceTypes", spec := "sourceTypes", unfollowed := true, recurses := true, named := ["strconv.ErrSyntax", "strconv.ErrRange", "internal/strconv.uint64pow10", "math/bits.deBruijn32tab", "math/bits.deBruijn64tab"], apart := false, laid := [("math/bits.deBruijn32tab", laid_math_bits_deBruijn32tab), ("math/bits.deBruijn64tab", laid_math_bits_deBruijn64tab), ("internal/strconv.uint64pow10", laid_internal_strconv_uint64pow10), ("strconv.ErrRange", laid_strconv_ErrRange), ("strconv.ErrSyntax", laid_strconv_ErrSyntax)] }
def SourceTypesSaid : Prop := sourceTypesRow.holds Tryz.pinned (OpenSpec.ofChange sourceTypesSpec)

/-- ITS FALSE NEIGHBOUR: 'it returns false'. Refute it at one input. -/
def sourceTypesWrong : ChangeSpec := { name := "sourceTypes", fn := fun _ => fun
  | [d1, d2, d3] => { results := [.lit (.bool false)], args := [d1, d2, d3] }
  | _ => none }
def SourceTypesWrongFalsely : Prop := sourceTypesRow.holds Tryz.pinned (OpenSpec.ofChange sourceTypesWrong)

/-- 'furcatelaw11.VmRuns': WHATEVER THE INPUT: true; the input reads as it did. -/
def vmRunsSpec : ChangeSpec := { name := "vmRuns", fn := fun _ => fun
  | [d1, d2, d3] => { results := [.lit (.bool true)], args := [d1, d2, d3] }
  | _ => none }
def vmRunsRow : OpenClaim := { program := "ytfkgcobaheegbaagreatdoor", sum := "6a75cb249f2912aab6abddc49a85b0c57607078dabf83b57877c8234169380fb", func := "furcate/furcatelaw11.VmRuns", spec := "vmRuns", unfollowed := true, recurses := true, named := ["strconv.ErrSyntax", "strconv.ErrRange", "internal/strconv.uint64pow10", "math/bits.deBruijn32tab", "math/bits.deBruijn64tab"], apart := false, laid := [("math/bits.deBruijn32tab", laid_math_bits_deBruijn32tab), ("math/bits.deBruijn64tab", laid_math_bits_deBruijn64tab), ("internal/strconv.uint64pow10", laid_internal_strconv_uint64pow10), ("strconv.ErrRange", laid_strconv_ErrRange), ("strconv.ErrSyntax", laid_strconv_ErrSyntax)] }
def VmRunsSaid : Prop := vmRunsRow.holds Tryz.pinned (OpenSpec.ofChange vmRunsSpec)

/-- ITS FALSE NEIGHBOUR: 'it returns false'. Refute it at one input. -/
def vmRunsWrong : ChangeSpec := { name := "vmRuns", fn := fun _ => fun
  | [d1, d2, d3] => { results := [.lit (.bool false)], args := [d1, d2, d3] }
  | _ => none }
def VmRunsWrongFalsely : Prop := vmRunsRow.holds Tryz.pinned (OpenSpec.ofChange vmRunsWrong)

/-- 'furcatelaw11.VmMeans': WHATEVER THE INPUT: true; the input reads as it did. -/
def vmMeansSpec : ChangeSpec := { name := "vmMeans", fn := fun _ => fun
  | [d1, d2, d3] => { results := [.lit (.bool true)], args := [d1, d2, d3] }
  | _ => none }
def vmMeansRow : OpenClaim := { program := "ytfkgcobaheegbaagreatdoor", sum := "6a75cb249f2912aab6abddc49a85b0c57607078dabf83b57877c8234169380fb", func := "furcate/furcatelaw11.VmMeans", spec := "vmMeans", unfollowed := true, recurses := true, named := ["strconv.ErrSyntax", "strconv.ErrRange", "internal/strconv.uint64pow10", "math/bits.deBruijn32tab", "math/bits.deBruijn64tab"], apart := false, laid := [("math/bits.deBruijn32tab", laid_math_bits_deBruijn32tab), ("math/bits.deBruijn64tab", laid_math_bits_deBruijn64tab), ("internal/strconv.uint64pow10", laid_internal_strconv_uint64pow10), ("strconv.ErrRange", laid_strconv_ErrRange), ("strconv.ErrSyntax", laid_strconv_ErrSyntax)] }
def VmMeansSaid : Prop := vmMeansRow.holds Tryz.pinned (OpenSpec.ofChange vmMeansSpec)

/-- ITS FALSE NEIGHBOUR: 'it returns false'. Refute it at one input. -/
def vmMeansWrong : ChangeSpec := { name := "vmMeans", fn := fun _ => fun
  | [d1, d2, d3] => { results := [.lit (.bool false)], args := [d1, d2, d3] }
  | _ => none }
def VmMeansWrongFalsely : Prop := vmMeansRow.holds Tryz.pinned (OpenSpec.ofChange vmMeansWrong)

/-- 'furcatelaw11.VmPlaces': WHATEVER THE INPUT: true; the input reads as it did. -/
def vmPlacesSpec : ChangeSpec := { name := "vmPlaces", fn := fun _ => fun
  | [d1, d2, d3] => { results := [.lit (.bool true)], args := [d1, d2, d3] }
  | _ => none }
def vmPlacesRow : OpenClaim := { program := "ytfkgcobaheegbaagreatdoor", sum := "6a75cb249f2912aab6abddc49a85b0c57607078dabf83b57877c8234169380fb", func := "furcate/furcatelaw11.VmPlaces", spec := "vmPlaces", unfollowed := true, recurses := true, named := ["strconv.ErrSyntax", "strconv.ErrRange", "internal/strconv.uint64pow10", "math/bits.deBruijn32tab", "math/bits.deBruijn64tab"], apart := false, laid := [("math/bits.deBruijn32tab", laid_math_bits_deBruijn32tab), ("math/bits.deBruijn64tab", laid_math_bits_deBruijn64tab), ("internal/strconv.uint64pow10", laid_internal_strconv_uint64pow10), ("strconv.ErrRange", laid_strconv_ErrRange), ("strconv.ErrSyntax", laid_strconv_ErrSyntax)] }
def VmPlacesSaid : Prop := vmPlacesRow.holds Tryz.pinned (OpenSpec.ofChange vmPlacesSpec)

/-- ITS FALSE NEIGHBOUR: 'it returns false'. Refute it at one input. -/
def vmPlacesWrong : ChangeSpec := { name := "vmPlaces", fn := fun _ => fun
  | [d1, d2, d3] => { results := [.lit (.bool false)], args := [d1, d2, d3] }
  | _ => none }
def VmPlacesWrongFalsely : Prop := vmPlacesRow.holds Tryz.pinned (OpenSpec.ofChange vmPlacesWrong)

/-- 'furcatelaw11.VmClones': WHATEVER THE INPUT: true; the input reads as it did. -/
def vmClonesSpec : ChangeSpec := { name := "vmClones", fn := fun _ => fun
  | [d1, d2, d3] => { results := [.lit (.bool true)], args := [d1, d2, d3] }
  | _ => none }
def vmClonesRow : OpenClaim := { program := "ytfkgcobaheegbaagreatdoor", sum := "6a75cb249f2912aab6abddc49a85b0c57607078dabf83b57877c8234169380fb", func := "furcate/furcatelaw11.VmClones", spec := "vmClones", unfollowed := true, recurses := true, named := ["strconv.ErrSyntax", "strconv.ErrRange", "internal/strconv.uint64pow10", "math/bits.deBruijn32tab", "math/bits.deBruijn64tab"], apart := false, laid := [("math/bits.deBruijn32tab", laid_math_bits_deBruijn32tab), ("math/bits.deBruijn64tab", laid_math_bits_deBruijn64tab), ("internal/strconv.uint64pow10", laid_internal_strconv_uint64pow10), ("strconv.ErrRange", laid_strconv_ErrRange), ("strconv.ErrSyntax", laid_strconv_ErrSyntax)] }
def VmClonesSaid : Prop := vmClonesRow.holds Tryz.pinned (OpenSpec.ofChange vmClonesSpec)

/-- ITS FALSE NEIGHBOUR: 'it returns false'. Refute it at one input. -/
def vmClonesWrong : ChangeSpec := { name := "vmClones", fn := fun _ => fun
  | [d1, d2, d3] => { results := [.lit (.bool false)], args := [d1, d2, d3] }
  | _ => none }
def VmClonesWrongFalsely : Prop := vmClonesRow.holds Tryz.pinned (OpenSpec.ofChange vmClonesWrong)

/-- 'furcatelaw11.VmStops': WHATEVER THE INPUT: true; the input reads as it did. -/
def vmStopsSpec : ChangeSpec := { name := "vmStops", fn := fun _ => fun
  | [d1, d2, d3] => { results := [.lit (.bool true)], args := [d1, d2, d3] }
  | _ => none }
def vmStopsRow : OpenClaim := { program := "ytfkgcobaheegbaagreatdoor", sum := "6a75cb249f2912aab6abddc49a85b0c57607078dabf83b57877c8234169380fb", func := "furcate/furcatelaw11.VmStops", spec := "vmStops", unfollowed := true, recurses := true, named := ["strconv.ErrSyntax", "strconv.ErrRange", "internal/strconv.uint64pow10", "math/bits.deBruijn32tab", "math/bits.deBruijn64tab"], apart := false, laid := [("math/bits.deBruijn32tab", laid_math_bits_deBruijn32tab), ("math/bits.deBruijn64tab", laid_math_bits_deBruijn64tab), ("internal/strconv.uint64pow10", laid_internal_strconv_uint64pow10), ("strconv.ErrRange", laid_strconv_ErrRange), ("strconv.ErrSyntax", laid_strconv_ErrSyntax)] }
def VmStopsSaid : Prop := vmStopsRow.holds Tryz.pinned (OpenSpec.ofChange vmStopsSpec)

/-- ITS FALSE NEIGHBOUR: 'it returns false'. Refute it at one input. -/
def vmStopsWrong : ChangeSpec := { name := "vmStops", fn := fun _ => fun
  | [d1, d2, d3] => { results := [.lit (.bool false)], args := [d1, d2, d3] }
  | _ => none }
def VmStopsWrongFalsely : Prop := vmStopsRow.holds Tryz.pinned (OpenSpec.ofChange vmStopsWrong)

/-- 'furcatelaw12.ViewMeans': WHATEVER THE INPUT: true; the input reads as it did. -/
def viewMeansSpec : ChangeSpec := { name := "viewMeans", fn := fun _ => fun
  | [d1, d2, d3] => { results := [.lit (.bool true)], args := [d1, d2, d3] }
  | _ => none }
def viewMeansRow : OpenClaim := { program := "ytfkgcobaheegbaagreatdoor", sum := "6a75cb249f2912aab6abddc49a85b0c57607078dabf83b57877c8234169380fb", func := "furcate/furcatelaw12.ViewMeans", spec := "viewMeans", inPlace := ["internal/abi.NoEscape", "internal/bytealg.MakeNoZero"], unfollowed := true, recurses := true, named := ["strconv.ErrSyntax", "strconv.ErrRange", "internal/strconv.uint64pow10", "math/bits.deBruijn32tab", "math/bits.deBruijn64tab"], apart := false, laid := [("math/bits.deBruijn32tab", laid_math_bits_deBruijn32tab), ("math/bits.deBruijn64tab", laid_math_bits_deBruijn64tab), ("internal/strconv.uint64pow10", laid_internal_strconv_uint64pow10), ("strconv.ErrRange", laid_strconv_ErrRange), ("strconv.ErrSyntax", laid_strconv_ErrSyntax)] }
def ViewMeansSaid : Prop := viewMeansRow.holds Tryz.pinned (OpenSpec.ofChange viewMeansSpec)

/-- ITS FALSE NEIGHBOUR: 'it returns false'. Refute it at one input. -/
def viewMeansWrong : ChangeSpec := { name := "viewMeans", fn := fun _ => fun
  | [d1, d2, d3] => { results := [.lit (.bool false)], args := [d1, d2, d3] }
  | _ => none }
def ViewMeansWrongFalsely : Prop := viewMeansRow.holds Tryz.pinned (OpenSpec.ofChange viewMeansWrong)

/- THE SECOND FORM. 'bulk': how many values and letters a reading holds, each counted each time it is reached (what is shared counts as often as it is met; a slice's spare places count too). A statement '..UptoSaid' is the law's where the arguments, and the package variables that the reading takes, are together of bulk at most 1048576: NARROWER than '..Said'. Prove '..Said' where nothing that the law and all that it calls make is longer than what came in: it says more and counts as full. Else prove '..UptoSaid'. A law counts once. -/
mutual
def uptoBulk {H : Type} : DataW H → Nat
  | .lit (.string bytes) => bytes.length + 1
  | .lit _ => 1
  | .nil => 1
  | .ptr d => uptoBulk d + 1
  | .slice elems spare => uptoBulkAll elems + uptoBulkAll spare + 1
  | .agg parts => uptoBulkAll parts + 1
  | .iface _ d => uptoBulk d + 1
  | .map entries => uptoBulkEntries entries + 1
  | .held _ => 1
def uptoBulkAll {H : Type} : List (DataW H) → Nat
  | [] => 0
  | d :: r => uptoBulk d + uptoBulkAll r
def uptoBulkEntries {H : Type} : List (Lit × DataW H) → Nat
  | [] => 0
  | x :: r => uptoBulkEntry x + uptoBulkEntries r
def uptoBulkEntry {H : Type} : Lit × DataW H → Nat
  | (.string bytes, d) => bytes.length + uptoBulk d + 1
  | (_, d) => uptoBulk d + 1
 end
def uptoSmall : (H : Type) → List (DataW H) → Bool := fun _ ds => decide (uptoBulkAll ds ≤ 1048576)
def OpenSpec.upto (s : _root_.Go.ChangeSpec) : _root_.Go.OpenSpec := { _root_.Go.OpenSpec.ofChange s with cond := some uptoSmall }

/-- 'furcatelaw07.SourceRuns', WHERE WHAT IT READS IS OF BULK AT MOST 1048576: true; the input reads as it did. -/
def sourceRunsUptoRow : OpenClaim := { program := "ytfkgcobaheegbaagreatdoor", sum := "6a75cb249f2912aab6abddc49a85b0c57607078dabf83b57877c8234169380fb", func := "furcate/furcatelaw07.SourceRuns", spec := "sourceRuns", unfollowed := true, recurses := true, named := ["strconv.ErrSyntax", "strconv.ErrRange", "internal/strconv.uint64pow10", "math/bits.deBruijn32tab", "math/bits.deBruijn64tab"], apart := false, laid := [("math/bits.deBruijn32tab", laid_math_bits_deBruijn32tab), ("math/bits.deBruijn64tab", laid_math_bits_deBruijn64tab), ("internal/strconv.uint64pow10", laid_internal_strconv_uint64pow10), ("strconv.ErrRange", laid_strconv_ErrRange), ("strconv.ErrSyntax", laid_strconv_ErrSyntax)], narrowed := true }
def SourceRunsUptoSaid : Prop := sourceRunsUptoRow.holds Tryz.pinned (OpenSpec.upto sourceRunsSpec)

/-- 'furcatelaw07.SourceParts', WHERE WHAT IT READS IS OF BULK AT MOST 1048576: true; the input reads as it did. -/
def sourcePartsUptoRow : OpenClaim := { program := "ytfkgcobaheegbaagreatdoor", sum := "6a75cb249f2912aab6abddc49a85b0c57607078dabf83b57877c8234169380fb", func := "furcate/furcatelaw07.SourceParts", spec := "sourceParts", unfollowed := true, recurses := true, named := ["strconv.ErrSyntax", "strconv.ErrRange", "internal/strconv.uint64pow10", "math/bits.deBruijn32tab", "math/bits.deBruijn64tab"], apart := false, laid := [("math/bits.deBruijn32tab", laid_math_bits_deBruijn32tab), ("math/bits.deBruijn64tab", laid_math_bits_deBruijn64tab), ("internal/strconv.uint64pow10", laid_internal_strconv_uint64pow10), ("strconv.ErrRange", laid_strconv_ErrRange), ("strconv.ErrSyntax", laid_strconv_ErrSyntax)], narrowed := true }
def SourcePartsUptoSaid : Prop := sourcePartsUptoRow.holds Tryz.pinned (OpenSpec.upto sourcePartsSpec)

/-- 'furcatelaw07.SourceGrows', WHERE WHAT IT READS IS OF BULK AT MOST 1048576: true; the input reads as it did. -/
def sourceGrowsUptoRow : OpenClaim := { program := "ytfkgcobaheegbaagreatdoor", sum := "6a75cb249f2912aab6abddc49a85b0c57607078dabf83b57877c8234169380fb", func := "furcate/furcatelaw07.SourceGrows", spec := "sourceGrows", unfollowed := true, recurses := true, named := ["strconv.ErrSyntax", "strconv.ErrRange", "internal/strconv.uint64pow10", "math/bits.deBruijn32tab", "math/bits.deBruijn64tab"], apart := false, laid := [("math/bits.deBruijn32tab", laid_math_bits_deBruijn32tab), ("math/bits.deBruijn64tab", laid_math_bits_deBruijn64tab), ("internal/strconv.uint64pow10", laid_internal_strconv_uint64pow10), ("strconv.ErrRange", laid_strconv_ErrRange), ("strconv.ErrSyntax", laid_strconv_ErrSyntax)], narrowed := true }
def SourceGrowsUptoSaid : Prop := sourceGrowsUptoRow.holds Tryz.pinned (OpenSpec.upto sourceGrowsSpec)

/-- 'furcatelaw07.SourceWaits', WHERE WHAT IT READS IS OF BULK AT MOST 1048576: true; the input reads as it did. -/
def sourceWaitsUptoRow : OpenClaim := { program := "ytfkgcobaheegbaagreatdoor", sum := "6a75cb249f2912aab6abddc49a85b0c57607078dabf83b57877c8234169380fb", func := "furcate/furcatelaw07.SourceWaits", spec := "sourceWaits", unfollowed := true, recurses := true, named := ["strconv.ErrSyntax", "strconv.ErrRange", "internal/strconv.uint64pow10", "math/bits.deBruijn32tab", "math/bits.deBruijn64tab"], apart := false, laid := [("math/bits.deBruijn32tab", laid_math_bits_deBruijn32tab), ("math/bits.deBruijn64tab", laid_math_bits_deBruijn64tab), ("internal/strconv.uint64pow10", laid_internal_strconv_uint64pow10), ("strconv.ErrRange", laid_strconv_ErrRange), ("strconv.ErrSyntax", laid_strconv_ErrSyntax)], narrowed := true }
def SourceWaitsUptoSaid : Prop := sourceWaitsUptoRow.holds Tryz.pinned (OpenSpec.upto sourceWaitsSpec)

/-- 'furcatelaw07.SourceCalls', WHERE WHAT IT READS IS OF BULK AT MOST 1048576: true; the input reads as it did. -/
def sourceCallsUptoRow : OpenClaim := { program := "ytfkgcobaheegbaagreatdoor", sum := "6a75cb249f2912aab6abddc49a85b0c57607078dabf83b57877c8234169380fb", func := "furcate/furcatelaw07.SourceCalls", spec := "sourceCalls", unfollowed := true, recurses := true, named := ["strconv.ErrSyntax", "strconv.ErrRange", "internal/strconv.uint64pow10", "math/bits.deBruijn32tab", "math/bits.deBruijn64tab"], apart := false, laid := [("math/bits.deBruijn32tab", laid_math_bits_deBruijn32tab), ("math/bits.deBruijn64tab", laid_math_bits_deBruijn64tab), ("internal/strconv.uint64pow10", laid_internal_strconv_uint64pow10), ("strconv.ErrRange", laid_strconv_ErrRange), ("strconv.ErrSyntax", laid_strconv_ErrSyntax)], narrowed := true }
def SourceCallsUptoSaid : Prop := sourceCallsUptoRow.holds Tryz.pinned (OpenSpec.upto sourceCallsSpec)

/-- 'furcatelaw07.SourceTypes', WHERE WHAT IT READS IS OF BULK AT MOST 1048576: true; the input reads as it did. -/
def sourceTypesUptoRow : OpenClaim := { program := "ytfkgcobaheegbaagreatdoor", sum := "6a75cb249f2912aab6abddc49a85b0c57607078dabf83b57877c8234169380fb", func := "furcate/furcatelaw07.SourceTypes", spec := "sourceTypes", unfollowed := true, recurses := true, named := ["strconv.ErrSyntax", "strconv.ErrRange", "internal/strconv.uint64pow10", "math/bits.deBruijn32tab", "math/bits.deBruijn64tab"], apart := false, laid := [("math/bits.deBruijn32tab", laid_math_bits_deBruijn32tab), ("math/bits.deBruijn64tab", laid_math_bits_deBruijn64tab), ("internal/strconv.uint64pow10", laid_internal_strconv_uint64pow10), ("strconv.ErrRange", laid_strconv_ErrRange), ("strconv.ErrSyntax", laid_strconv_ErrSyntax)], narrowed := true }
def SourceTypesUptoSaid : Prop := sourceTypesUptoRow.holds Tryz.pinned (OpenSpec.upto sourceTypesSpec)

/-- 'furcatelaw11.VmRuns', WHERE WHAT IT READS IS OF BULK AT MOST 1048576: true; the input reads as it did. -/
def vmRunsUptoRow : OpenClaim := { program := "ytfkgcobaheegbaagreatdoor", sum := "6a75cb249f2912aab6abddc49a85b0c57607078dabf83b57877c8234169380fb", func := "furcate/furcatelaw11.VmRuns", spec := "vmRuns", unfollowed := true, recurses := true, named := ["strconv.ErrSyntax", "strconv.ErrRange", "internal/strconv.uint64pow10", "math/bits.deBruijn32tab", "math/bits.deBruijn64tab"], apart := false, laid := [("math/bits.deBruijn32tab", laid_math_bits_deBruijn32tab), ("math/bits.deBruijn64tab", laid_math_bits_deBruijn64tab), ("internal/strconv.uint64pow10", laid_internal_strconv_uint64pow10), ("strconv.ErrRange", laid_strconv_ErrRange), ("strconv.ErrSyntax", laid_strconv_ErrSyntax)], narrowed := true }
def VmRunsUptoSaid : Prop := vmRunsUptoRow.holds Tryz.pinned (OpenSpec.upto vmRunsSpec)

/-- 'furcatelaw11.VmMeans', WHERE WHAT IT READS IS OF BULK AT MOST 1048576: true; the input reads as it did. -/
def vmMeansUptoRow : OpenClaim := { program := "ytfkgcobaheegbaagreatdoor", sum := "6a75cb249f2912aab6abddc49a85b0c57607078dabf83b57877c8234169380fb", func := "furcate/furcatelaw11.VmMeans", spec := "vmMeans", unfollowed := true, recurses := true, named := ["strconv.ErrSyntax", "strconv.ErrRange", "internal/strconv.uint64pow10", "math/bits.deBruijn32tab", "math/bits.deBruijn64tab"], apart := false, laid := [("math/bits.deBruijn32tab", laid_math_bits_deBruijn32tab), ("math/bits.deBruijn64tab", laid_math_bits_deBruijn64tab), ("internal/strconv.uint64pow10", laid_internal_strconv_uint64pow10), ("strconv.ErrRange", laid_strconv_ErrRange), ("strconv.ErrSyntax", laid_strconv_ErrSyntax)], narrowed := true }
def VmMeansUptoSaid : Prop := vmMeansUptoRow.holds Tryz.pinned (OpenSpec.upto vmMeansSpec)

/-- 'furcatelaw11.VmPlaces', WHERE WHAT IT READS IS OF BULK AT MOST 1048576: true; the input reads as it did. -/
def vmPlacesUptoRow : OpenClaim := { program := "ytfkgcobaheegbaagreatdoor", sum := "6a75cb249f2912aab6abddc49a85b0c57607078dabf83b57877c8234169380fb", func := "furcate/furcatelaw11.VmPlaces", spec := "vmPlaces", unfollowed := true, recurses := true, named := ["strconv.ErrSyntax", "strconv.ErrRange", "internal/strconv.uint64pow10", "math/bits.deBruijn32tab", "math/bits.deBruijn64tab"], apart := false, laid := [("math/bits.deBruijn32tab", laid_math_bits_deBruijn32tab), ("math/bits.deBruijn64tab", laid_math_bits_deBruijn64tab), ("internal/strconv.uint64pow10", laid_internal_strconv_uint64pow10), ("strconv.ErrRange", laid_strconv_ErrRange), ("strconv.ErrSyntax", laid_strconv_ErrSyntax)], narrowed := true }
def VmPlacesUptoSaid : Prop := vmPlacesUptoRow.holds Tryz.pinned (OpenSpec.upto vmPlacesSpec)

/-- 'furcatelaw11.VmClones', WHERE WHAT IT READS IS OF BULK AT MOST 1048576: true; the input reads as it did. -/
def vmClonesUptoRow : OpenClaim := { program := "ytfkgcobaheegbaagreatdoor", sum := "6a75cb249f2912aab6abddc49a85b0c57607078dabf83b57877c8234169380fb", func := "furcate/furcatelaw11.VmClones", spec := "vmClones", unfollowed := true, recurses := true, named := ["strconv.ErrSyntax", "strconv.ErrRange", "internal/strconv.uint64pow10", "math/bits.deBruijn32tab", "math/bits.deBruijn64tab"], apart := false, laid := [("math/bits.deBruijn32tab", laid_math_bits_deBruijn32tab), ("math/bits.deBruijn64tab", laid_math_bits_deBruijn64tab), ("internal/strconv.uint64pow10", laid_internal_strconv_uint64pow10), ("strconv.ErrRange", laid_strconv_ErrRange), ("strconv.ErrSyntax", laid_strconv_ErrSyntax)], narrowed := true }
def VmClonesUptoSaid : Prop := vmClonesUptoRow.holds Tryz.pinned (OpenSpec.upto vmClonesSpec)

/-- 'furcatelaw11.VmStops', WHERE WHAT IT READS IS OF BULK AT MOST 1048576: true; the input reads as it did. -/
def vmStopsUptoRow : OpenClaim := { program := "ytfkgcobaheegbaagreatdoor", sum := "6a75cb249f2912aab6abddc49a85b0c57607078dabf83b57877c8234169380fb", func := "furcate/furcatelaw11.VmStops", spec := "vmStops", unfollowed := true, recurses := true, named := ["strconv.ErrSyntax", "strconv.ErrRange", "internal/strconv.uint64pow10", "math/bits.deBruijn32tab", "math/bits.deBruijn64tab"], apart := false, laid := [("math/bits.deBruijn32tab", laid_math_bits_deBruijn32tab), ("math/bits.deBruijn64tab", laid_math_bits_deBruijn64tab), ("internal/strconv.uint64pow10", laid_internal_strconv_uint64pow10), ("strconv.ErrRange", laid_strconv_ErrRange), ("strconv.ErrSyntax", laid_strconv_ErrSyntax)], narrowed := true }
def VmStopsUptoSaid : Prop := vmStopsUptoRow.holds Tryz.pinned (OpenSpec.upto vmStopsSpec)

/-- 'furcatelaw12.ViewMeans', WHERE WHAT IT READS IS OF BULK AT MOST 1048576: true; the input reads as it did. -/
def viewMeansUptoRow : OpenClaim := { program := "ytfkgcobaheegbaagreatdoor", sum := "6a75cb249f2912aab6abddc49a85b0c57607078dabf83b57877c8234169380fb", func := "furcate/furcatelaw12.ViewMeans", spec := "viewMeans", inPlace := ["internal/abi.NoEscape", "internal/bytealg.MakeNoZero"], unfollowed := true, recurses := true, named := ["strconv.ErrSyntax", "strconv.ErrRange", "internal/strconv.uint64pow10", "math/bits.deBruijn32tab", "math/bits.deBruijn64tab"], apart := false, laid := [("math/bits.deBruijn32tab", laid_math_bits_deBruijn32tab), ("math/bits.deBruijn64tab", laid_math_bits_deBruijn64tab), ("internal/strconv.uint64pow10", laid_internal_strconv_uint64pow10), ("strconv.ErrRange", laid_strconv_ErrRange), ("strconv.ErrSyntax", laid_strconv_ErrSyntax)], narrowed := true }
def ViewMeansUptoSaid : Prop := viewMeansUptoRow.holds Tryz.pinned (OpenSpec.upto viewMeansSpec)

end Rows
end Go.Proofs.YtfkgcobaheegbaaGreatDoor
