/-
  NARROWER THAN 'FOR EVERY INPUT', by the rows' own cells (each row's printed sentence says how): ReplayBack: laid · BranchForks: laid · BranchAdds: laid · DiffLines: laid · BranchKeeps: laid · TreeOthers: laid · TreeForks: laid · TreeGoes: laid · TreeNames: laid.
  DERIVED. THE GIVEN ROWS OF THIS SEAT. 9 by the template 'for every input the law returns true; each argument reads behind the call as it read before'; 0 by the template 'total and deterministic' (their statements: YtjpcgmjaipfgdaaGreatDoorTotals.lean).
  GIVEN WITH THE SEED: the statements are not yours to turn. If you find one false, say at which input.
  Laid BY PROGRAM, IN A SANDBOX (cutbox-rows.mjs): the forced cells as the released guide's own fill.sh prints them over the translation 563de1d0001f3262… (all of the seat's roots in one cut). By AI agents, Wed Nov 11 2026. No macro, syntax, notation, axiom, sorry.
-/
import Derived.Test.YtjpcgmjaipfgdaaGreatDoorChecked
import GoSem.Claim
import GoSem.ClaimJoined
import GoSem.ClaimMapViews
import Derived.JoinedTies
import Derived.KernelRfl
namespace Go.Proofs.YtjpcgmjaipfgdaaGreatDoor
/- THE CELL 'sum', in the pinned program and in every row, IS THE sha256 OF THE DUMP (.gsa) THAT YtjpcgmjaipfgdaaGreatDoorProg.lean LOADS. Nothing in Lean hashes anything: it is a label: what it is worth is what the hold of that sum in a sandbox is worth. -/
noncomputable def Tryz.pinned : Pinned := { name := "ytjpcgmjaipfgdaagreatdoor", sum := "563de1d0001f3262f266b1fa18d6a0e827c2c7d50db8c700ecba1271df28809d", checked := Tryz.checked }
namespace Rows
def none {H : Type} : Left H := { results := [], args := [] }

/- WHAT THE LISTED PACKAGE-LEVEL VARIABLES READ AS WHEN THE CALL BEGINS. Each datum BY PROGRAM (the guide's laid-datum.mjs) off the statement by which the dump's own 'gosem.cut.vars' lays the variable. In a bare row this is a premise. The card (YtjpcgmjaipfgdaaGreatDoorCards.lean) ties it to the program's text. -/
def laid_math_bits_deBruijn32tab {H : Type} : DataW H := .agg [.lit (.int .u8 0), .lit (.int .u8 1), .lit (.int .u8 28), .lit (.int .u8 2), .lit (.int .u8 29), .lit (.int .u8 14), .lit (.int .u8 24), .lit (.int .u8 3), .lit (.int .u8 30), .lit (.int .u8 22), .lit (.int .u8 20), .lit (.int .u8 15), .lit (.int .u8 25), .lit (.int .u8 17), .lit (.int .u8 4), .lit (.int .u8 8), .lit (.int .u8 31), .lit (.int .u8 27), .lit (.int .u8 13), .lit (.int .u8 23), .lit (.int .u8 21), .lit (.int .u8 19), .lit (.int .u8 16), .lit (.int .u8 7), .lit (.int .u8 26), .lit (.int .u8 12), .lit (.int .u8 18), .lit (.int .u8 6), .lit (.int .u8 11), .lit (.int .u8 5), .lit (.int .u8 10), .lit (.int .u8 9)]
def laid_math_bits_deBruijn64tab {H : Type} : DataW H := .agg [.lit (.int .u8 0), .lit (.int .u8 1), .lit (.int .u8 56), .lit (.int .u8 2), .lit (.int .u8 57), .lit (.int .u8 49), .lit (.int .u8 28), .lit (.int .u8 3), .lit (.int .u8 61), .lit (.int .u8 58), .lit (.int .u8 42), .lit (.int .u8 50), .lit (.int .u8 38), .lit (.int .u8 29), .lit (.int .u8 17), .lit (.int .u8 4), .lit (.int .u8 62), .lit (.int .u8 47), .lit (.int .u8 59), .lit (.int .u8 36), .lit (.int .u8 45), .lit (.int .u8 43), .lit (.int .u8 51), .lit (.int .u8 22), .lit (.int .u8 53), .lit (.int .u8 39), .lit (.int .u8 33), .lit (.int .u8 30), .lit (.int .u8 24), .lit (.int .u8 18), .lit (.int .u8 12), .lit (.int .u8 5), .lit (.int .u8 63), .lit (.int .u8 55), .lit (.int .u8 48), .lit (.int .u8 27), .lit (.int .u8 60), .lit (.int .u8 41), .lit (.int .u8 37), .lit (.int .u8 16), .lit (.int .u8 46), .lit (.int .u8 35), .lit (.int .u8 44), .lit (.int .u8 21), .lit (.int .u8 52), .lit (.int .u8 32), .lit (.int .u8 23), .lit (.int .u8 11), .lit (.int .u8 54), .lit (.int .u8 26), .lit (.int .u8 40), .lit (.int .u8 15), .lit (.int .u8 34), .lit (.int .u8 20), .lit (.int .u8 31), .lit (.int .u8 10), .lit (.int .u8 25), .lit (.int .u8 14), .lit (.int .u8 19), .lit (.int .u8 9), .lit (.int .u8 13), .lit (.int .u8 8), .lit (.int .u8 7), .lit (.int .u8 6)]
def laid_internal_strconv_uint64pow10 {H : Type} : DataW H := .agg [.lit (.int .u64 1), .lit (.int .u64 10), .lit (.int .u64 100), .lit (.int .u64 1000), .lit (.int .u64 10000), .lit (.int .u64 100000), .lit (.int .u64 1000000), .lit (.int .u64 10000000), .lit (.int .u64 100000000), .lit (.int .u64 1000000000), .lit (.int .u64 10000000000), .lit (.int .u64 100000000000), .lit (.int .u64 1000000000000), .lit (.int .u64 10000000000000), .lit (.int .u64 100000000000000), .lit (.int .u64 1000000000000000), .lit (.int .u64 10000000000000000), .lit (.int .u64 100000000000000000), .lit (.int .u64 1000000000000000000), .lit (.int .u64 10000000000000000000)]
def laid_strconv_ErrRange {H : Type} : DataW H := .iface "*errors.errorString" (.ptr (.agg [.lit (.string [118, 97, 108, 117, 101, 32, 111, 117, 116, 32, 111, 102, 32, 114, 97, 110, 103, 101])]))
def laid_strconv_ErrSyntax {H : Type} : DataW H := .iface "*errors.errorString" (.ptr (.agg [.lit (.string [105, 110, 118, 97, 108, 105, 100, 32, 115, 121, 110, 116, 97, 120])]))

/-- 'furcatelaw15.ReplayBack': WHATEVER THE INPUT: true; the input reads as it did. -/
def replayBackSpec : ChangeSpec := { name := "replayBack", fn := fun _ => fun
  | [d1, d2, d3] => { results := [.lit (.bool true)], args := [d1, d2, d3] }
  | _ => none }
def replayBackRow : OpenClaim := { program := "ytjpcgmjaipfgdaagreatdoor", sum := "563de1d0001f3262f266b1fa18d6a0e827c2c7d50db8c700ecba1271df28809d", func := "furcate/furcatelaw15.ReplayBack", spec := "replayBack", inPlace := ["slices.overlaps[furcate/keep.thing[furcate/replay.mark]]"], unfollowed := true, recurses := true, named := ["strconv.ErrSyntax", "strconv.ErrRange", "internal/strconv.uint64pow10", "math/bits.deBruijn32tab", "math/bits.deBruijn64tab"], apart := false, laid := [("math/bits.deBruijn32tab", laid_math_bits_deBruijn32tab), ("math/bits.deBruijn64tab", laid_math_bits_deBruijn64tab), ("internal/strconv.uint64pow10", laid_internal_strconv_uint64pow10), ("strconv.ErrRange", laid_strconv_ErrRange), ("strconv.ErrSyntax", laid_strconv_ErrSyntax)] }
def ReplayBackSaid : Prop := replayBackRow.holds Tryz.pinned (OpenSpec.ofChange replayBackSpec)

/-- ITS FALSE NEIGHBOUR: 'it returns false'. Refute it at one input. -/
def replayBackWrong : ChangeSpec := { name := "replayBack", fn := fun _ => fun
  | [d1, d2, d3] => { results := [.lit (.bool false)], args := [d1, d2, d3] }
  | _ => none }
def ReplayBackWrongFalsely : Prop := replayBackRow.holds Tryz.pinned (OpenSpec.ofChange replayBackWrong)

/-- 'furcatelaw17.BranchForks': WHATEVER THE INPUT: true; the input reads as it did. -/
def branchForksSpec : ChangeSpec := { name := "branchForks", fn := fun _ => fun
  | [d1, d2, d3] => { results := [.lit (.bool true)], args := [d1, d2, d3] }
  | _ => none }
def branchForksRow : OpenClaim := { program := "ytjpcgmjaipfgdaagreatdoor", sum := "563de1d0001f3262f266b1fa18d6a0e827c2c7d50db8c700ecba1271df28809d", func := "furcate/furcatelaw17.BranchForks", spec := "branchForks", inPlace := ["slices.overlaps[furcate/api.Edit]", "internal/abi.NoEscape", "internal/bytealg.MakeNoZero"], unfollowed := true, recurses := true, named := ["strconv.ErrSyntax", "strconv.ErrRange", "internal/strconv.uint64pow10", "math/bits.deBruijn32tab", "math/bits.deBruijn64tab"], apart := false, laid := [("math/bits.deBruijn32tab", laid_math_bits_deBruijn32tab), ("math/bits.deBruijn64tab", laid_math_bits_deBruijn64tab), ("internal/strconv.uint64pow10", laid_internal_strconv_uint64pow10), ("strconv.ErrRange", laid_strconv_ErrRange), ("strconv.ErrSyntax", laid_strconv_ErrSyntax)] }
def BranchForksSaid : Prop := branchForksRow.holds Tryz.pinned (OpenSpec.ofChange branchForksSpec)

/-- ITS FALSE NEIGHBOUR: 'it returns false'. Refute it at one input. -/
def branchForksWrong : ChangeSpec := { name := "branchForks", fn := fun _ => fun
  | [d1, d2, d3] => { results := [.lit (.bool false)], args := [d1, d2, d3] }
  | _ => none }
def BranchForksWrongFalsely : Prop := branchForksRow.holds Tryz.pinned (OpenSpec.ofChange branchForksWrong)

/-- 'furcatelaw17.BranchAdds': WHATEVER THE INPUT: true; the input reads as it did. -/
def branchAddsSpec : ChangeSpec := { name := "branchAdds", fn := fun _ => fun
  | [d1, d2, d3] => { results := [.lit (.bool true)], args := [d1, d2, d3] }
  | _ => none }
def branchAddsRow : OpenClaim := { program := "ytjpcgmjaipfgdaagreatdoor", sum := "563de1d0001f3262f266b1fa18d6a0e827c2c7d50db8c700ecba1271df28809d", func := "furcate/furcatelaw17.BranchAdds", spec := "branchAdds", inPlace := ["slices.overlaps[furcate/api.Edit]", "internal/abi.NoEscape", "internal/bytealg.MakeNoZero"], unfollowed := true, recurses := true, named := ["strconv.ErrSyntax", "strconv.ErrRange", "internal/strconv.uint64pow10", "math/bits.deBruijn32tab", "math/bits.deBruijn64tab"], apart := false, laid := [("math/bits.deBruijn32tab", laid_math_bits_deBruijn32tab), ("math/bits.deBruijn64tab", laid_math_bits_deBruijn64tab), ("internal/strconv.uint64pow10", laid_internal_strconv_uint64pow10), ("strconv.ErrRange", laid_strconv_ErrRange), ("strconv.ErrSyntax", laid_strconv_ErrSyntax)] }
def BranchAddsSaid : Prop := branchAddsRow.holds Tryz.pinned (OpenSpec.ofChange branchAddsSpec)

/-- ITS FALSE NEIGHBOUR: 'it returns false'. Refute it at one input. -/
def branchAddsWrong : ChangeSpec := { name := "branchAdds", fn := fun _ => fun
  | [d1, d2, d3] => { results := [.lit (.bool false)], args := [d1, d2, d3] }
  | _ => none }
def BranchAddsWrongFalsely : Prop := branchAddsRow.holds Tryz.pinned (OpenSpec.ofChange branchAddsWrong)

/-- 'furcatelaw19.DiffLines': WHATEVER THE INPUT: true; the input reads as it did. -/
def diffLinesSpec : ChangeSpec := { name := "diffLines", fn := fun _ => fun
  | [d1, d2, d3] => { results := [.lit (.bool true)], args := [d1, d2, d3] }
  | _ => none }
def diffLinesRow : OpenClaim := { program := "ytjpcgmjaipfgdaagreatdoor", sum := "563de1d0001f3262f266b1fa18d6a0e827c2c7d50db8c700ecba1271df28809d", func := "furcate/furcatelaw19.DiffLines", spec := "diffLines", inPlace := ["slices.overlaps[furcate/api.Edit]", "internal/abi.NoEscape", "internal/bytealg.MakeNoZero"], unfollowed := true, recurses := true, named := ["internal/strconv.uint64pow10", "math/bits.deBruijn32tab", "math/bits.deBruijn64tab", "strconv.ErrSyntax", "strconv.ErrRange"], apart := false, laid := [("math/bits.deBruijn32tab", laid_math_bits_deBruijn32tab), ("math/bits.deBruijn64tab", laid_math_bits_deBruijn64tab), ("internal/strconv.uint64pow10", laid_internal_strconv_uint64pow10), ("strconv.ErrRange", laid_strconv_ErrRange), ("strconv.ErrSyntax", laid_strconv_ErrSyntax)] }
def DiffLinesSaid : Prop := diffLinesRow.holds Tryz.pinned (OpenSpec.ofChange diffLinesSpec)

/-- ITS FALSE NEIGHBOUR: 'it returns false'. Refute it at one input. -/
def diffLinesWrong : ChangeSpec := { name := "diffLines", fn := fun _ => fun
  | [d1, d2, d3] => { results := [.lit (.bool false)], args := [d1, d2, d3] }
  | _ => none }
def DiffLinesWrongFalsely : Prop := diffLinesRow.holds Tryz.pinned (OpenSpec.ofChange diffLinesWrong)

/-- 'furcatelaw17.BranchKeeps': WHATEVER THE INPUT: true; the input reads as it did. -/
def branchKeepsSpec : ChangeSpec := { name := "branchKeeps", fn := fun _ => fun
  | [d1, d2, d3] => { results := [.lit (.bool true)], args := [d1, d2, d3] }
  | _ => none }
def branchKeepsRow : OpenClaim := { program := "ytjpcgmjaipfgdaagreatdoor", sum := "563de1d0001f3262f266b1fa18d6a0e827c2c7d50db8c700ecba1271df28809d", func := "furcate/furcatelaw17.BranchKeeps", spec := "branchKeeps", inPlace := ["slices.overlaps[furcate/api.Edit]", "internal/abi.NoEscape", "internal/bytealg.MakeNoZero"], unfollowed := true, recurses := true, named := ["strconv.ErrSyntax", "strconv.ErrRange", "internal/strconv.uint64pow10", "math/bits.deBruijn32tab", "math/bits.deBruijn64tab"], apart := false, laid := [("math/bits.deBruijn32tab", laid_math_bits_deBruijn32tab), ("math/bits.deBruijn64tab", laid_math_bits_deBruijn64tab), ("internal/strconv.uint64pow10", laid_internal_strconv_uint64pow10), ("strconv.ErrRange", laid_strconv_ErrRange), ("strconv.ErrSyntax", laid_strconv_ErrSyntax)] }
def BranchKeepsSaid : Prop := branchKeepsRow.holds Tryz.pinned (OpenSpec.ofChange branchKeepsSpec)

/-- ITS FALSE NEIGHBOUR: 'it returns false'. Refute it at one input. -/
def branchKeepsWrong : ChangeSpec := { name := "branchKeeps", fn := fun _ => fun
  | [d1, d2, d3] => { results := [.lit (.bool false)], args := [d1, d2, d3] }
  | _ => none }
def BranchKeepsWrongFalsely : Prop := branchKeepsRow.holds Tryz.pinned (OpenSpec.ofChange branchKeepsWrong)

/-- 'furcatelaw18.TreeOthers': WHATEVER THE INPUT: true; the input reads as it did. -/
def treeOthersSpec : ChangeSpec := { name := "treeOthers", fn := fun _ => fun
  | [d1, d2] => { results := [.lit (.bool true)], args := [d1, d2] }
  | _ => none }
def treeOthersRow : OpenClaim := { program := "ytjpcgmjaipfgdaagreatdoor", sum := "563de1d0001f3262f266b1fa18d6a0e827c2c7d50db8c700ecba1271df28809d", func := "furcate/furcatelaw18.TreeOthers", spec := "treeOthers", inPlace := ["slices.overlaps[furcate/api.Edit]"], unfollowed := true, recurses := true, named := ["strconv.ErrSyntax", "strconv.ErrRange", "internal/strconv.uint64pow10", "math/bits.deBruijn32tab", "math/bits.deBruijn64tab"], apart := false, laid := [("math/bits.deBruijn32tab", laid_math_bits_deBruijn32tab), ("math/bits.deBruijn64tab", laid_math_bits_deBruijn64tab), ("internal/strconv.uint64pow10", laid_internal_strconv_uint64pow10), ("strconv.ErrRange", laid_strconv_ErrRange), ("strconv.ErrSyntax", laid_strconv_ErrSyntax)] }
def TreeOthersSaid : Prop := treeOthersRow.holds Tryz.pinned (OpenSpec.ofChange treeOthersSpec)

/-- ITS FALSE NEIGHBOUR: 'it returns false'. Refute it at one input. -/
def treeOthersWrong : ChangeSpec := { name := "treeOthers", fn := fun _ => fun
  | [d1, d2] => { results := [.lit (.bool false)], args := [d1, d2] }
  | _ => none }
def TreeOthersWrongFalsely : Prop := treeOthersRow.holds Tryz.pinned (OpenSpec.ofChange treeOthersWrong)

/-- 'furcatelaw18.TreeForks': WHATEVER THE INPUT: true; the input reads as it did. -/
def treeForksSpec : ChangeSpec := { name := "treeForks", fn := fun _ => fun
  | [d1, d2, d3] => { results := [.lit (.bool true)], args := [d1, d2, d3] }
  | _ => none }
def treeForksRow : OpenClaim := { program := "ytjpcgmjaipfgdaagreatdoor", sum := "563de1d0001f3262f266b1fa18d6a0e827c2c7d50db8c700ecba1271df28809d", func := "furcate/furcatelaw18.TreeForks", spec := "treeForks", inPlace := ["slices.overlaps[furcate/api.Edit]"], unfollowed := true, recurses := true, named := ["strconv.ErrSyntax", "strconv.ErrRange", "internal/strconv.uint64pow10", "math/bits.deBruijn32tab", "math/bits.deBruijn64tab"], apart := false, laid := [("math/bits.deBruijn32tab", laid_math_bits_deBruijn32tab), ("math/bits.deBruijn64tab", laid_math_bits_deBruijn64tab), ("internal/strconv.uint64pow10", laid_internal_strconv_uint64pow10), ("strconv.ErrRange", laid_strconv_ErrRange), ("strconv.ErrSyntax", laid_strconv_ErrSyntax)] }
def TreeForksSaid : Prop := treeForksRow.holds Tryz.pinned (OpenSpec.ofChange treeForksSpec)

/-- ITS FALSE NEIGHBOUR: 'it returns false'. Refute it at one input. -/
def treeForksWrong : ChangeSpec := { name := "treeForks", fn := fun _ => fun
  | [d1, d2, d3] => { results := [.lit (.bool false)], args := [d1, d2, d3] }
  | _ => none }
def TreeForksWrongFalsely : Prop := treeForksRow.holds Tryz.pinned (OpenSpec.ofChange treeForksWrong)

/-- 'furcatelaw18.TreeGoes': WHATEVER THE INPUT: true; the input reads as it did. -/
def treeGoesSpec : ChangeSpec := { name := "treeGoes", fn := fun _ => fun
  | [d1, d2, d3] => { results := [.lit (.bool true)], args := [d1, d2, d3] }
  | _ => none }
def treeGoesRow : OpenClaim := { program := "ytjpcgmjaipfgdaagreatdoor", sum := "563de1d0001f3262f266b1fa18d6a0e827c2c7d50db8c700ecba1271df28809d", func := "furcate/furcatelaw18.TreeGoes", spec := "treeGoes", inPlace := ["slices.overlaps[furcate/api.Edit]"], unfollowed := true, recurses := true, named := ["strconv.ErrSyntax", "strconv.ErrRange", "internal/strconv.uint64pow10", "math/bits.deBruijn32tab", "math/bits.deBruijn64tab"], apart := false, laid := [("math/bits.deBruijn32tab", laid_math_bits_deBruijn32tab), ("math/bits.deBruijn64tab", laid_math_bits_deBruijn64tab), ("internal/strconv.uint64pow10", laid_internal_strconv_uint64pow10), ("strconv.ErrRange", laid_strconv_ErrRange), ("strconv.ErrSyntax", laid_strconv_ErrSyntax)] }
def TreeGoesSaid : Prop := treeGoesRow.holds Tryz.pinned (OpenSpec.ofChange treeGoesSpec)

/-- ITS FALSE NEIGHBOUR: 'it returns false'. Refute it at one input. -/
def treeGoesWrong : ChangeSpec := { name := "treeGoes", fn := fun _ => fun
  | [d1, d2, d3] => { results := [.lit (.bool false)], args := [d1, d2, d3] }
  | _ => none }
def TreeGoesWrongFalsely : Prop := treeGoesRow.holds Tryz.pinned (OpenSpec.ofChange treeGoesWrong)

/-- 'furcatelaw18.TreeNames': WHATEVER THE INPUT: true; the input reads as it did. -/
def treeNamesSpec : ChangeSpec := { name := "treeNames", fn := fun _ => fun
  | [d1, d2, d3] => { results := [.lit (.bool true)], args := [d1, d2, d3] }
  | _ => none }
def treeNamesRow : OpenClaim := { program := "ytjpcgmjaipfgdaagreatdoor", sum := "563de1d0001f3262f266b1fa18d6a0e827c2c7d50db8c700ecba1271df28809d", func := "furcate/furcatelaw18.TreeNames", spec := "treeNames", inPlace := ["slices.overlaps[furcate/api.Edit]"], unfollowed := true, recurses := true, named := ["strconv.ErrSyntax", "strconv.ErrRange", "internal/strconv.uint64pow10", "math/bits.deBruijn32tab", "math/bits.deBruijn64tab"], apart := false, laid := [("math/bits.deBruijn32tab", laid_math_bits_deBruijn32tab), ("math/bits.deBruijn64tab", laid_math_bits_deBruijn64tab), ("internal/strconv.uint64pow10", laid_internal_strconv_uint64pow10), ("strconv.ErrRange", laid_strconv_ErrRange), ("strconv.ErrSyntax", laid_strconv_ErrSyntax)] }
def TreeNamesSaid : Prop := treeNamesRow.holds Tryz.pinned (OpenSpec.ofChange treeNamesSpec)

/-- ITS FALSE NEIGHBOUR: 'it returns false'. Refute it at one input. -/
def treeNamesWrong : ChangeSpec := { name := "treeNames", fn := fun _ => fun
  | [d1, d2, d3] => { results := [.lit (.bool false)], args := [d1, d2, d3] }
  | _ => none }
def TreeNamesWrongFalsely : Prop := treeNamesRow.holds Tryz.pinned (OpenSpec.ofChange treeNamesWrong)

/- THE SECOND FORM. 'bulk': how many values and letters a reading holds, each counted each time it is reached (what is shared counts as often as it is met; a slice's spare places count too). A statement '..UptoSaid' is the law's where the arguments, and the package variables that the reading takes, are together of bulk at most 1048576: NARROWER than '..Said'. Prove '..Said' where nothing that the law and all that it calls make is longer than what came in: it says more and counts as full. Else prove '..UptoSaid'. A law counts once. -/
mutual
def uptoBulk {H : Type} : DataW H → Nat
  | .lit (.string bytes) => bytes.length + 1
  | .lit _ => 1
  | .nil => 1
  | .ptr d => uptoBulk d + 1
  | .slice elems spare => uptoBulkAll elems + uptoBulkAll spare + 1
  | .agg parts => uptoBulkAll parts + 1
  | .iface _ d => uptoBulk d + 1
  | .map entries => uptoBulkEntries entries + 1
  | .held _ => 1
def uptoBulkAll {H : Type} : List (DataW H) → Nat
  | [] => 0
  | d :: r => uptoBulk d + uptoBulkAll r
def uptoBulkEntries {H : Type} : List (Lit × DataW H) → Nat
  | [] => 0
  | x :: r => uptoBulkEntry x + uptoBulkEntries r
def uptoBulkEntry {H : Type} : Lit × DataW H → Nat
  | (.string bytes, d) => bytes.length + uptoBulk d + 1
  | (_, d) => uptoBulk d + 1
 end
def uptoSmall : (H : Type) → List (DataW H) → Bool := fun _ ds => decide (uptoBulkAll ds ≤ 1048576)
def OpenSpec.upto (s : _root_.Go.ChangeSpec) : _root_.Go.OpenSpec := { _root_.Go.OpenSpec.ofChange s with cond := some uptoSmall }

/-- 'furcatelaw15.ReplayBack', WHERE WHAT IT READS IS OF BULK AT MOST 1048576: true; the input reads as it did. -/
def replayBackUptoRow : OpenClaim := { program := "ytjpcgmjaipfgdaagreatdoor", sum := "563de1d0001f3262f266b1fa18d6a0e827c2c7d50db8c700ecba1271df28809d", func := "furcate/furcatelaw15.ReplayBack", spec := "replayBack", inPlace := ["slices.overlaps[furcate/keep.thing[furcate/replay.mark]]"], unfollowed := true, recurses := true, named := ["strconv.ErrSyntax", "strconv.ErrRange", "internal/strconv.uint64pow10", "math/bits.deBruijn32tab", "math/bits.deBruijn64tab"], apart := false, laid := [("math/bits.deBruijn32tab", laid_math_bits_deBruijn32tab), ("math/bits.deBruijn64tab", laid_math_bits_deBruijn64tab), ("internal/strconv.uint64pow10", laid_internal_strconv_uint64pow10), ("strconv.ErrRange", laid_strconv_ErrRange), ("strconv.ErrSyntax", laid_strconv_ErrSyntax)], narrowed := true }
def ReplayBackUptoSaid : Prop := replayBackUptoRow.holds Tryz.pinned (OpenSpec.upto replayBackSpec)

/-- 'furcatelaw17.BranchForks', WHERE WHAT IT READS IS OF BULK AT MOST 1048576: true; the input reads as it did. -/
def branchForksUptoRow : OpenClaim := { program := "ytjpcgmjaipfgdaagreatdoor", sum := "563de1d0001f3262f266b1fa18d6a0e827c2c7d50db8c700ecba1271df28809d", func := "furcate/furcatelaw17.BranchForks", spec := "branchForks", inPlace := ["slices.overlaps[furcate/api.Edit]", "internal/abi.NoEscape", "internal/bytealg.MakeNoZero"], unfollowed := true, recurses := true, named := ["strconv.ErrSyntax", "strconv.ErrRange", "internal/strconv.uint64pow10", "math/bits.deBruijn32tab", "math/bits.deBruijn64tab"], apart := false, laid := [("math/bits.deBruijn32tab", laid_math_bits_deBruijn32tab), ("math/bits.deBruijn64tab", laid_math_bits_deBruijn64tab), ("internal/strconv.uint64pow10", laid_internal_strconv_uint64pow10), ("strconv.ErrRange", laid_strconv_ErrRange), ("strconv.ErrSyntax", laid_strconv_ErrSyntax)], narrowed := true }
def BranchForksUptoSaid : Prop := branchForksUptoRow.holds Tryz.pinned (OpenSpec.upto branchForksSpec)

/-- 'furcatelaw17.BranchAdds', WHERE WHAT IT READS IS OF BULK AT MOST 1048576: true; the input reads as it did. -/
def branchAddsUptoRow : OpenClaim := { program := "ytjpcgmjaipfgdaagreatdoor", sum := "563de1d0001f3262f266b1fa18d6a0e827c2c7d50db8c700ecba1271df28809d", func := "furcate/furcatelaw17.BranchAdds", spec := "branchAdds", inPlace := ["slices.overlaps[furcate/api.Edit]", "internal/abi.NoEscape", "internal/bytealg.MakeNoZero"], unfollowed := true, recurses := true, named := ["strconv.ErrSyntax", "strconv.ErrRange", "internal/strconv.uint64pow10", "math/bits.deBruijn32tab", "math/bits.deBruijn64tab"], apart := false, laid := [("math/bits.deBruijn32tab", laid_math_bits_deBruijn32tab), ("math/bits.deBruijn64tab", laid_math_bits_deBruijn64tab), ("internal/strconv.uint64pow10", laid_internal_strconv_uint64pow10), ("strconv.ErrRange", laid_strconv_ErrRange), ("strconv.ErrSyntax", laid_strconv_ErrSyntax)], narrowed := true }
def BranchAddsUptoSaid : Prop := branchAddsUptoRow.holds Tryz.pinned (OpenSpec.upto branchAddsSpec)

/-- 'furcatelaw19.DiffLines', WHERE WHAT IT READS IS OF BULK AT MOST 1048576: true; the input reads as it did. -/
def diffLinesUptoRow : OpenClaim := { program := "ytjpcgmjaipfgdaagreatdoor", sum := "563de1d0001f3262f266b1fa18d6a0e827c2c7d50db8c700ecba1271df28809d", func := "furcate/furcatelaw19.DiffLines", spec := "diffLines", inPlace := ["slices.overlaps[furcate/api.Edit]", "internal/abi.NoEscape", "internal/bytealg.MakeNoZero"], unfollowed := true, recurses := true, named := ["internal/strconv.uint64pow10", "math/bits.deBruijn32tab", "math/bits.deBruijn64tab", "strconv.ErrSyntax", "strconv.ErrRange"], apart := false, laid := [("math/bits.deBruijn32tab", laid_math_bits_deBruijn32tab), ("math/bits.deBruijn64tab", laid_math_bits_deBruijn64tab), ("internal/strconv.uint64pow10", laid_internal_strconv_uint64pow10), ("strconv.ErrRange", laid_strconv_ErrRange), ("strconv.ErrSyntax", laid_strconv_ErrSyntax)], narrowed := true }
def DiffLinesUptoSaid : Prop := diffLinesUptoRow.holds Tryz.pinned (OpenSpec.upto diffLinesSpec)

/-- 'furcatelaw17.BranchKeeps', WHERE WHAT IT READS IS OF BULK AT MOST 1048576: true; the input reads as it did. -/
def branchKeepsUptoRow : OpenClaim := { program := "ytjpcgmjaipfgdaagreatdoor", sum := "563de1d0001f3262f266b1fa18d6a0e827c2c7d50db8c700ecba1271df28809d", func := "furcate/furcatelaw17.BranchKeeps", spec := "branchKeeps", inPlace := ["slices.overlaps[furcate/api.Edit]", "internal/abi.NoEscape", "internal/bytealg.MakeNoZero"], unfollowed := true, recurses := true, named := ["strconv.ErrSyntax", "strconv.ErrRange", "internal/strconv.uint64pow10", "math/bits.deBruijn32tab", "math/bits.deBruijn64tab"], apart := false, laid := [("math/bits.deBruijn32tab", laid_math_bits_deBruijn32tab), ("math/bits.deBruijn64tab", laid_math_bits_deBruijn64tab), ("internal/strconv.uint64pow10", laid_internal_strconv_uint64pow10), ("strconv.ErrRange", laid_strconv_ErrRange), ("strconv.ErrSyntax", laid_strconv_ErrSyntax)], narrowed := true }
def BranchKeepsUptoSaid : Prop := branchKeepsUptoRow.holds Tryz.pinned (OpenSpec.upto branchKeepsSpec)

/-- 'furcatelaw18.TreeOthers', WHERE WHAT IT READS IS OF BULK AT MOST 1048576: true; the input reads as it did. -/
def treeOthersUptoRow : OpenClaim := { program := "ytjpcgmjaipfgdaagreatdoor", sum := "563de1d0001f3262f266b1fa18d6a0e827c2c7d50db8c700ecba1271df28809d", func := "furcate/furcatelaw18.TreeOthers", spec := "treeOthers", inPlace := ["slices.overlaps[furcate/api.Edit]"], unfollowed := true, recurses := true, named := ["strconv.ErrSyntax", "strconv.ErrRange", "internal/strconv.uint64pow10", "math/bits.deBruijn32tab", "math/bits.deBruijn64tab"], apart := false, laid := [("math/bits.deBruijn32tab", laid_math_bits_deBruijn32tab), ("math/bits.deBruijn64tab", laid_math_bits_deBruijn64tab), ("internal/strconv.uint64pow10", laid_internal_strconv_uint64pow10), ("strconv.ErrRange", laid_strconv_ErrRange), ("strconv.ErrSyntax", laid_strconv_ErrSyntax)], narrowed := true }
def TreeOthersUptoSaid : Prop := treeOthersUptoRow.holds Tryz.pinned (OpenSpec.upto treeOthersSpec)

/-- 'furcatelaw18.TreeForks', WHERE WHAT IT READS IS OF BULK AT MOST 1048576: true; the input reads as it did. -/
def treeForksUptoRow : OpenClaim := { program := "ytjpcgmjaipfgdaagreatdoor", sum := "563de1d0001f3262f266b1fa18d6a0e827c2c7d50db8c700ecba1271df28809d", func := "furcate/furcatelaw18.TreeForks", spec := "treeForks", inPlace := ["slices.overlaps[furcate/api.Edit]"], unfollowed := true, recurses := true, named := ["strconv.ErrSyntax", "strconv.ErrRange", "internal/strconv.uint64pow10", "math/bits.deBruijn32tab", "math/bits.deBruijn64tab"], apart := false, laid := [("math/bits.deBruijn32tab", laid_math_bits_deBruijn32tab), ("math/bits.deBruijn64tab", laid_math_bits_deBruijn64tab), ("internal/strconv.uint64pow10", laid_internal_strconv_uint64pow10), ("strconv.ErrRange", laid_strconv_ErrRange), ("strconv.ErrSyntax", laid_strconv_ErrSyntax)], narrowed := true }
def TreeForksUptoSaid : Prop := treeForksUptoRow.holds Tryz.pinned (OpenSpec.upto treeForksSpec)

/-- 'furcatelaw18.TreeGoes', WHERE WHAT IT READS IS OF BULK AT MOST 1048576: true; the input reads as it did. -/
def treeGoesUptoRow : OpenClaim := { program := "ytjpcgmjaipfgdaagreatdoor", sum := "563de1d0001f3262f266b1fa18d6a0e827c2c7d50db8c700ecba1271df28809d", func := "furcate/furcatelaw18.TreeGoes", spec := "treeGoes", inPlace := ["slices.overlaps[furcate/api.Edit]"], unfollowed := true, recurses := true, named := ["strconv.ErrSyntax", "strconv.ErrRange", "internal/strconv.uint64pow10", "math/bits.deBruijn32tab", "math/bits.deBruijn64tab"], apart := false, laid := [("math/bits.deBruijn32tab", laid_math_bits_deBruijn32tab), ("math/bits.deBruijn64tab", laid_math_bits_deBruijn64tab), ("internal/strconv.uint64pow10", laid_internal_strconv_uint64pow10), ("strconv.ErrRange", laid_strconv_ErrRange), ("strconv.ErrSyntax", laid_strconv_ErrSyntax)], narrowed := true }
def TreeGoesUptoSaid : Prop := treeGoesUptoRow.holds Tryz.pinned (OpenSpec.upto treeGoesSpec)

/-- 'furcatelaw18.TreeNames', WHERE WHAT IT READS IS OF BULK AT MOST 1048576: true; the input reads as it did. -/
def treeNamesUptoRow : OpenClaim := { program := "ytjpcgmjaipfgdaagreatdoor", sum := "563de1d0001f3262f266b1fa18d6a0e827c2c7d50db8c700ecba1271df28809d", func := "furcate/furcatelaw18.TreeNames", spec := "treeNames", inPlace := ["slices.overlaps[furcate/api.Edit]"], unfollowed := true, recurses := true, named := ["strconv.ErrSyntax", "strconv.ErrRange", "internal/strconv.uint64pow10", "math/bits.deBruijn32tab", "math/bits.deBruijn64tab"], apart := false, laid := [("math/bits.deBruijn32tab", laid_math_bits_deBruijn32tab), ("math/bits.deBruijn64tab", laid_math_bits_deBruijn64tab), ("internal/strconv.uint64pow10", laid_internal_strconv_uint64pow10), ("strconv.ErrRange", laid_strconv_ErrRange), ("strconv.ErrSyntax", laid_strconv_ErrSyntax)], narrowed := true }
def TreeNamesUptoSaid : Prop := treeNamesUptoRow.holds Tryz.pinned (OpenSpec.upto treeNamesSpec)

end Rows
end Go.Proofs.YtjpcgmjaipfgdaaGreatDoor
