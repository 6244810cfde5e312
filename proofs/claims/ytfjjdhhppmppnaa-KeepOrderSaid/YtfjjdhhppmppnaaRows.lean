/-
  No cell of these rows narrows 'for every input' (looked for: loops, veiled, ifaces, maps, wideKeys, modest, calm, conditions, laid).
  DERIVED. THE GIVEN ROWS OF THIS SEAT. 8 by the template 'for every input the law returns true; each argument reads behind the call as it read before'; 0 by the template 'total and deterministic' (their statements: YtfjjdhhppmppnaaTotals.lean).
  GIVEN WITH THE SEED: the statements are not yours to turn. If you find one false, say at which input.
  Laid BY PROGRAM, IN A SANDBOX (cutbox-rows.mjs): the forced cells as the released guide's own fill.sh prints them over the translation d9274d966def0a51… (all of the seat's roots in one cut). By AI agents, Wed Nov 11 2026. No macro, syntax, notation, axiom, sorry.
-/
import Derived.Test.YtfjjdhhppmppnaaChecked
import GoSem.Claim
import GoSem.ClaimJoined
import GoSem.ClaimMapViews
import Derived.JoinedTies
import Derived.KernelRfl
namespace Go.Proofs.Ytfjjdhhppmppnaa
/- THE CELL 'sum', in the pinned program and in every row, IS THE sha256 OF THE DUMP (.gsa) THAT YtfjjdhhppmppnaaProg.lean LOADS. Nothing in Lean hashes anything: it is a label: what it is worth is what the hold of that sum in a sandbox is worth. -/
noncomputable def Try.pinned : Pinned := { name := "ytfjjdhhppmppnaa", sum := "d9274d966def0a51bb747f5f0d3da81d4685f96aecf1a6cfd1135548f2b4f766", checked := Try.checked }
namespace Rows
def none {H : Type} : Left H := { results := [], args := [] }

/-- 'furcatelaw16.EditsOrder': WHATEVER THE INPUT: true; the input reads as it did. -/
def editsOrderSpec : ChangeSpec := { name := "editsOrder", fn := fun _ => fun
  | [d1, d2, d3] => { results := [.lit (.bool true)], args := [d1, d2, d3] }
  | _ => none }
def editsOrderRow : OpenClaim := { program := "ytfjjdhhppmppnaa", sum := "d9274d966def0a51bb747f5f0d3da81d4685f96aecf1a6cfd1135548f2b4f766", func := "furcate/furcatelaw16.EditsOrder", spec := "editsOrder", inPlace := ["slices.overlaps[furcate/api.Edit]"], unfollowed := true, recurses := true, apart := false }
def EditsOrderSaid : Prop := editsOrderRow.holds Try.pinned (OpenSpec.ofChange editsOrderSpec)

/-- ITS FALSE NEIGHBOUR: 'it returns false'. Refute it at one input. -/
def editsOrderWrong : ChangeSpec := { name := "editsOrder", fn := fun _ => fun
  | [d1, d2, d3] => { results := [.lit (.bool false)], args := [d1, d2, d3] }
  | _ => none }
def EditsOrderWrongFalsely : Prop := editsOrderRow.holds Try.pinned (OpenSpec.ofChange editsOrderWrong)

/-- 'furcatelaw16.EditsUpto': WHATEVER THE INPUT: true; the input reads as it did. -/
def editsUptoSpec : ChangeSpec := { name := "editsUpto", fn := fun _ => fun
  | [d1, d2] => { results := [.lit (.bool true)], args := [d1, d2] }
  | _ => none }
def editsUptoRow : OpenClaim := { program := "ytfjjdhhppmppnaa", sum := "d9274d966def0a51bb747f5f0d3da81d4685f96aecf1a6cfd1135548f2b4f766", func := "furcate/furcatelaw16.EditsUpto", spec := "editsUpto", inPlace := ["slices.overlaps[furcate/api.Edit]"], unfollowed := true, recurses := true, apart := false }
def EditsUptoSaid : Prop := editsUptoRow.holds Try.pinned (OpenSpec.ofChange editsUptoSpec)

/-- ITS FALSE NEIGHBOUR: 'it returns false'. Refute it at one input. -/
def editsUptoWrong : ChangeSpec := { name := "editsUpto", fn := fun _ => fun
  | [d1, d2] => { results := [.lit (.bool false)], args := [d1, d2] }
  | _ => none }
def EditsUptoWrongFalsely : Prop := editsUptoRow.holds Try.pinned (OpenSpec.ofChange editsUptoWrong)

/-- 'furcatelaw16.EditsMay': WHATEVER THE INPUT: true; the input reads as it did. -/
def editsMaySpec : ChangeSpec := { name := "editsMay", fn := fun _ => fun
  | [d] => { results := [.lit (.bool true)], args := [d] }
  | _ => none }
def editsMayRow : OpenClaim := { program := "ytfjjdhhppmppnaa", sum := "d9274d966def0a51bb747f5f0d3da81d4685f96aecf1a6cfd1135548f2b4f766", func := "furcate/furcatelaw16.EditsMay", spec := "editsMay", inPlace := ["slices.overlaps[furcate/api.Edit]"], unfollowed := true, recurses := true, apart := false }
def EditsMaySaid : Prop := editsMayRow.holds Try.pinned (OpenSpec.ofChange editsMaySpec)

/-- ITS FALSE NEIGHBOUR: 'it returns false'. Refute it at one input. -/
def editsMayWrong : ChangeSpec := { name := "editsMay", fn := fun _ => fun
  | [d] => { results := [.lit (.bool false)], args := [d] }
  | _ => none }
def EditsMayWrongFalsely : Prop := editsMayRow.holds Try.pinned (OpenSpec.ofChange editsMayWrong)

/-- 'furcatelaw16.EditsAll': WHATEVER THE INPUT: true; the input reads as it did. -/
def editsAllSpec : ChangeSpec := { name := "editsAll", fn := fun _ => fun
  | [d1, d2, d3] => { results := [.lit (.bool true)], args := [d1, d2, d3] }
  | _ => none }
def editsAllRow : OpenClaim := { program := "ytfjjdhhppmppnaa", sum := "d9274d966def0a51bb747f5f0d3da81d4685f96aecf1a6cfd1135548f2b4f766", func := "furcate/furcatelaw16.EditsAll", spec := "editsAll", inPlace := ["slices.overlaps[furcate/api.Edit]"], unfollowed := true, recurses := true, apart := false }
def EditsAllSaid : Prop := editsAllRow.holds Try.pinned (OpenSpec.ofChange editsAllSpec)

/-- ITS FALSE NEIGHBOUR: 'it returns false'. Refute it at one input. -/
def editsAllWrong : ChangeSpec := { name := "editsAll", fn := fun _ => fun
  | [d1, d2, d3] => { results := [.lit (.bool false)], args := [d1, d2, d3] }
  | _ => none }
def EditsAllWrongFalsely : Prop := editsAllRow.holds Try.pinned (OpenSpec.ofChange editsAllWrong)

/-- 'furcatelaw14.KeepTells': WHATEVER THE INPUT: true; the input reads as it did. -/
def keepTellsSpec : ChangeSpec := { name := "keepTells", fn := fun _ => fun
  | [d1, d2, d3] => { results := [.lit (.bool true)], args := [d1, d2, d3] }
  | _ => none }
def keepTellsRow : OpenClaim := { program := "ytfjjdhhppmppnaa", sum := "d9274d966def0a51bb747f5f0d3da81d4685f96aecf1a6cfd1135548f2b4f766", func := "furcate/furcatelaw14.KeepTells", spec := "keepTells", inPlace := ["slices.overlaps[furcate/keep.thing[string]]", "slices.overlaps[furcate/keep.thing[int]]"], unfollowed := true, recurses := true, apart := false }
def KeepTellsSaid : Prop := keepTellsRow.holds Try.pinned (OpenSpec.ofChange keepTellsSpec)

/-- ITS FALSE NEIGHBOUR: 'it returns false'. Refute it at one input. -/
def keepTellsWrong : ChangeSpec := { name := "keepTells", fn := fun _ => fun
  | [d1, d2, d3] => { results := [.lit (.bool false)], args := [d1, d2, d3] }
  | _ => none }
def KeepTellsWrongFalsely : Prop := keepTellsRow.holds Try.pinned (OpenSpec.ofChange keepTellsWrong)

/-- 'furcatelaw14.KeepOrder': WHATEVER THE INPUT: true; the input reads as it did. -/
def keepOrderSpec : ChangeSpec := { name := "keepOrder", fn := fun _ => fun
  | [d1, d2] => { results := [.lit (.bool true)], args := [d1, d2] }
  | _ => none }
def keepOrderRow : OpenClaim := { program := "ytfjjdhhppmppnaa", sum := "d9274d966def0a51bb747f5f0d3da81d4685f96aecf1a6cfd1135548f2b4f766", func := "furcate/furcatelaw14.KeepOrder", spec := "keepOrder", inPlace := ["slices.overlaps[furcate/keep.thing[string]]", "slices.overlaps[furcate/keep.thing[int]]"], unfollowed := true, recurses := true, apart := false }
def KeepOrderSaid : Prop := keepOrderRow.holds Try.pinned (OpenSpec.ofChange keepOrderSpec)

/-- ITS FALSE NEIGHBOUR: 'it returns false'. Refute it at one input. -/
def keepOrderWrong : ChangeSpec := { name := "keepOrder", fn := fun _ => fun
  | [d1, d2] => { results := [.lit (.bool false)], args := [d1, d2] }
  | _ => none }
def KeepOrderWrongFalsely : Prop := keepOrderRow.holds Try.pinned (OpenSpec.ofChange keepOrderWrong)

/-- 'furcatelaw14.KeepPlays': WHATEVER THE INPUT: true; the input reads as it did. -/
def keepPlaysSpec : ChangeSpec := { name := "keepPlays", fn := fun _ => fun
  | [d1, d2] => { results := [.lit (.bool true)], args := [d1, d2] }
  | _ => none }
def keepPlaysRow : OpenClaim := { program := "ytfjjdhhppmppnaa", sum := "d9274d966def0a51bb747f5f0d3da81d4685f96aecf1a6cfd1135548f2b4f766", func := "furcate/furcatelaw14.KeepPlays", spec := "keepPlays", inPlace := ["slices.overlaps[furcate/keep.thing[string]]", "slices.overlaps[furcate/keep.thing[int]]"], unfollowed := true, recurses := true, apart := false }
def KeepPlaysSaid : Prop := keepPlaysRow.holds Try.pinned (OpenSpec.ofChange keepPlaysSpec)

/-- ITS FALSE NEIGHBOUR: 'it returns false'. Refute it at one input. -/
def keepPlaysWrong : ChangeSpec := { name := "keepPlays", fn := fun _ => fun
  | [d1, d2] => { results := [.lit (.bool false)], args := [d1, d2] }
  | _ => none }
def KeepPlaysWrongFalsely : Prop := keepPlaysRow.holds Try.pinned (OpenSpec.ofChange keepPlaysWrong)

/-- 'furcatelaw14.KeepDrops': WHATEVER THE INPUT: true; the input reads as it did. -/
def keepDropsSpec : ChangeSpec := { name := "keepDrops", fn := fun _ => fun
  | [d1, d2] => { results := [.lit (.bool true)], args := [d1, d2] }
  | _ => none }
def keepDropsRow : OpenClaim := { program := "ytfjjdhhppmppnaa", sum := "d9274d966def0a51bb747f5f0d3da81d4685f96aecf1a6cfd1135548f2b4f766", func := "furcate/furcatelaw14.KeepDrops", spec := "keepDrops", inPlace := ["slices.overlaps[furcate/keep.thing[string]]", "slices.overlaps[furcate/keep.thing[int]]"], unfollowed := true, recurses := true, apart := false }
def KeepDropsSaid : Prop := keepDropsRow.holds Try.pinned (OpenSpec.ofChange keepDropsSpec)

/-- ITS FALSE NEIGHBOUR: 'it returns false'. Refute it at one input. -/
def keepDropsWrong : ChangeSpec := { name := "keepDrops", fn := fun _ => fun
  | [d1, d2] => { results := [.lit (.bool false)], args := [d1, d2] }
  | _ => none }
def KeepDropsWrongFalsely : Prop := keepDropsRow.holds Try.pinned (OpenSpec.ofChange keepDropsWrong)

/- THE SECOND FORM. 'bulk': how many values and letters a reading holds, each counted each time it is reached (what is shared counts as often as it is met; a slice's spare places count too). A statement '..UptoSaid' is the law's where the arguments, and the package variables that the reading takes, are together of bulk at most 1048576: NARROWER than '..Said'. Prove '..Said' where nothing that the law and all that it calls make is longer than what came in: it says more and counts as full. Else prove '..UptoSaid'. A law counts once. -/
mutual
def uptoBulk {H : Type} : DataW H → Nat
  | .lit (.string bytes) => bytes.length + 1
  | .lit _ => 1
  | .nil => 1
  | .ptr d => uptoBulk d + 1
  | .slice elems spare => uptoBulkAll elems + uptoBulkAll spare + 1
  | .agg parts => uptoBulkAll parts + 1
  | .iface _ d => uptoBulk d + 1
  | .map entries => uptoBulkEntries entries + 1
  | .held _ => 1
def uptoBulkAll {H : Type} : List (DataW H) → Nat
  | [] => 0
  | d :: r => uptoBulk d + uptoBulkAll r
def uptoBulkEntries {H : Type} : List (Lit × DataW H) → Nat
  | [] => 0
  | x :: r => uptoBulkEntry x + uptoBulkEntries r
def uptoBulkEntry {H : Type} : Lit × DataW H → Nat
  | (.string bytes, d) => bytes.length + uptoBulk d + 1
  | (_, d) => uptoBulk d + 1
 end
def uptoSmall : (H : Type) → List (DataW H) → Bool := fun _ ds => decide (uptoBulkAll ds ≤ 1048576)
def OpenSpec.upto (s : _root_.Go.ChangeSpec) : _root_.Go.OpenSpec := { _root_.Go.OpenSpec.ofChange s with cond := some uptoSmall }

/-- 'furcatelaw16.EditsOrder', WHERE WHAT IT READS IS OF BULK AT MOST 1048576: true; the input reads as it did. -/
def editsOrderUptoRow : OpenClaim := { program := "ytfjjdhhppmppnaa", sum := "d9274d966def0a51bb747f5f0d3da81d4685f96aecf1a6cfd1135548f2b4f766", func := "furcate/furcatelaw16.EditsOrder", spec := "editsOrder", inPlace := ["slices.overlaps[furcate/api.Edit]"], unfollowed := true, recurses := true, apart := false, narrowed := true }
def EditsOrderUptoSaid : Prop := editsOrderUptoRow.holds Try.pinned (OpenSpec.upto editsOrderSpec)

/-- 'furcatelaw16.EditsUpto', WHERE WHAT IT READS IS OF BULK AT MOST 1048576: true; the input reads as it did. -/
def editsUptoUptoRow : OpenClaim := { program := "ytfjjdhhppmppnaa", sum := "d9274d966def0a51bb747f5f0d3da81d4685f96aecf1a6cfd1135548f2b4f766", func := "furcate/furcatelaw16.EditsUpto", spec := "editsUpto", inPlace := ["slices.overlaps[furcate/api.Edit]"], unfollowed := true, recurses := true, apart := false, narrowed := true }
def EditsUptoUptoSaid : Prop := editsUptoUptoRow.holds Try.pinned (OpenSpec.upto editsUptoSpec)

/-- 'furcatelaw16.EditsMay', WHERE WHAT IT READS IS OF BULK AT MOST 1048576: true; the input reads as it did. -/
def editsMayUptoRow : OpenClaim := { program := "ytfjjdhhppmppnaa", sum := "d9274d966def0a51bb747f5f0d3da81d4685f96aecf1a6cfd1135548f2b4f766", func := "furcate/furcatelaw16.EditsMay", spec := "editsMay", inPlace := ["slices.overlaps[furcate/api.Edit]"], unfollowed := true, recurses := true, apart := false, narrowed := true }
def EditsMayUptoSaid : Prop := editsMayUptoRow.holds Try.pinned (OpenSpec.upto editsMaySpec)

/-- 'furcatelaw16.EditsAll', WHERE WHAT IT READS IS OF BULK AT MOST 1048576: true; the input reads as it did. -/
def editsAllUptoRow : OpenClaim := { program := "ytfjjdhhppmppnaa", sum := "d9274d966def0a51bb747f5f0d3da81d4685f96aecf1a6cfd1135548f2b4f766", func := "furcate/furcatelaw16.EditsAll", spec := "editsAll", inPlace := ["slices.overlaps[furcate/api.Edit]"], unfollowed := true, recurses := true, apart := false, narrowed := true }
def EditsAllUptoSaid : Prop := editsAllUptoRow.holds Try.pinned (OpenSpec.upto editsAllSpec)

/-- 'furcatelaw14.KeepTells', WHERE WHAT IT READS IS OF BULK AT MOST 1048576: true; the input reads as it did. -/
def keepTellsUptoRow : OpenClaim := { program := "ytfjjdhhppmppnaa", sum := "d9274d966def0a51bb747f5f0d3da81d4685f96aecf1a6cfd1135548f2b4f766", func := "furcate/furcatelaw14.KeepTells", spec := "keepTells", inPlace := ["slices.overlaps[furcate/keep.thing[string]]", "slices.overlaps[furcate/keep.thing[int]]"], unfollowed := true, recurses := true, apart := false, narrowed := true }
def KeepTellsUptoSaid : Prop := keepTellsUptoRow.holds Try.pinned (OpenSpec.upto keepTellsSpec)

/-- 'furcatelaw14.KeepOrder', WHERE WHAT IT READS IS OF BULK AT MOST 1048576: true; the input reads as it did. -/
def keepOrderUptoRow : OpenClaim := { program := "ytfjjdhhppmppnaa", sum := "d9274d966def0a51bb747f5f0d3da81d4685f96aecf1a6cfd1135548f2b4f766", func := "furcate/furcatelaw14.KeepOrder", spec := "keepOrder", inPlace := ["slices.overlaps[furcate/keep.thing[string]]", "slices.overlaps[furcate/keep.thing[int]]"], unfollowed := true, recurses := true, apart := false, narrowed := true }
def KeepOrderUptoSaid : Prop := keepOrderUptoRow.holds Try.pinned (OpenSpec.upto keepOrderSpec)

/-- 'furcatelaw14.KeepPlays', WHERE WHAT IT READS IS OF BULK AT MOST 1048576: true; the input reads as it did. -/
def keepPlaysUptoRow : OpenClaim := { program := "ytfjjdhhppmppnaa", sum := "d9274d966def0a51bb747f5f0d3da81d4685f96aecf1a6cfd1135548f2b4f766", func := "furcate/furcatelaw14.KeepPlays", spec := "keepPlays", inPlace := ["slices.overlaps[furcate/keep.thing[string]]", "slices.overlaps[furcate/keep.thing[int]]"], unfollowed := true, recurses := true, apart := false, narrowed := true }
def KeepPlaysUptoSaid : Prop := keepPlaysUptoRow.holds Try.pinned (OpenSpec.upto keepPlaysSpec)

/-- 'furcatelaw14.KeepDrops', WHERE WHAT IT READS IS OF BULK AT MOST 1048576: true; the input reads as it did. -/
def keepDropsUptoRow : OpenClaim := { program := "ytfjjdhhppmppnaa", sum := "d9274d966def0a51bb747f5f0d3da81d4685f96aecf1a6cfd1135548f2b4f766", func := "furcate/furcatelaw14.KeepDrops", spec := "keepDrops", inPlace := ["slices.overlaps[furcate/keep.thing[string]]", "slices.overlaps[furcate/keep.thing[int]]"], unfollowed := true, recurses := true, apart := false, narrowed := true }
def KeepDropsUptoSaid : Prop := keepDropsUptoRow.holds Try.pinned (OpenSpec.upto keepDropsSpec)

end Rows
end Go.Proofs.Ytfjjdhhppmppnaa
