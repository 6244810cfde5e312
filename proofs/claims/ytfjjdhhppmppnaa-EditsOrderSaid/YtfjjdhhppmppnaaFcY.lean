/- The data of the program as Lean structures, and their cells. No conditions. -/
import Derived.Test.YtfjjdhhppmppnaaFcL
set_option linter.all false
namespace Go.Fc
open Go
structure GValue where
  ty : Int
  n : Int
  s : ByteArray
  deriving Inhabited, DecidableEq
def eGValue (x : GValue) : List AV := [.raw (.int .i64 x.ty), .raw (.int .i64 x.n), .raw (.string x.s)]
section
variable (x y : GValue)
@[go_sem] theorem eGValue_len : (eGValue x).length = 3 := (rfl)
@[go_sem] theorem eGValue_ones : (eGValue x).all AV.one = true := (rfl)
theorem eGValue_ok : (eGValue x).length = 3 ∧ ones (eGValue x) = true := ⟨rfl, rfl⟩
@[go_sem] theorem eGValue_take : (eGValue x).take 3 = eGValue x := (rfl)
@[go_sem] theorem eGValue_g0 : (eGValue x).getD 0 .any = .raw (.int .i64 x.ty) := (rfl)
@[go_sem] theorem eGValue_s0 (v : Int) : splice (eGValue x) 0 [.raw (.int .i64 v)] = eGValue { x with ty := v } := (rfl)
@[go_sem] theorem eGValue_g1 : (eGValue x).getD 1 .any = .raw (.int .i64 x.n) := (rfl)
@[go_sem] theorem eGValue_s1 (v : Int) : splice (eGValue x) 1 [.raw (.int .i64 v)] = eGValue { x with n := v } := (rfl)
@[go_sem] theorem eGValue_g2 : (eGValue x).getD 2 .any = .raw (.string x.s) := (rfl)
@[go_sem] theorem eGValue_s2 (v : ByteArray) : splice (eGValue x) 2 [.raw (.string v)] = eGValue { x with s := v } := (rfl)
@[go_sem] theorem eGValue_kinds : (eGValue x).map kindA = [some (.int .i64), some (.int .i64), some .str] := (rfl)
@[go_sem] theorem eGValue_eq : eqL (eGValue x) (eGValue y) = decide (x = y) := by
  rw [Bool.eq_iff_iff]
  obtain ⟨a1, a2, a3⟩ := x; obtain ⟨b4, b5, b6⟩ := y
  simp [eGValue, eqL]
end
structure GEdit where
  at_ : Int
  name : ByteArray
  v : GValue
  deriving Inhabited, DecidableEq
def eGEdit (x : GEdit) : List AV := [.raw (.int .i64 x.at_), .raw (.string x.name), .raw (.int .i64 x.v.ty), .raw (.int .i64 x.v.n), .raw (.string x.v.s)]
section
variable (x y : GEdit)
@[go_sem] theorem eGEdit_len : (eGEdit x).length = 5 := (rfl)
@[go_sem] theorem eGEdit_ones : (eGEdit x).all AV.one = true := (rfl)
theorem eGEdit_ok : (eGEdit x).length = 5 ∧ ones (eGEdit x) = true := ⟨rfl, rfl⟩
@[go_sem] theorem eGEdit_take : (eGEdit x).take 5 = eGEdit x := (rfl)
@[go_sem] theorem eGEdit_g0 : (eGEdit x).getD 0 .any = .raw (.int .i64 x.at_) := (rfl)
@[go_sem] theorem eGEdit_s0 (v : Int) : splice (eGEdit x) 0 [.raw (.int .i64 v)] = eGEdit { x with at_ := v } := (rfl)
@[go_sem] theorem eGEdit_g1 : (eGEdit x).getD 1 .any = .raw (.string x.name) := (rfl)
@[go_sem] theorem eGEdit_s1 (v : ByteArray) : splice (eGEdit x) 1 [.raw (.string v)] = eGEdit { x with name := v } := (rfl)
@[go_sem] theorem eGEdit_g2 : (eGEdit x).getD 2 .any = .raw (.int .i64 x.v.ty) := (rfl)
@[go_sem] theorem eGEdit_s2 (v : Int) : splice (eGEdit x) 2 [.raw (.int .i64 v)] = eGEdit { x with v.ty := v } := (rfl)
@[go_sem] theorem eGEdit_g3 : (eGEdit x).getD 3 .any = .raw (.int .i64 x.v.n) := (rfl)
@[go_sem] theorem eGEdit_s3 (v : Int) : splice (eGEdit x) 3 [.raw (.int .i64 v)] = eGEdit { x with v.n := v } := (rfl)
@[go_sem] theorem eGEdit_g4 : (eGEdit x).getD 4 .any = .raw (.string x.v.s) := (rfl)
@[go_sem] theorem eGEdit_s4 (v : ByteArray) : splice (eGEdit x) 4 [.raw (.string v)] = eGEdit { x with v.s := v } := (rfl)
@[go_sem] theorem eGEdit_d2_3 : ((eGEdit x).drop 2).take 3 = eGValue x.v := (rfl)
@[go_sem] theorem eGEdit_w2 (v : GValue) : splice (eGEdit x) 2 (eGValue v) = eGEdit { x with v := v } := (rfl)
@[go_sem] theorem eGEdit_kinds : (eGEdit x).map kindA = [some (.int .i64), some .str, some (.int .i64), some (.int .i64), some .str] := (rfl)
@[go_sem] theorem eGEdit_eq : eqL (eGEdit x) (eGEdit y) = decide (x = y) := by
  rw [Bool.eq_iff_iff]
  obtain ⟨a7, a8, ⟨a9, a10, a11⟩⟩ := x; obtain ⟨b12, b13, ⟨b14, b15, b16⟩⟩ := y
  simp [eGEdit, eqL]
end
structure GCut where
  t : Int
  u : Int
  x : GEdit
  deriving Inhabited, DecidableEq
def eGCut (x : GCut) : List AV := [.raw (.int .i64 x.t), .raw (.int .i64 x.u), .raw (.int .i64 x.x.at_), .raw (.string x.x.name), .raw (.int .i64 x.x.v.ty), .raw (.int .i64 x.x.v.n), .raw (.string x.x.v.s)]
section
variable (x y : GCut)
@[go_sem] theorem eGCut_len : (eGCut x).length = 7 := (rfl)
@[go_sem] theorem eGCut_ones : (eGCut x).all AV.one = true := (rfl)
theorem eGCut_ok : (eGCut x).length = 7 ∧ ones (eGCut x) = true := ⟨rfl, rfl⟩
@[go_sem] theorem eGCut_take : (eGCut x).take 7 = eGCut x := (rfl)
@[go_sem] theorem eGCut_g0 : (eGCut x).getD 0 .any = .raw (.int .i64 x.t) := (rfl)
@[go_sem] theorem eGCut_s0 (v : Int) : splice (eGCut x) 0 [.raw (.int .i64 v)] = eGCut { x with t := v } := (rfl)
@[go_sem] theorem eGCut_g1 : (eGCut x).getD 1 .any = .raw (.int .i64 x.u) := (rfl)
@[go_sem] theorem eGCut_s1 (v : Int) : splice (eGCut x) 1 [.raw (.int .i64 v)] = eGCut { x with u := v } := (rfl)
@[go_sem] theorem eGCut_g2 : (eGCut x).getD 2 .any = .raw (.int .i64 x.x.at_) := (rfl)
@[go_sem] theorem eGCut_s2 (v : Int) : splice (eGCut x) 2 [.raw (.int .i64 v)] = eGCut { x with x.at_ := v } := (rfl)
@[go_sem] theorem eGCut_g3 : (eGCut x).getD 3 .any = .raw (.string x.x.name) := (rfl)
@[go_sem] theorem eGCut_s3 (v : ByteArray) : splice (eGCut x) 3 [.raw (.string v)] = eGCut { x with x.name := v } := (rfl)
@[go_sem] theorem eGCut_g4 : (eGCut x).getD 4 .any = .raw (.int .i64 x.x.v.ty) := (rfl)
@[go_sem] theorem eGCut_s4 (v : Int) : splice (eGCut x) 4 [.raw (.int .i64 v)] = eGCut { x with x.v.ty := v } := (rfl)
@[go_sem] theorem eGCut_g5 : (eGCut x).getD 5 .any = .raw (.int .i64 x.x.v.n) := (rfl)
@[go_sem] theorem eGCut_s5 (v : Int) : splice (eGCut x) 5 [.raw (.int .i64 v)] = eGCut { x with x.v.n := v } := (rfl)
@[go_sem] theorem eGCut_g6 : (eGCut x).getD 6 .any = .raw (.string x.x.v.s) := (rfl)
@[go_sem] theorem eGCut_s6 (v : ByteArray) : splice (eGCut x) 6 [.raw (.string v)] = eGCut { x with x.v.s := v } := (rfl)
@[go_sem] theorem eGCut_d2_5 : ((eGCut x).drop 2).take 5 = eGEdit x.x := (rfl)
@[go_sem] theorem eGCut_w2 (v : GEdit) : splice (eGCut x) 2 (eGEdit v) = eGCut { x with x := v } := (rfl)
@[go_sem] theorem eGCut_kinds : (eGCut x).map kindA = [some (.int .i64), some (.int .i64), some (.int .i64), some .str, some (.int .i64), some (.int .i64), some .str] := (rfl)
@[go_sem] theorem eGCut_eq : eqL (eGCut x) (eGCut y) = decide (x = y) := by
  rw [Bool.eq_iff_iff]
  obtain ⟨a17, a18, ⟨a19, a20, ⟨a21, a22, a23⟩⟩⟩ := x; obtain ⟨b24, b25, ⟨b26, b27, ⟨b28, b29, b30⟩⟩⟩ := y
  simp [eGCut, eqL]
end
structure GThird where
  l : List GEdit
  t : Int
  deriving Inhabited, DecidableEq
def eGThird (x : GThird) : List AV := [slOf eGEdit 5 x.l, .raw (.int .i64 x.t)]
section
variable (x y : GThird)
@[go_sem] theorem eGThird_len : (eGThird x).length = 2 := (rfl)
@[go_sem] theorem eGThird_ones : (eGThird x).all AV.one = true := (rfl)
theorem eGThird_ok : (eGThird x).length = 2 ∧ ones (eGThird x) = true := ⟨rfl, rfl⟩
@[go_sem] theorem eGThird_take : (eGThird x).take 2 = eGThird x := (rfl)
@[go_sem] theorem eGThird_g0 : (eGThird x).getD 0 .any = slOf eGEdit 5 x.l := (rfl)
@[go_sem] theorem eGThird_s0 (v : List GEdit) : splice (eGThird x) 0 [slOf eGEdit 5 v] = eGThird { x with l := v } := (rfl)
@[go_sem] theorem eGThird_g1 : (eGThird x).getD 1 .any = .raw (.int .i64 x.t) := (rfl)
@[go_sem] theorem eGThird_s1 (v : Int) : splice (eGThird x) 1 [.raw (.int .i64 v)] = eGThird { x with t := v } := (rfl)
end
structure GOp where
  kind : Int
  at_ : Int
  x : Int
  deriving Inhabited, DecidableEq
def eGOp (x : GOp) : List AV := [.raw (.int .u8 x.kind), .raw (.int .i64 x.at_), .raw (.int .i64 x.x)]
section
variable (x y : GOp)
@[go_sem] theorem eGOp_len : (eGOp x).length = 3 := (rfl)
@[go_sem] theorem eGOp_ones : (eGOp x).all AV.one = true := (rfl)
theorem eGOp_ok : (eGOp x).length = 3 ∧ ones (eGOp x) = true := ⟨rfl, rfl⟩
@[go_sem] theorem eGOp_take : (eGOp x).take 3 = eGOp x := (rfl)
@[go_sem] theorem eGOp_g0 : (eGOp x).getD 0 .any = .raw (.int .u8 x.kind) := (rfl)
@[go_sem] theorem eGOp_s0 (v : Int) : splice (eGOp x) 0 [.raw (.int .u8 v)] = eGOp { x with kind := v } := (rfl)
@[go_sem] theorem eGOp_g1 : (eGOp x).getD 1 .any = .raw (.int .i64 x.at_) := (rfl)
@[go_sem] theorem eGOp_s1 (v : Int) : splice (eGOp x) 1 [.raw (.int .i64 v)] = eGOp { x with at_ := v } := (rfl)
@[go_sem] theorem eGOp_g2 : (eGOp x).getD 2 .any = .raw (.int .i64 x.x) := (rfl)
@[go_sem] theorem eGOp_s2 (v : Int) : splice (eGOp x) 2 [.raw (.int .i64 v)] = eGOp { x with x := v } := (rfl)
@[go_sem] theorem eGOp_kinds : (eGOp x).map kindA = [some (.int .u8), some (.int .i64), some (.int .i64)] := (rfl)
@[go_sem] theorem eGOp_eq : eqL (eGOp x) (eGOp y) = decide (x = y) := by
  rw [Bool.eq_iff_iff]
  obtain ⟨a31, a32, a33⟩ := x; obtain ⟨b34, b35, b36⟩ := y
  simp [eGOp, eqL]
end
structure GRKeep where
  most : Int
  at_ : List Int
  x : List Int
  deriving Inhabited, DecidableEq
def eGRKeep (x : GRKeep) : List AV := [.raw (.int .i64 x.most), slOf (fun x : Int => [.raw (.int .i64 x)]) 1 x.at_, slOf (fun x : Int => [.raw (.int .i64 x)]) 1 x.x]
section
variable (x y : GRKeep)
@[go_sem] theorem eGRKeep_len : (eGRKeep x).length = 3 := (rfl)
@[go_sem] theorem eGRKeep_ones : (eGRKeep x).all AV.one = true := (rfl)
theorem eGRKeep_ok : (eGRKeep x).length = 3 ∧ ones (eGRKeep x) = true := ⟨rfl, rfl⟩
@[go_sem] theorem eGRKeep_take : (eGRKeep x).take 3 = eGRKeep x := (rfl)
@[go_sem] theorem eGRKeep_g0 : (eGRKeep x).getD 0 .any = .raw (.int .i64 x.most) := (rfl)
@[go_sem] theorem eGRKeep_s0 (v : Int) : splice (eGRKeep x) 0 [.raw (.int .i64 v)] = eGRKeep { x with most := v } := (rfl)
@[go_sem] theorem eGRKeep_g1 : (eGRKeep x).getD 1 .any = slOf (fun x : Int => [.raw (.int .i64 x)]) 1 x.at_ := (rfl)
@[go_sem] theorem eGRKeep_s1 (v : List Int) : splice (eGRKeep x) 1 [slOf (fun x : Int => [.raw (.int .i64 x)]) 1 v] = eGRKeep { x with at_ := v } := (rfl)
@[go_sem] theorem eGRKeep_g2 : (eGRKeep x).getD 2 .any = slOf (fun x : Int => [.raw (.int .i64 x)]) 1 x.x := (rfl)
@[go_sem] theorem eGRKeep_s2 (v : List Int) : splice (eGRKeep x) 2 [slOf (fun x : Int => [.raw (.int .i64 x)]) 1 v] = eGRKeep { x with x := v } := (rfl)
end
structure GThing where
  at_ : Int
  it : Int
  deriving Inhabited, DecidableEq
def eGThing (x : GThing) : List AV := [.raw (.int .i64 x.at_), .raw (.int .i64 x.it)]
section
variable (x y : GThing)
@[go_sem] theorem eGThing_len : (eGThing x).length = 2 := (rfl)
@[go_sem] theorem eGThing_ones : (eGThing x).all AV.one = true := (rfl)
theorem eGThing_ok : (eGThing x).length = 2 ∧ ones (eGThing x) = true := ⟨rfl, rfl⟩
@[go_sem] theorem eGThing_take : (eGThing x).take 2 = eGThing x := (rfl)
@[go_sem] theorem eGThing_g0 : (eGThing x).getD 0 .any = .raw (.int .i64 x.at_) := (rfl)
@[go_sem] theorem eGThing_s0 (v : Int) : splice (eGThing x) 0 [.raw (.int .i64 v)] = eGThing { x with at_ := v } := (rfl)
@[go_sem] theorem eGThing_g1 : (eGThing x).getD 1 .any = .raw (.int .i64 x.it) := (rfl)
@[go_sem] theorem eGThing_s1 (v : Int) : splice (eGThing x) 1 [.raw (.int .i64 v)] = eGThing { x with it := v } := (rfl)
@[go_sem] theorem eGThing_kinds : (eGThing x).map kindA = [some (.int .i64), some (.int .i64)] := (rfl)
@[go_sem] theorem eGThing_eq : eqL (eGThing x) (eGThing y) = decide (x = y) := by
  rw [Bool.eq_iff_iff]
  obtain ⟨a37, a38⟩ := x; obtain ⟨b39, b40⟩ := y
  simp [eGThing, eqL]
end
structure GKeep where
  most : Int
  l : List GThing
  deriving Inhabited, DecidableEq
def eGKeep (x : GKeep) : List AV := [.raw (.int .i64 x.most), slOf eGThing 2 x.l]
section
variable (x y : GKeep)
@[go_sem] theorem eGKeep_len : (eGKeep x).length = 2 := (rfl)
@[go_sem] theorem eGKeep_ones : (eGKeep x).all AV.one = true := (rfl)
theorem eGKeep_ok : (eGKeep x).length = 2 ∧ ones (eGKeep x) = true := ⟨rfl, rfl⟩
@[go_sem] theorem eGKeep_take : (eGKeep x).take 2 = eGKeep x := (rfl)
@[go_sem] theorem eGKeep_g0 : (eGKeep x).getD 0 .any = .raw (.int .i64 x.most) := (rfl)
@[go_sem] theorem eGKeep_s0 (v : Int) : splice (eGKeep x) 0 [.raw (.int .i64 v)] = eGKeep { x with most := v } := (rfl)
@[go_sem] theorem eGKeep_g1 : (eGKeep x).getD 1 .any = slOf eGThing 2 x.l := (rfl)
@[go_sem] theorem eGKeep_s1 (v : List GThing) : splice (eGKeep x) 1 [slOf eGThing 2 v] = eGKeep { x with l := v } := (rfl)
end
end Go.Fc
