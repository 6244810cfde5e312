/- The data of the program as Lean structures, and their cells. No conditions. -/
import Derived.Test.YtfjjdhhppmppnaaFcL
set_option linter.all false
namespace Go.Fc
open Go
structure GValue where
  ty : Int
  n : Int
  s : ByteArray
  deriving Inhabited, DecidableEq
def eGValue (x : GValue) : List AV := [.raw (.int .i64 x.ty), .raw (.int .i64 x.n), .raw (.string x.s)]
section
variable (x y : GValue)
@[go_sem] theorem eGValue_len : (eGValue x).length = 3 := rfl
@[go_sem] theorem eGValue_ones : (eGValue x).all AV.one = true := rfl
theorem eGValue_ok : (eGValue x).length = 3 ∧ ones (eGValue x) = true := ⟨rfl, rfl⟩
@[go_sem] theorem eGValue_take : (eGValue x).take 3 = eGValue x := rfl
@[go_sem] theorem eGValue_g0 : (eGValue x).getD 0 .any = .raw (.int .i64 x.ty) := rfl
@[go_sem] theorem eGValue_s0 (v : Int) : splice (eGValue x) 0 [.raw (.int .i64 v)] = eGValue { x with ty := v } := rfl
@[go_sem] theorem eGValue_g1 : (eGValue x).getD 1 .any = .raw (.int .i64 x.n) := rfl
@[go_sem] theorem eGValue_s1 (v : Int) : splice (eGValue x) 1 [.raw (.int .i64 v)] = eGValue { x with n := v } := rfl
@[go_sem] theorem eGValue_g2 : (eGValue x).getD 2 .any = .raw (.string x.s) := rfl
@[go_sem] theorem eGValue_s2 (v : ByteArray) : splice (eGValue x) 2 [.raw (.string v)] = eGValue { x with s := v } := rfl
@[go_sem] theorem eGValue_kinds : (eGValue x).map kindA = [some (.int .i64), some (.int .i64), some .str] := rfl
@[go_sem] theorem eGValue_eq : eqL (eGValue x) (eGValue y) = decide (x = y) := by
  rw [Bool.eq_iff_iff]
  obtain ⟨a1, a2, a3⟩ := x; obtain ⟨b4, b5, b6⟩ := y
  simp [eGValue, eqL]
end
structure GEdit where
  at_ : Int
  name : ByteArray
  v : GValue
  deriving Inhabited, DecidableEq
def eGEdit (x : GEdit) : List AV := [.raw (.int .i64 x.at_), .raw (.string x.name), .raw (.int .i64 x.v.ty), .raw (.int .i64 x.v.n), .raw (.string x.v.s)]
section
variable (x y : GEdit)
@[go_sem] theorem eGEdit_len : (eGEdit x).length = 5 := rfl
@[go_sem] theorem eGEdit_ones : (eGEdit x).all AV.one = true := rfl
theorem eGEdit_ok : (eGEdit x).length = 5 ∧ ones (eGEdit x) = true := ⟨rfl, rfl⟩
@[go_sem] theorem eGEdit_take : (eGEdit x).take 5 = eGEdit x := rfl
@[go_sem] theorem eGEdit_g0 : (eGEdit x).getD 0 .any = .raw (.int .i64 x.at_) := rfl
@[go_sem] theorem eGEdit_s0 (v : Int) : splice (eGEdit x) 0 [.raw (.int .i64 v)] = eGEdit { x with at_ := v } := rfl
@[go_sem] theorem eGEdit_g1 : (eGEdit x).getD 1 .any = .raw (.string x.name) := rfl
@[go_sem] theorem eGEdit_s1 (v : ByteArray) : splice (eGEdit x) 1 [.raw (.string v)] = eGEdit { x with name := v } := rfl
@[go_sem] theorem eGEdit_g2 : (eGEdit x).getD 2 .any = .raw (.int .i64 x.v.ty) := rfl
@[go_sem] theorem eGEdit_s2 (v : Int) : splice (eGEdit x) 2 [.raw (.int .i64 v)] = eGEdit { x with v.ty := v } := rfl
@[go_sem] theorem eGEdit_g3 : (eGEdit x).getD 3 .any = .raw (.int .i64 x.v.n) := rfl
@[go_sem] theorem eGEdit_s3 (v : Int) : splice (eGEdit x) 3 [.raw (.int .i64 v)] = eGEdit { x with v.n := v } := rfl
@[go_sem] theorem eGEdit_g4 : (eGEdit x).getD 4 .any = .raw (.string x.v.s) := rfl
@[go_sem] theorem eGEdit_s4 (v : ByteArray) : splice (eGEdit x) 4 [.raw (.string v)] = eGEdit { x with v.s := v } := rfl
@[go_sem] theorem eGEdit_d2_3 : ((eGEdit x).drop 2).take 3 = eGValue x.v := rfl
@[go_sem] theorem eGEdit_w2 (v : GValue) : splice (eGEdit x) 2 (eGValue v) = eGEdit { x with v := v } := rfl
@[go_sem] theorem eGEdit_kinds : (eGEdit x).map kindA = [some (.int .i64), some .str, some (.int .i64), some (.int .i64), some .str] := rfl
@[go_sem] theorem eGEdit_eq : eqL (eGEdit x) (eGEdit y) = decide (x = y) := by
  rw [Bool.eq_iff_iff]
  obtain ⟨a7, a8, ⟨a9, a10, a11⟩⟩ := x; obtain ⟨b12, b13, ⟨b14, b15, b16⟩⟩ := y
  simp [eGEdit, eqL]
end
end Go.Fc
