/- The data of the program as Lean structures, and their cells. No conditions. -/
import Derived.Test.YtbpmikjlfgfbmaaGreatDoorGdX
set_option linter.all false
namespace Go.Gd
open Go
@[go_sem] theorem map_set_enc {α : Type} (enc : α → List AV) (l : List α) (k : Nat) (x : α) : (l.map enc).set k (enc x) = (l.set k x).map enc := List.map_set.symm
attribute [go_sem] List.length_set
def eI (x : Int) : List AV := [.raw (.int .i64 x)]
instance : EncOK eI 1 := ⟨fun _ => rfl, fun _ => rfl, fun _ => rfl⟩
@[go_sem] theorem eI_len (x : Int) : (eI x).length = 1 := (rfl)
@[go_sem] theorem eI_ones (x : Int) : ones (eI x) = true := (rfl)
@[go_sem] theorem eI_one (x : Int) : (eI x).all AV.one = true := (rfl)
@[go_sem] theorem eI_all (q : Nat → Bool) (x : Int) : allL q (eI x) = true := (rfl)
@[go_sem] theorem eI_g0 (x : Int) : (eI x).getD 0 .any = .raw (.int .i64 x) := (rfl)
@[go_sem] theorem eI_s0 (x y : Int) : splice (eI x) 0 [.raw (.int .i64 y)] = eI y := (rfl)
@[go_sem] theorem eI_d1 (x : Int) : (eI x).drop 1 = [] := (rfl)
@[go_sem] theorem eI_set (l : List Int) (k : Nat) (x : Int) : (l.map eI).set k [.raw (.int .i64 x)] = (l.set k x).map eI := (List.map_set (f := eI)).symm
theorem eI_mk (x : Int) : [.raw (.int .i64 x)] = eI x := (rfl)
def eS (x : ByteArray) : List AV := [.raw (.string x)]
instance : EncOK eS 1 := ⟨fun _ => rfl, fun _ => rfl, fun _ => rfl⟩
@[go_sem] theorem eS_len (x : ByteArray) : (eS x).length = 1 := (rfl)
@[go_sem] theorem eS_ones (x : ByteArray) : ones (eS x) = true := (rfl)
@[go_sem] theorem eS_one (x : ByteArray) : (eS x).all AV.one = true := (rfl)
@[go_sem] theorem eS_all (q : Nat → Bool) (x : ByteArray) : allL q (eS x) = true := (rfl)
@[go_sem] theorem eS_g0 (x : ByteArray) : (eS x).getD 0 .any = .raw (.string x) := (rfl)
@[go_sem] theorem eS_s0 (x y : ByteArray) : splice (eS x) 0 [.raw (.string y)] = eS y := (rfl)
@[go_sem] theorem eS_d1 (x : ByteArray) : (eS x).drop 1 = [] := (rfl)
@[go_sem] theorem eS_set (l : List ByteArray) (k : Nat) (x : ByteArray) : (l.map eS).set k [.raw (.string x)] = (l.set k x).map eS := (List.map_set (f := eS)).symm
theorem eS_mk (x : ByteArray) : [.raw (.string x)] = eS x := (rfl)
def eB (x : Bool) : List AV := [.raw (.bool x)]
instance : EncOK eB 1 := ⟨fun _ => rfl, fun _ => rfl, fun _ => rfl⟩
@[go_sem] theorem eB_len (x : Bool) : (eB x).length = 1 := (rfl)
@[go_sem] theorem eB_ones (x : Bool) : ones (eB x) = true := (rfl)
@[go_sem] theorem eB_one (x : Bool) : (eB x).all AV.one = true := (rfl)
@[go_sem] theorem eB_all (q : Nat → Bool) (x : Bool) : allL q (eB x) = true := (rfl)
@[go_sem] theorem eB_g0 (x : Bool) : (eB x).getD 0 .any = .raw (.bool x) := (rfl)
@[go_sem] theorem eB_s0 (x y : Bool) : splice (eB x) 0 [.raw (.bool y)] = eB y := (rfl)
@[go_sem] theorem eB_d1 (x : Bool) : (eB x).drop 1 = [] := (rfl)
@[go_sem] theorem eB_set (l : List Bool) (k : Nat) (x : Bool) : (l.map eB).set k [.raw (.bool x)] = (l.set k x).map eB := (List.map_set (f := eB)).symm
theorem eB_mk (x : Bool) : [.raw (.bool x)] = eB x := (rfl)
def eU (x : Int) : List AV := [.raw (.int .u8 x)]
instance : EncOK eU 1 := ⟨fun _ => rfl, fun _ => rfl, fun _ => rfl⟩
@[go_sem] theorem eU_len (x : Int) : (eU x).length = 1 := (rfl)
@[go_sem] theorem eU_ones (x : Int) : ones (eU x) = true := (rfl)
@[go_sem] theorem eU_one (x : Int) : (eU x).all AV.one = true := (rfl)
@[go_sem] theorem eU_all (q : Nat → Bool) (x : Int) : allL q (eU x) = true := (rfl)
@[go_sem] theorem eU_g0 (x : Int) : (eU x).getD 0 .any = .raw (.int .u8 x) := (rfl)
@[go_sem] theorem eU_s0 (x y : Int) : splice (eU x) 0 [.raw (.int .u8 y)] = eU y := (rfl)
@[go_sem] theorem eU_d1 (x : Int) : (eU x).drop 1 = [] := (rfl)
@[go_sem] theorem eU_set (l : List Int) (k : Nat) (x : Int) : (l.map eU).set k [.raw (.int .u8 x)] = (l.set k x).map eU := (List.map_set (f := eU)).symm
theorem eU_mk (x : Int) : [.raw (.int .u8 x)] = eU x := (rfl)
def eLI (x : List Int) : List AV := [slOf eI 1 x]
instance : EncOK eLI 1 := ⟨fun _ => rfl, fun _ => rfl, fun _ => rfl⟩
@[go_sem] theorem eLI_len (x : List Int) : (eLI x).length = 1 := (rfl)
@[go_sem] theorem eLI_ones (x : List Int) : ones (eLI x) = true := (rfl)
@[go_sem] theorem eLI_one (x : List Int) : (eLI x).all AV.one = true := (rfl)
@[go_sem] theorem eLI_all (q : Nat → Bool) (x : List Int) : allL q (eLI x) = true := (rfl)
@[go_sem] theorem eLI_g0 (x : List Int) : (eLI x).getD 0 .any = slOf eI 1 x := (rfl)
structure GToken where
  kind : Int
  text : ByteArray
  at_ : Int
  deriving Inhabited, DecidableEq
def eGToken (x : GToken) : List AV := [.raw (.int .i64 x.kind), .raw (.string x.text), .raw (.int .i64 x.at_)]
section
variable (x y : GToken)
@[go_sem] theorem eGToken_len : (eGToken x).length = 3 := (rfl)
@[go_sem] theorem eGToken_ones : (eGToken x).all AV.one = true := (rfl)
@[go_sem] theorem eGToken_onesE : ones (eGToken x) = true := (rfl)
@[go_sem] theorem eGToken_all (q : Nat → Bool) : allL q (eGToken x) = true := by simp [eGToken, allL, AV.all]
instance : EncOK eGToken 3 := ⟨fun _ => rfl, fun _ => rfl, fun x => eGToken_all x _⟩
@[go_sem] theorem eGToken_take : (eGToken x).take 3 = eGToken x := (rfl)
@[go_sem] theorem eGToken_g0 : (eGToken x).getD 0 .any = .raw (.int .i64 x.kind) := (rfl)
@[go_sem] theorem eGToken_s0 (v : Int) : splice (eGToken x) 0 [.raw (.int .i64 v)] = eGToken { x with kind := v } := (rfl)
@[go_sem] theorem eGToken_u0 (v : Int) : .raw (.int .i64 v) :: List.drop 1 (eGToken x) = eGToken { x with kind := v } := (rfl)
@[go_sem] theorem eGToken_g1 : (eGToken x).getD 1 .any = .raw (.string x.text) := (rfl)
@[go_sem] theorem eGToken_s1 (v : ByteArray) : splice (eGToken x) 1 [.raw (.string v)] = eGToken { x with text := v } := (rfl)
@[go_sem] theorem eGToken_u1 (v : ByteArray) : List.take 1 (eGToken x) ++ [.raw (.string v)] ++ List.drop 2 (eGToken x) = eGToken { x with text := v } := (rfl)
@[go_sem] theorem eGToken_g2 : (eGToken x).getD 2 .any = .raw (.int .i64 x.at_) := (rfl)
@[go_sem] theorem eGToken_s2 (v : Int) : splice (eGToken x) 2 [.raw (.int .i64 v)] = eGToken { x with at_ := v } := (rfl)
@[go_sem] theorem eGToken_u2 (v : Int) : List.take 2 (eGToken x) ++ [.raw (.int .i64 v)] ++ List.drop 3 (eGToken x) = eGToken { x with at_ := v } := (rfl)
@[go_sem] theorem eGToken_kinds : (eGToken x).map kindA = [some (.int .i64), some .str, some (.int .i64)] := (rfl)
@[go_sem] theorem eGToken_eq : eqL (eGToken x) (eGToken y) = decide (x = y) := by
  rw [Bool.eq_iff_iff]
  obtain ⟨a1, a2, a3⟩ := x; obtain ⟨b4, b5, b6⟩ := y
  simp [eGToken, eqL]
end
structure GNode where
  kind : Int
  line : Int
  n : Int
  name : ByteArray
  l : List Int
  deriving Inhabited, DecidableEq
def eGNode (x : GNode) : List AV := [.raw (.int .i64 x.kind), .raw (.int .i64 x.line), .raw (.int .i64 x.n), .raw (.string x.name), slOf eI 1 x.l]
section
variable (x y : GNode)
@[go_sem] theorem eGNode_len : (eGNode x).length = 5 := (rfl)
@[go_sem] theorem eGNode_ones : (eGNode x).all AV.one = true := (rfl)
@[go_sem] theorem eGNode_onesE : ones (eGNode x) = true := (rfl)
@[go_sem] theorem eGNode_all (q : Nat → Bool) : allL q (eGNode x) = true := by simp [eGNode, allL, AV.all]
instance : EncOK eGNode 5 := ⟨fun _ => rfl, fun _ => rfl, fun x => eGNode_all x _⟩
@[go_sem] theorem eGNode_take : (eGNode x).take 5 = eGNode x := (rfl)
@[go_sem] theorem eGNode_g0 : (eGNode x).getD 0 .any = .raw (.int .i64 x.kind) := (rfl)
@[go_sem] theorem eGNode_s0 (v : Int) : splice (eGNode x) 0 [.raw (.int .i64 v)] = eGNode { x with kind := v } := (rfl)
@[go_sem] theorem eGNode_u0 (v : Int) : .raw (.int .i64 v) :: List.drop 1 (eGNode x) = eGNode { x with kind := v } := (rfl)
@[go_sem] theorem eGNode_g1 : (eGNode x).getD 1 .any = .raw (.int .i64 x.line) := (rfl)
@[go_sem] theorem eGNode_s1 (v : Int) : splice (eGNode x) 1 [.raw (.int .i64 v)] = eGNode { x with line := v } := (rfl)
@[go_sem] theorem eGNode_u1 (v : Int) : List.take 1 (eGNode x) ++ [.raw (.int .i64 v)] ++ List.drop 2 (eGNode x) = eGNode { x with line := v } := (rfl)
@[go_sem] theorem eGNode_g2 : (eGNode x).getD 2 .any = .raw (.int .i64 x.n) := (rfl)
@[go_sem] theorem eGNode_s2 (v : Int) : splice (eGNode x) 2 [.raw (.int .i64 v)] = eGNode { x with n := v } := (rfl)
@[go_sem] theorem eGNode_u2 (v : Int) : List.take 2 (eGNode x) ++ [.raw (.int .i64 v)] ++ List.drop 3 (eGNode x) = eGNode { x with n := v } := (rfl)
@[go_sem] theorem eGNode_g3 : (eGNode x).getD 3 .any = .raw (.string x.name) := (rfl)
@[go_sem] theorem eGNode_s3 (v : ByteArray) : splice (eGNode x) 3 [.raw (.string v)] = eGNode { x with name := v } := (rfl)
@[go_sem] theorem eGNode_u3 (v : ByteArray) : List.take 3 (eGNode x) ++ [.raw (.string v)] ++ List.drop 4 (eGNode x) = eGNode { x with name := v } := (rfl)
@[go_sem] theorem eGNode_g4 : (eGNode x).getD 4 .any = slOf eI 1 x.l := (rfl)
@[go_sem] theorem eGNode_s4 (v : List Int) : splice (eGNode x) 4 [slOf eI 1 v] = eGNode { x with l := v } := (rfl)
end
structure GValue where
  ty : Int
  n : Int
  s : ByteArray
  deriving Inhabited, DecidableEq
def eGValue (x : GValue) : List AV := [.raw (.int .i64 x.ty), .raw (.int .i64 x.n), .raw (.string x.s)]
section
variable (x y : GValue)
@[go_sem] theorem eGValue_len : (eGValue x).length = 3 := (rfl)
@[go_sem] theorem eGValue_ones : (eGValue x).all AV.one = true := (rfl)
@[go_sem] theorem eGValue_onesE : ones (eGValue x) = true := (rfl)
@[go_sem] theorem eGValue_all (q : Nat → Bool) : allL q (eGValue x) = true := by simp [eGValue, allL, AV.all]
instance : EncOK eGValue 3 := ⟨fun _ => rfl, fun _ => rfl, fun x => eGValue_all x _⟩
@[go_sem] theorem eGValue_take : (eGValue x).take 3 = eGValue x := (rfl)
@[go_sem] theorem eGValue_g0 : (eGValue x).getD 0 .any = .raw (.int .i64 x.ty) := (rfl)
@[go_sem] theorem eGValue_s0 (v : Int) : splice (eGValue x) 0 [.raw (.int .i64 v)] = eGValue { x with ty := v } := (rfl)
@[go_sem] theorem eGValue_u0 (v : Int) : .raw (.int .i64 v) :: List.drop 1 (eGValue x) = eGValue { x with ty := v } := (rfl)
@[go_sem] theorem eGValue_g1 : (eGValue x).getD 1 .any = .raw (.int .i64 x.n) := (rfl)
@[go_sem] theorem eGValue_s1 (v : Int) : splice (eGValue x) 1 [.raw (.int .i64 v)] = eGValue { x with n := v } := (rfl)
@[go_sem] theorem eGValue_u1 (v : Int) : List.take 1 (eGValue x) ++ [.raw (.int .i64 v)] ++ List.drop 2 (eGValue x) = eGValue { x with n := v } := (rfl)
@[go_sem] theorem eGValue_g2 : (eGValue x).getD 2 .any = .raw (.string x.s) := (rfl)
@[go_sem] theorem eGValue_s2 (v : ByteArray) : splice (eGValue x) 2 [.raw (.string v)] = eGValue { x with s := v } := (rfl)
@[go_sem] theorem eGValue_u2 (v : ByteArray) : List.take 2 (eGValue x) ++ [.raw (.string v)] ++ List.drop 3 (eGValue x) = eGValue { x with s := v } := (rfl)
@[go_sem] theorem eGValue_kinds : (eGValue x).map kindA = [some (.int .i64), some (.int .i64), some .str] := (rfl)
@[go_sem] theorem eGValue_eq : eqL (eGValue x) (eGValue y) = decide (x = y) := by
  rw [Bool.eq_iff_iff]
  obtain ⟨a7, a8, a9⟩ := x; obtain ⟨b10, b11, b12⟩ := y
  simp [eGValue, eqL]
end
structure GParam where
  name : ByteArray
  ty : Int
  deriving Inhabited, DecidableEq
def eGParam (x : GParam) : List AV := [.raw (.string x.name), .raw (.int .i64 x.ty)]
section
variable (x y : GParam)
@[go_sem] theorem eGParam_len : (eGParam x).length = 2 := (rfl)
@[go_sem] theorem eGParam_ones : (eGParam x).all AV.one = true := (rfl)
@[go_sem] theorem eGParam_onesE : ones (eGParam x) = true := (rfl)
@[go_sem] theorem eGParam_all (q : Nat → Bool) : allL q (eGParam x) = true := by simp [eGParam, allL, AV.all]
instance : EncOK eGParam 2 := ⟨fun _ => rfl, fun _ => rfl, fun x => eGParam_all x _⟩
@[go_sem] theorem eGParam_take : (eGParam x).take 2 = eGParam x := (rfl)
@[go_sem] theorem eGParam_g0 : (eGParam x).getD 0 .any = .raw (.string x.name) := (rfl)
@[go_sem] theorem eGParam_s0 (v : ByteArray) : splice (eGParam x) 0 [.raw (.string v)] = eGParam { x with name := v } := (rfl)
@[go_sem] theorem eGParam_u0 (v : ByteArray) : .raw (.string v) :: List.drop 1 (eGParam x) = eGParam { x with name := v } := (rfl)
@[go_sem] theorem eGParam_g1 : (eGParam x).getD 1 .any = .raw (.int .i64 x.ty) := (rfl)
@[go_sem] theorem eGParam_s1 (v : Int) : splice (eGParam x) 1 [.raw (.int .i64 v)] = eGParam { x with ty := v } := (rfl)
@[go_sem] theorem eGParam_u1 (v : Int) : List.take 1 (eGParam x) ++ [.raw (.int .i64 v)] ++ List.drop 2 (eGParam x) = eGParam { x with ty := v } := (rfl)
@[go_sem] theorem eGParam_kinds : (eGParam x).map kindA = [some .str, some (.int .i64)] := (rfl)
@[go_sem] theorem eGParam_eq : eqL (eGParam x) (eGParam y) = decide (x = y) := by
  rw [Bool.eq_iff_iff]
  obtain ⟨a13, a14⟩ := x; obtain ⟨b15, b16⟩ := y
  simp [eGParam, eqL]
end
structure GFunc where
  name : ByteArray
  line : Int
  params : List GParam
  ret : Int
  body : Int
  deriving Inhabited, DecidableEq
def eGFunc (x : GFunc) : List AV := [.raw (.string x.name), .raw (.int .i64 x.line), slOf eGParam 2 x.params, .raw (.int .i64 x.ret), .raw (.int .i64 x.body)]
section
variable (x y : GFunc)
@[go_sem] theorem eGFunc_len : (eGFunc x).length = 5 := (rfl)
@[go_sem] theorem eGFunc_ones : (eGFunc x).all AV.one = true := (rfl)
@[go_sem] theorem eGFunc_onesE : ones (eGFunc x) = true := (rfl)
@[go_sem] theorem eGFunc_all (q : Nat → Bool) : allL q (eGFunc x) = true := by simp [eGFunc, allL, AV.all]
instance : EncOK eGFunc 5 := ⟨fun _ => rfl, fun _ => rfl, fun x => eGFunc_all x _⟩
@[go_sem] theorem eGFunc_take : (eGFunc x).take 5 = eGFunc x := (rfl)
@[go_sem] theorem eGFunc_g0 : (eGFunc x).getD 0 .any = .raw (.string x.name) := (rfl)
@[go_sem] theorem eGFunc_s0 (v : ByteArray) : splice (eGFunc x) 0 [.raw (.string v)] = eGFunc { x with name := v } := (rfl)
@[go_sem] theorem eGFunc_u0 (v : ByteArray) : .raw (.string v) :: List.drop 1 (eGFunc x) = eGFunc { x with name := v } := (rfl)
@[go_sem] theorem eGFunc_g1 : (eGFunc x).getD 1 .any = .raw (.int .i64 x.line) := (rfl)
@[go_sem] theorem eGFunc_s1 (v : Int) : splice (eGFunc x) 1 [.raw (.int .i64 v)] = eGFunc { x with line := v } := (rfl)
@[go_sem] theorem eGFunc_u1 (v : Int) : List.take 1 (eGFunc x) ++ [.raw (.int .i64 v)] ++ List.drop 2 (eGFunc x) = eGFunc { x with line := v } := (rfl)
@[go_sem] theorem eGFunc_g2 : (eGFunc x).getD 2 .any = slOf eGParam 2 x.params := (rfl)
@[go_sem] theorem eGFunc_s2 (v : List GParam) : splice (eGFunc x) 2 [slOf eGParam 2 v] = eGFunc { x with params := v } := (rfl)
@[go_sem] theorem eGFunc_g3 : (eGFunc x).getD 3 .any = .raw (.int .i64 x.ret) := (rfl)
@[go_sem] theorem eGFunc_s3 (v : Int) : splice (eGFunc x) 3 [.raw (.int .i64 v)] = eGFunc { x with ret := v } := (rfl)
@[go_sem] theorem eGFunc_u3 (v : Int) : List.take 3 (eGFunc x) ++ [.raw (.int .i64 v)] ++ List.drop 4 (eGFunc x) = eGFunc { x with ret := v } := (rfl)
@[go_sem] theorem eGFunc_g4 : (eGFunc x).getD 4 .any = .raw (.int .i64 x.body) := (rfl)
@[go_sem] theorem eGFunc_s4 (v : Int) : splice (eGFunc x) 4 [.raw (.int .i64 v)] = eGFunc { x with body := v } := (rfl)
@[go_sem] theorem eGFunc_u4 (v : Int) : List.take 4 (eGFunc x) ++ [.raw (.int .i64 v)] ++ List.drop 5 (eGFunc x) = eGFunc { x with body := v } := (rfl)
end
structure GTree where
  nodes : List GNode
  fns : List GFunc
  deriving Inhabited, DecidableEq
def eGTree (x : GTree) : List AV := [slOf eGNode 5 x.nodes, slOf eGFunc 5 x.fns]
section
variable (x y : GTree)
@[go_sem] theorem eGTree_len : (eGTree x).length = 2 := (rfl)
@[go_sem] theorem eGTree_ones : (eGTree x).all AV.one = true := (rfl)
@[go_sem] theorem eGTree_onesE : ones (eGTree x) = true := (rfl)
@[go_sem] theorem eGTree_all (q : Nat → Bool) : allL q (eGTree x) = true := by simp [eGTree, allL, AV.all]
instance : EncOK eGTree 2 := ⟨fun _ => rfl, fun _ => rfl, fun x => eGTree_all x _⟩
@[go_sem] theorem eGTree_take : (eGTree x).take 2 = eGTree x := (rfl)
@[go_sem] theorem eGTree_g0 : (eGTree x).getD 0 .any = slOf eGNode 5 x.nodes := (rfl)
@[go_sem] theorem eGTree_s0 (v : List GNode) : splice (eGTree x) 0 [slOf eGNode 5 v] = eGTree { x with nodes := v } := (rfl)
@[go_sem] theorem eGTree_g1 : (eGTree x).getD 1 .any = slOf eGFunc 5 x.fns := (rfl)
@[go_sem] theorem eGTree_s1 (v : List GFunc) : splice (eGTree x) 1 [slOf eGFunc 5 v] = eGTree { x with fns := v } := (rfl)
end
structure GVar where
  name : ByteArray
  ty : Int
  slot : Int
  deriving Inhabited, DecidableEq
def eGVar (x : GVar) : List AV := [.raw (.string x.name), .raw (.int .i64 x.ty), .raw (.int .i64 x.slot)]
section
variable (x y : GVar)
@[go_sem] theorem eGVar_len : (eGVar x).length = 3 := (rfl)
@[go_sem] theorem eGVar_ones : (eGVar x).all AV.one = true := (rfl)
@[go_sem] theorem eGVar_onesE : ones (eGVar x) = true := (rfl)
@[go_sem] theorem eGVar_all (q : Nat → Bool) : allL q (eGVar x) = true := by simp [eGVar, allL, AV.all]
instance : EncOK eGVar 3 := ⟨fun _ => rfl, fun _ => rfl, fun x => eGVar_all x _⟩
@[go_sem] theorem eGVar_take : (eGVar x).take 3 = eGVar x := (rfl)
@[go_sem] theorem eGVar_g0 : (eGVar x).getD 0 .any = .raw (.string x.name) := (rfl)
@[go_sem] theorem eGVar_s0 (v : ByteArray) : splice (eGVar x) 0 [.raw (.string v)] = eGVar { x with name := v } := (rfl)
@[go_sem] theorem eGVar_u0 (v : ByteArray) : .raw (.string v) :: List.drop 1 (eGVar x) = eGVar { x with name := v } := (rfl)
@[go_sem] theorem eGVar_g1 : (eGVar x).getD 1 .any = .raw (.int .i64 x.ty) := (rfl)
@[go_sem] theorem eGVar_s1 (v : Int) : splice (eGVar x) 1 [.raw (.int .i64 v)] = eGVar { x with ty := v } := (rfl)
@[go_sem] theorem eGVar_u1 (v : Int) : List.take 1 (eGVar x) ++ [.raw (.int .i64 v)] ++ List.drop 2 (eGVar x) = eGVar { x with ty := v } := (rfl)
@[go_sem] theorem eGVar_g2 : (eGVar x).getD 2 .any = .raw (.int .i64 x.slot) := (rfl)
@[go_sem] theorem eGVar_s2 (v : Int) : splice (eGVar x) 2 [.raw (.int .i64 v)] = eGVar { x with slot := v } := (rfl)
@[go_sem] theorem eGVar_u2 (v : Int) : List.take 2 (eGVar x) ++ [.raw (.int .i64 v)] ++ List.drop 3 (eGVar x) = eGVar { x with slot := v } := (rfl)
@[go_sem] theorem eGVar_kinds : (eGVar x).map kindA = [some .str, some (.int .i64), some (.int .i64)] := (rfl)
@[go_sem] theorem eGVar_eq : eqL (eGVar x) (eGVar y) = decide (x = y) := by
  rw [Bool.eq_iff_iff]
  obtain ⟨a17, a18, a19⟩ := x; obtain ⟨b20, b21, b22⟩ := y
  simp [eGVar, eqL]
end
structure GProg where
  tree : GTree
  types : List Int
  slots : List Int
  fn : List Int
  size : List Int
  deriving Inhabited, DecidableEq
def eGProg (x : GProg) : List AV := [slOf eGNode 5 x.tree.nodes, slOf eGFunc 5 x.tree.fns, slOf eI 1 x.types, slOf eI 1 x.slots, slOf eI 1 x.fn, slOf eI 1 x.size]
section
variable (x y : GProg)
@[go_sem] theorem eGProg_len : (eGProg x).length = 6 := (rfl)
@[go_sem] theorem eGProg_ones : (eGProg x).all AV.one = true := (rfl)
@[go_sem] theorem eGProg_onesE : ones (eGProg x) = true := (rfl)
@[go_sem] theorem eGProg_all (q : Nat → Bool) : allL q (eGProg x) = true := by simp [eGProg, allL, AV.all]
instance : EncOK eGProg 6 := ⟨fun _ => rfl, fun _ => rfl, fun x => eGProg_all x _⟩
@[go_sem] theorem eGProg_take : (eGProg x).take 6 = eGProg x := (rfl)
@[go_sem] theorem eGProg_g0 : (eGProg x).getD 0 .any = slOf eGNode 5 x.tree.nodes := (rfl)
@[go_sem] theorem eGProg_s0 (v : List GNode) : splice (eGProg x) 0 [slOf eGNode 5 v] = eGProg { x with tree.nodes := v } := (rfl)
@[go_sem] theorem eGProg_g1 : (eGProg x).getD 1 .any = slOf eGFunc 5 x.tree.fns := (rfl)
@[go_sem] theorem eGProg_s1 (v : List GFunc) : splice (eGProg x) 1 [slOf eGFunc 5 v] = eGProg { x with tree.fns := v } := (rfl)
@[go_sem] theorem eGProg_g2 : (eGProg x).getD 2 .any = slOf eI 1 x.types := (rfl)
@[go_sem] theorem eGProg_s2 (v : List Int) : splice (eGProg x) 2 [slOf eI 1 v] = eGProg { x with types := v } := (rfl)
@[go_sem] theorem eGProg_g3 : (eGProg x).getD 3 .any = slOf eI 1 x.slots := (rfl)
@[go_sem] theorem eGProg_s3 (v : List Int) : splice (eGProg x) 3 [slOf eI 1 v] = eGProg { x with slots := v } := (rfl)
@[go_sem] theorem eGProg_g4 : (eGProg x).getD 4 .any = slOf eI 1 x.fn := (rfl)
@[go_sem] theorem eGProg_s4 (v : List Int) : splice (eGProg x) 4 [slOf eI 1 v] = eGProg { x with fn := v } := (rfl)
@[go_sem] theorem eGProg_g5 : (eGProg x).getD 5 .any = slOf eI 1 x.size := (rfl)
@[go_sem] theorem eGProg_s5 (v : List Int) : splice (eGProg x) 5 [slOf eI 1 v] = eGProg { x with size := v } := (rfl)
@[go_sem] theorem eGProg_d0_2 : ((eGProg x).drop 0).take 2 = eGTree x.tree := (rfl)
@[go_sem] theorem eGProg_w0 (v : GTree) : splice (eGProg x) 0 (eGTree v) = eGProg { x with tree := v } := (rfl)
end
structure GMem where
  slots : List GValue
  heap : List (List Int)
  deriving Inhabited, DecidableEq
def eGMem (x : GMem) : List AV := [slOf eGValue 3 x.slots, slOf eLI 1 x.heap]
section
variable (x y : GMem)
@[go_sem] theorem eGMem_len : (eGMem x).length = 2 := (rfl)
@[go_sem] theorem eGMem_ones : (eGMem x).all AV.one = true := (rfl)
@[go_sem] theorem eGMem_onesE : ones (eGMem x) = true := (rfl)
@[go_sem] theorem eGMem_all (q : Nat → Bool) : allL q (eGMem x) = true := by simp [eGMem, allL, AV.all]
instance : EncOK eGMem 2 := ⟨fun _ => rfl, fun _ => rfl, fun x => eGMem_all x _⟩
@[go_sem] theorem eGMem_take : (eGMem x).take 2 = eGMem x := (rfl)
@[go_sem] theorem eGMem_g0 : (eGMem x).getD 0 .any = slOf eGValue 3 x.slots := (rfl)
@[go_sem] theorem eGMem_s0 (v : List GValue) : splice (eGMem x) 0 [slOf eGValue 3 v] = eGMem { x with slots := v } := (rfl)
@[go_sem] theorem eGMem_g1 : (eGMem x).getD 1 .any = slOf eLI 1 x.heap := (rfl)
@[go_sem] theorem eGMem_s1 (v : List (List Int)) : splice (eGMem x) 1 [slOf eLI 1 v] = eGMem { x with heap := v } := (rfl)
end
end Go.Gd
