/- The data of the program as Lean structures, and their cells. No conditions. -/
import Derived.Test.YtemapkbfpkdddaaFcL
set_option linter.all false
namespace Go.Fc
open Go
theorem fl_drop {sz : Nat} : ∀ {l : List (List AV)} {i : Nat}, (∀ x ∈ l, x.length = sz) → l.flatten.drop (i * sz) = (l.drop i).flatten
  | [], i, _ => by simp
  | x :: l, 0, _ => by simp
  | x :: l, i + 1, h => by
    have hx := h x (by simp)
    rw [List.flatten_cons, Nat.succ_mul, List.drop_append, List.drop_of_length_le (by omega), List.nil_append, List.drop_succ_cons, hx, Nat.add_sub_cancel]
    exact fl_drop fun y hy => h y (by simp [hy])
structure GOp where
  kind : Int
  at_ : Int
  x : Int
  deriving Inhabited, DecidableEq
def eGOp (x : GOp) : List AV := [.raw (.int .u8 x.kind), .raw (.int .i64 x.at_), .raw (.int .i64 x.x)]
section
variable (x y : GOp)
@[go_sem] theorem eGOp_len : (eGOp x).length = 3 := (rfl)
@[go_sem] theorem eGOp_ones : (eGOp x).all AV.one = true := (rfl)
theorem eGOp_ok : (eGOp x).length = 3 ∧ ones (eGOp x) = true := ⟨rfl, rfl⟩
@[go_sem] theorem eGOp_take : (eGOp x).take 3 = eGOp x := (rfl)
@[go_sem] theorem eGOp_g0 : (eGOp x).getD 0 .any = .raw (.int .u8 x.kind) := (rfl)
@[go_sem] theorem eGOp_s0 (v : Int) : splice (eGOp x) 0 [.raw (.int .u8 v)] = eGOp { x with kind := v } := (rfl)
@[go_sem] theorem eGOp_g1 : (eGOp x).getD 1 .any = .raw (.int .i64 x.at_) := (rfl)
@[go_sem] theorem eGOp_s1 (v : Int) : splice (eGOp x) 1 [.raw (.int .i64 v)] = eGOp { x with at_ := v } := (rfl)
@[go_sem] theorem eGOp_g2 : (eGOp x).getD 2 .any = .raw (.int .i64 x.x) := (rfl)
@[go_sem] theorem eGOp_s2 (v : Int) : splice (eGOp x) 2 [.raw (.int .i64 v)] = eGOp { x with x := v } := (rfl)
theorem eGOp_lens2 (M : List GOp) : ∀ y ∈ M.map eGOp, y.length = 3 ∧ ones y = true := fun y hy => by obtain ⟨x, _, rfl⟩ := List.mem_map.1 hy; exact eGOp_ok x
@[go_sem] theorem eGOp_flat2 (M : List GOp) : (List.map eGOp M).flatten.length = M.length * 3 := by rw [flatten_len fun y hy => (eGOp_lens2 M y hy).1]; simp
@[go_sem] theorem eGOp_row2 {M : List GOp} {j : Nat} (h : j < M.length) : List.take 3 (List.drop (j * 3) (List.map eGOp M).flatten) = eGOp (nth M j) := by
  rw [fl_drop (fun y hy => (eGOp_lens2 M y hy).1), ← List.map_drop, List.drop_eq_getElem_cons h, List.map_cons, List.flatten_cons, List.take_append_of_le_length (Nat.le_of_eq (eGOp_ok _).1.symm), List.take_of_length_le (Nat.le_of_eq (eGOp_ok _).1)]
  simp [nth, h]
@[go_sem] theorem eGOp_kinds : (eGOp x).map kindA = [some (.int .u8), some (.int .i64), some (.int .i64)] := (rfl)
@[go_sem] theorem eGOp_eq : eqL (eGOp x) (eGOp y) = decide (x = y) := by
  rw [Bool.eq_iff_iff]
  obtain ⟨a1, a2, a3⟩ := x; obtain ⟨b4, b5, b6⟩ := y
  simp [eGOp, eqL]
end
structure GRKeep where
  most : Int
  at_ : List Int
  x : List Int
  deriving Inhabited, DecidableEq
def eGRKeep (x : GRKeep) : List AV := [.raw (.int .i64 x.most), slOf (fun x : Int => [.raw (.int .i64 x)]) 1 x.at_, slOf (fun x : Int => [.raw (.int .i64 x)]) 1 x.x]
section
variable (x y : GRKeep)
@[go_sem] theorem eGRKeep_len : (eGRKeep x).length = 3 := (rfl)
@[go_sem] theorem eGRKeep_ones : (eGRKeep x).all AV.one = true := (rfl)
theorem eGRKeep_ok : (eGRKeep x).length = 3 ∧ ones (eGRKeep x) = true := ⟨rfl, rfl⟩
@[go_sem] theorem eGRKeep_take : (eGRKeep x).take 3 = eGRKeep x := (rfl)
@[go_sem] theorem eGRKeep_g0 : (eGRKeep x).getD 0 .any = .raw (.int .i64 x.most) := (rfl)
@[go_sem] theorem eGRKeep_s0 (v : Int) : splice (eGRKeep x) 0 [.raw (.int .i64 v)] = eGRKeep { x with most := v } := (rfl)
@[go_sem] theorem eGRKeep_g1 : (eGRKeep x).getD 1 .any = slOf (fun x : Int => [.raw (.int .i64 x)]) 1 x.at_ := (rfl)
@[go_sem] theorem eGRKeep_s1 (v : List Int) : splice (eGRKeep x) 1 [slOf (fun x : Int => [.raw (.int .i64 x)]) 1 v] = eGRKeep { x with at_ := v } := (rfl)
@[go_sem] theorem eGRKeep_g2 : (eGRKeep x).getD 2 .any = slOf (fun x : Int => [.raw (.int .i64 x)]) 1 x.x := (rfl)
@[go_sem] theorem eGRKeep_s2 (v : List Int) : splice (eGRKeep x) 2 [slOf (fun x : Int => [.raw (.int .i64 x)]) 1 v] = eGRKeep { x with x := v } := (rfl)
theorem eGRKeep_lens2 (M : List GRKeep) : ∀ y ∈ M.map eGRKeep, y.length = 3 ∧ ones y = true := fun y hy => by obtain ⟨x, _, rfl⟩ := List.mem_map.1 hy; exact eGRKeep_ok x
@[go_sem] theorem eGRKeep_flat2 (M : List GRKeep) : (List.map eGRKeep M).flatten.length = M.length * 3 := by rw [flatten_len fun y hy => (eGRKeep_lens2 M y hy).1]; simp
@[go_sem] theorem eGRKeep_row2 {M : List GRKeep} {j : Nat} (h : j < M.length) : List.take 3 (List.drop (j * 3) (List.map eGRKeep M).flatten) = eGRKeep (nth M j) := by
  rw [fl_drop (fun y hy => (eGRKeep_lens2 M y hy).1), ← List.map_drop, List.drop_eq_getElem_cons h, List.map_cons, List.flatten_cons, List.take_append_of_le_length (Nat.le_of_eq (eGRKeep_ok _).1.symm), List.take_of_length_le (Nat.le_of_eq (eGRKeep_ok _).1)]
  simp [nth, h]
end
structure GThingI where
  at_ : Int
  it : Int
  deriving Inhabited, DecidableEq
def eGThingI (x : GThingI) : List AV := [.raw (.int .i64 x.at_), .raw (.int .i64 x.it)]
section
variable (x y : GThingI)
@[go_sem] theorem eGThingI_len : (eGThingI x).length = 2 := (rfl)
@[go_sem] theorem eGThingI_ones : (eGThingI x).all AV.one = true := (rfl)
theorem eGThingI_ok : (eGThingI x).length = 2 ∧ ones (eGThingI x) = true := ⟨rfl, rfl⟩
@[go_sem] theorem eGThingI_take : (eGThingI x).take 2 = eGThingI x := (rfl)
@[go_sem] theorem eGThingI_g0 : (eGThingI x).getD 0 .any = .raw (.int .i64 x.at_) := (rfl)
@[go_sem] theorem eGThingI_s0 (v : Int) : splice (eGThingI x) 0 [.raw (.int .i64 v)] = eGThingI { x with at_ := v } := (rfl)
@[go_sem] theorem eGThingI_g1 : (eGThingI x).getD 1 .any = .raw (.int .i64 x.it) := (rfl)
@[go_sem] theorem eGThingI_s1 (v : Int) : splice (eGThingI x) 1 [.raw (.int .i64 v)] = eGThingI { x with it := v } := (rfl)
theorem eGThingI_lens2 (M : List GThingI) : ∀ y ∈ M.map eGThingI, y.length = 2 ∧ ones y = true := fun y hy => by obtain ⟨x, _, rfl⟩ := List.mem_map.1 hy; exact eGThingI_ok x
@[go_sem] theorem eGThingI_flat2 (M : List GThingI) : (List.map eGThingI M).flatten.length = M.length * 2 := by rw [flatten_len fun y hy => (eGThingI_lens2 M y hy).1]; simp
@[go_sem] theorem eGThingI_row2 {M : List GThingI} {j : Nat} (h : j < M.length) : List.take 2 (List.drop (j * 2) (List.map eGThingI M).flatten) = eGThingI (nth M j) := by
  rw [fl_drop (fun y hy => (eGThingI_lens2 M y hy).1), ← List.map_drop, List.drop_eq_getElem_cons h, List.map_cons, List.flatten_cons, List.take_append_of_le_length (Nat.le_of_eq (eGThingI_ok _).1.symm), List.take_of_length_le (Nat.le_of_eq (eGThingI_ok _).1)]
  simp [nth, h]
@[go_sem] theorem eGThingI_kinds : (eGThingI x).map kindA = [some (.int .i64), some (.int .i64)] := (rfl)
@[go_sem] theorem eGThingI_eq : eqL (eGThingI x) (eGThingI y) = decide (x = y) := by
  rw [Bool.eq_iff_iff]
  obtain ⟨a7, a8⟩ := x; obtain ⟨b9, b10⟩ := y
  simp [eGThingI, eqL]
end
structure GThingS where
  at_ : Int
  it : ByteArray
  deriving Inhabited, DecidableEq
def eGThingS (x : GThingS) : List AV := [.raw (.int .i64 x.at_), .raw (.string x.it)]
section
variable (x y : GThingS)
@[go_sem] theorem eGThingS_len : (eGThingS x).length = 2 := (rfl)
@[go_sem] theorem eGThingS_ones : (eGThingS x).all AV.one = true := (rfl)
theorem eGThingS_ok : (eGThingS x).length = 2 ∧ ones (eGThingS x) = true := ⟨rfl, rfl⟩
@[go_sem] theorem eGThingS_take : (eGThingS x).take 2 = eGThingS x := (rfl)
@[go_sem] theorem eGThingS_g0 : (eGThingS x).getD 0 .any = .raw (.int .i64 x.at_) := (rfl)
@[go_sem] theorem eGThingS_s0 (v : Int) : splice (eGThingS x) 0 [.raw (.int .i64 v)] = eGThingS { x with at_ := v } := (rfl)
@[go_sem] theorem eGThingS_g1 : (eGThingS x).getD 1 .any = .raw (.string x.it) := (rfl)
@[go_sem] theorem eGThingS_s1 (v : ByteArray) : splice (eGThingS x) 1 [.raw (.string v)] = eGThingS { x with it := v } := (rfl)
theorem eGThingS_lens2 (M : List GThingS) : ∀ y ∈ M.map eGThingS, y.length = 2 ∧ ones y = true := fun y hy => by obtain ⟨x, _, rfl⟩ := List.mem_map.1 hy; exact eGThingS_ok x
@[go_sem] theorem eGThingS_flat2 (M : List GThingS) : (List.map eGThingS M).flatten.length = M.length * 2 := by rw [flatten_len fun y hy => (eGThingS_lens2 M y hy).1]; simp
@[go_sem] theorem eGThingS_row2 {M : List GThingS} {j : Nat} (h : j < M.length) : List.take 2 (List.drop (j * 2) (List.map eGThingS M).flatten) = eGThingS (nth M j) := by
  rw [fl_drop (fun y hy => (eGThingS_lens2 M y hy).1), ← List.map_drop, List.drop_eq_getElem_cons h, List.map_cons, List.flatten_cons, List.take_append_of_le_length (Nat.le_of_eq (eGThingS_ok _).1.symm), List.take_of_length_le (Nat.le_of_eq (eGThingS_ok _).1)]
  simp [nth, h]
@[go_sem] theorem eGThingS_kinds : (eGThingS x).map kindA = [some (.int .i64), some .str] := (rfl)
@[go_sem] theorem eGThingS_eq : eqL (eGThingS x) (eGThingS y) = decide (x = y) := by
  rw [Bool.eq_iff_iff]
  obtain ⟨a11, a12⟩ := x; obtain ⟨b13, b14⟩ := y
  simp [eGThingS, eqL]
end
end Go.Fc
