/- Lists of Lean data as slices; small rules for the walks. A region that leaves its order open, all of whose operations only read, reckon, or call what changes nothing: whatever the order, it comes to what the. No conditions. -/
import Derived.Test.YtflopjbjlbkgnaaDoorGdJ
import Derived.Orders
set_option linter.all false
namespace Go.Gd
open Go

def nth {α : Type} [Inhabited α] (l : List α) (i : Nat) : α := l.getD i default
theorem nth_get {α : Type} [Inhabited α] {l : List α} {i : Nat} (h : i < l.length) : nth l i = l[i] := by simp [nth, h]
theorem take_nth {α : Type} [Inhabited α] {l : List α} {i : Nat} (h : i < l.length) : l.take (i + 1) = l.take i ++ [nth l i] := by rw [nth_get h, List.take_succ_eq_append_getElem h]
theorem nth_map {α β : Type} [Inhabited α] [Inhabited β] (f : α → β) {l : List α} {i : Nat} (h : i < l.length) : nth (l.map f) i = f (nth l i) := by rw [nth_get h, nth_get (by simpa using h)]; simp

/-- A slice that reads as the list l, each element's cells by 'enc'. -/
@[reducible] def slOf {α : Type} [Inhabited α] (enc : α → List AV) (sz : Nat) (l : List α) : AV := .sl false sz (l.map enc) (enc default)
@[go_sem] theorem athen_normal (next : List AV → Hp → Prop) (Q : Exit → List AV → Hp → Prop) (F : List AV) (H : Hp) : AThen next Q .normal F H = next F H := (rfl)
@[go_sem] theorem athen_ret (next : List AV → Hp → Prop) (Q : Exit → List AV → Hp → Prop) (F : List AV) (H : Hp) : AThen next Q .ret F H = Q .ret F H := (rfl)
@[go_sem] theorem athen_exit (next : List AV → Hp → Prop) (Q : Exit → List AV → Hp → Prop) (id : Nat) (F : List AV) (H : Hp) : AThen next Q (.exit id) F H = Q (.exit id) F H := (rfl)
@[go_sem] theorem ablock_normal (id : Nat) (Q : Exit → List AV → Hp → Prop) (F : List AV) (H : Hp) : ABlock id Q .normal F H = Q .normal F H := (rfl)
@[go_sem] theorem ablock_ret (id : Nat) (Q : Exit → List AV → Hp → Prop) (F : List AV) (H : Hp) : ABlock id Q .ret F H = Q .ret F H := (rfl)
@[go_sem] theorem ablock_exit (id : Nat) (Q : Exit → List AV → Hp → Prop) (F : List AV) (H : Hp) : ABlock id Q (.exit id) F H = Q .normal F H := by simp [ABlock]
theorem ablock_other {id id' : Nat} (Q : Exit → List AV → Hp → Prop) (F : List AV) (H : Hp) (h : id' ≠ id) : ABlock id Q (.exit id') F H = Q (.exit id') F H := by simp [ABlock, h]

def AP (K : AV → Hp → Prop) (_ : Dep K) : AV → Hp → Prop := K
def AP1 (K : AV → Prop) (_ : Dep K) : AV → Prop := K
@[go_sem] theorem ap_apply (K : AV → Hp → Prop) (d : Dep K) (r : AV) (H : Hp) : AP K d r H = K r H := (rfl)
@[go_sem] theorem ap1_apply (K : AV → Prop) (d : Dep K) (r : AV) : AP1 K d r = K r := (rfl)
theorem ap_intro {K : AV → Hp → Prop} {d : Dep K} {r : AV} {H : Hp} (h : K r H) : AP K d r H := h
def vGuard (o : Option Bool) (A : Bool → Prop) (_ : Dep A) : Prop := match o with
  | some b => A b
  | none => False
@[go_sem] theorem vGuard_some (b : Bool) (A : Bool → Prop) (d : Dep A) : vGuard (some b) A d = A b := (rfl)
def vIf (q : Bool) (A B : Prop) (_ : Dep A) (_ : Dep B) : Prop := if q = true then A else B
@[go_sem] theorem vIf_true (A B : Prop) (d : Dep A) (e : Dep B) : vIf true A B d e = A := (rfl)
@[go_sem] theorem vIf_false (A B : Prop) (d : Dep A) (e : Dep B) : vIf false A B d e = B := (rfl)
@[go_sem] theorem vcl_nil {P : Program} {ops : Array Oper} {K : List AV → Hp → Prop} (F : List AV) (H : Hp) : vcl P ops K [] F H = K F H := (rfl)
@[go_sem] theorem vcl_cons {P : Program} {ops : Array Oper} {K : List AV → Hp → Prop} (dst : Option Tmp) (op : Op) (ty : TypeId) (pos : String) (after : Array Edge) (rest : List Oper) (F : List AV) (H : Hp) :
    vcl P ops K (⟨dst, op, ty, pos, after, none⟩ :: rest) F H = vc P (evA F) H ty (AP (fun r H' => vcl P ops K rest (putA F dst r) H') .mk) op := (rfl)
@[go_sem] theorem vcl_guard {P : Program} {ops : Array Oper} {K : List AV → Hp → Prop} (dst : Option Tmp) (op : Op) (ty : TypeId) (pos : String) (after : Array Edge) (j : Nat) (want : Bool) (rest : List Oper) (F : List AV) (H : Hp) :
    vcl P ops K (⟨dst, op, ty, pos, after, some (j, want)⟩ :: rest) F H = vGuard (guardB ops F j want) (fun b => vIf (isCallV op || guardQuiet op) (vcG P F H b (AP1 (fun r => vcl P ops K rest (putA F dst r) H) .mk) op)
        ((b = true → vc P (evA F) H ty (AP (fun r H' => vcl P ops K rest (putA F dst r) H') .mk) op) ∧ (b = false → vcl P ops K rest (putA F dst .any) H)) .mk .mk) .mk := by
  unfold vGuard vIf
  rfl

@[go_sem] theorem toNat_add0 (a b : Nat) : ((a : Int) + (b : Int)).toNat = a + b := by omega
@[go_sem] theorem toNat_add1 (a : Nat) : ((a : Int) + 1).toNat = a + 1 := by omega
@[go_sem] theorem toNat_sub0 (a b : Nat) : ((a : Int) - (b : Int)).toNat = a - b := by omega
@[go_sem] theorem toNat_sub1 (a : Nat) : ((a : Int) - 1).toNat = a - 1 := by omega
@[go_sem] theorem toNat_add1sub (a b : Nat) : ((a : Int) + 1 - (b : Int)).toNat = a + 1 - b := by omega
@[go_sem] theorem cast_one_ : ((1 : Nat) : Int) = 1 := (rfl)
@[go_sem] theorem cast_zero_ : ((0 : Nat) : Int) = 0 := (rfl)
attribute [go_sem] Int.cast_ofNat_Int
def wrap64 (n : Int) : Int := IntKind.i64.wrap n
theorem wrap_in {n : Int} (h : -9223372036854775808 ≤ n ∧ n ≤ 9223372036854775807) : IntKind.i64.wrap n = n := by
  have h1 : (2 : Int) ^ 64 = 18446744073709551616 := by decide
  have h2 : (2 : Int) ^ (64 - 1) = 9223372036854775808 := by decide
  simp only [IntKind.wrap, IntKind.bits, IntKind.signed, Bool.true_and, h1, h2, decide_eq_true_eq]
  split <;> omega

theorem pcall_enter {P : Program} {f : FuncId} {fn : Func} {c : Code} {args : List AV} {r : AV} (hf : P.funcs[f]? = some fn) (hb : fn.body = some c) {F : List AV} (hF : args ++ List.replicate (fn.ntmps - args.length) .any = F)
    (h : AWP P c (ARet P fn fun r' l' => r' = r ∧ l' = []) F ⟨[], []⟩) : PCall P f args r := acalls_of hf hb (by rw [hF]; exact h)
theorem acalls_enter {P : Program} {f : FuncId} {fn : Func} {c : Code} {args : List AV} {l : List (Nat × Row)} {R : AV → List (Nat × Row) → Prop} (hf : P.funcs[f]? = some fn) (hb : fn.body = some c) {F : List AV} (hF : args ++ List.replicate (fn.ntmps - args.length) .any = F) {L : List Nat} (hL : ids l = L)
    (h : AWP P c (ARet P fn R) F ⟨L, l⟩) : ACalls P f args l R := acalls_of hf hb (by rw [hF]; subst hL; exact h)
section
variable {P : Program} {ev : Operand → AV} {H : Hp} {ty : TypeId} {K : AV → Hp → Prop}
@[go_sem] theorem vc_move (x : Operand) : vc P ev H ty K (.move x) = K (ev x) H := by simp [vc, quietOp, vq]
@[go_sem] theorem vc_assign (x : Operand) : vc P ev H ty K (.assign x) = K (ev x) H := by simp [vc, quietOp, vq]
@[go_sem] theorem vc_pick (c a b : Operand) : vc P ev H ty K (.pick c a b) = ((qPick (ev c) (ev a) (ev b)).1 ∧ K (qPick (ev c) (ev a) (ev b)).2 H) := by simp [vc, quietOp, vq]
@[go_sem] theorem vc_nilCheck (x : Operand) : vc P ev H ty K (.nilCheck x) = ((qNil (ev x)).1 ∧ K (qNil (ev x)).2 H) := by simp [vc, quietOp, vq]
@[go_sem] theorem vc_unOp (op : UnOp) (t : TypeId) (x : Operand) : vc P ev H ty K (.unOp op t x) = ((qUn op (ev x)).1 ∧ K (qUn op (ev x)).2 H) := by simp [vc, quietOp, vq]
@[go_sem] theorem vc_load (t : TypeId) (x : Operand) : vc P ev H ty K (.load t x) = ((qLoad P H t (ev x)).1 ∧ K (qLoad P H t (ev x)).2 H) := by simp [vc, quietOp, vq]
@[go_sem] theorem vc_fieldAddr (t : TypeId) (x : Operand) (f : Nat) : vc P ev H ty K (.fieldAddr t x f) = ((qFieldAddr P t (ev x) f).1 ∧ K (qFieldAddr P t (ev x) f).2 H) := by simp [vc, quietOp, vq]
@[go_sem] theorem vc_field (t : TypeId) (x : Operand) (f : Nat) : vc P ev H ty K (.field t x f) = ((qField P t (ev x) f).1 ∧ K (qField P t (ev x) f).2 H) := by simp [vc, quietOp, vq]
@[go_sem] theorem vc_indexAddr (t : TypeId) (x i : Operand) : vc P ev H ty K (.indexAddr t x i) = ((qIndexAddr P t (ev x) (ev i)).1 ∧ K (qIndexAddr P t (ev x) (ev i)).2 H) := by simp [vc, quietOp, vq]
@[go_sem] theorem vc_index (t : TypeId) (x i : Operand) : vc P ev H ty K (.index t x i) = ((qIndex P t (ev x) (ev i)).1 ∧ K (qIndex P t (ev x) (ev i)).2 H) := by simp [vc, quietOp, vq]
@[go_sem] theorem vc_extract (x : Operand) (i : Nat) : vc P ev H ty K (.extract x i) = ((qExtract (ev x) i).1 ∧ K (qExtract (ev x) i).2 H) := by simp [vc, quietOp, vq]
@[go_sem] theorem vc_slice (t : TypeId) (a : Operand) (lo hi mx : Option Operand) : vc P ev H ty K (.slice t a lo hi mx) = ((qSlice P t (ev a) (lo.map ev) (hi.map ev) (mx.map ev)).1 ∧ K (qSlice P t (ev a) (lo.map ev) (hi.map ev) (mx.map ev)).2 H) := by simp [vc, quietOp, vq]
@[go_sem] theorem vc_makeFunc (fn : Fn) (a b : Array Operand) : vc P ev H ty K (.makeFunc fn a b) = ((qFunc fn (a.toList.map ev) (b.toList.map ev)).1 ∧ K (qFunc fn (a.toList.map ev) (b.toList.map ev)).2 H) := by simp [vc, quietOp, vq]
@[go_sem] theorem vc_makeIface (t : TypeId) (x : Operand) : vc P ev H ty K (.makeInterface t x) = ((qIface P t (ev x)).1 ∧ K (qIface P t (ev x)).2 H) := by simp [vc, quietOp, vq]
@[go_sem] theorem vc_convert (s d : TypeId) (x : Operand) : vc P ev H ty K (.convert s d x) = ((qConv P s d (ev x)).1 ∧ K (qConv P s d (ev x)).2 H) := by simp [vc, quietOp, vq]
@[go_sem] theorem vc_build (t : TypeId) (ps : Array (Nat × Operand)) : vc P ev H ty K (.build t ps) = ((qBuild P t (ps.toList.map fun p => (p.1, ev p.2))).1 ∧ K (qBuild P t (ps.toList.map fun p => (p.1, ev p.2))).2 H) := by simp [vc, quietOp, vq]
@[go_sem] theorem vc_len (as : Array Operand) (ts : Array TypeId) : vc P ev H ty K (.call ⟨.builtin .len, as, ts⟩) = ((qBuiltin P H .len ts.toList (as.toList.map ev)).1 ∧ K (qBuiltin P H .len ts.toList (as.toList.map ev)).2 H) := by simp [vc, quietOp, vq]
@[go_sem] theorem vc_cap (as : Array Operand) (ts : Array TypeId) : vc P ev H ty K (.call ⟨.builtin .cap, as, ts⟩) = ((qBuiltin P H .cap ts.toList (as.toList.map ev)).1 ∧ K (qBuiltin P H .cap ts.toList (as.toList.map ev)).2 H) := by simp [vc, quietOp, vq]
@[go_sem] theorem vc_max (as : Array Operand) (ts : Array TypeId) : vc P ev H ty K (.call ⟨.builtin .max, as, ts⟩) = ((qBuiltin P H .max ts.toList (as.toList.map ev)).1 ∧ K (qBuiltin P H .max ts.toList (as.toList.map ev)).2 H) := by simp [vc, quietOp, vq]
@[go_sem] theorem vc_min (as : Array Operand) (ts : Array TypeId) : vc P ev H ty K (.call ⟨.builtin .min, as, ts⟩) = ((qBuiltin P H .min ts.toList (as.toList.map ev)).1 ∧ K (qBuiltin P H .min ts.toList (as.toList.map ev)).2 H) := by simp [vc, quietOp, vq]
@[go_sem] theorem vc_add (t : TypeId) (x y : Operand) (t' : TypeId) : vc P ev H ty K (.binOp .add t x y t') = ((qBin P .add t (ev x) (ev y)).1 ∧ K (qBin P .add t (ev x) (ev y)).2 H) := by simp [vc, quietOp, vq]
@[go_sem] theorem vc_sub (t : TypeId) (x y : Operand) (t' : TypeId) : vc P ev H ty K (.binOp .sub t x y t') = ((qBin P .sub t (ev x) (ev y)).1 ∧ K (qBin P .sub t (ev x) (ev y)).2 H) := by simp [vc, quietOp, vq]
@[go_sem] theorem vc_mul (t : TypeId) (x y : Operand) (t' : TypeId) : vc P ev H ty K (.binOp .mul t x y t') = ((qBin P .mul t (ev x) (ev y)).1 ∧ K (qBin P .mul t (ev x) (ev y)).2 H) := by simp [vc, quietOp, vq]
@[go_sem] theorem vc_quo (t : TypeId) (x y : Operand) (t' : TypeId) : vc P ev H ty K (.binOp .quo t x y t') = ((qBin P .quo t (ev x) (ev y)).1 ∧ K (qBin P .quo t (ev x) (ev y)).2 H) := by simp [vc, quietOp, vq]
@[go_sem] theorem vc_rem (t : TypeId) (x y : Operand) (t' : TypeId) : vc P ev H ty K (.binOp .rem t x y t') = ((qBin P .rem t (ev x) (ev y)).1 ∧ K (qBin P .rem t (ev x) (ev y)).2 H) := by simp [vc, quietOp, vq]
@[go_sem] theorem vc_and (t : TypeId) (x y : Operand) (t' : TypeId) : vc P ev H ty K (.binOp .and t x y t') = ((qBin P .and t (ev x) (ev y)).1 ∧ K (qBin P .and t (ev x) (ev y)).2 H) := by simp [vc, quietOp, vq]
@[go_sem] theorem vc_or (t : TypeId) (x y : Operand) (t' : TypeId) : vc P ev H ty K (.binOp .or t x y t') = ((qBin P .or t (ev x) (ev y)).1 ∧ K (qBin P .or t (ev x) (ev y)).2 H) := by simp [vc, quietOp, vq]
@[go_sem] theorem vc_xor (t : TypeId) (x y : Operand) (t' : TypeId) : vc P ev H ty K (.binOp .xor t x y t') = ((qBin P .xor t (ev x) (ev y)).1 ∧ K (qBin P .xor t (ev x) (ev y)).2 H) := by simp [vc, quietOp, vq]
@[go_sem] theorem vc_andNot (t : TypeId) (x y : Operand) (t' : TypeId) : vc P ev H ty K (.binOp .andNot t x y t') = ((qBin P .andNot t (ev x) (ev y)).1 ∧ K (qBin P .andNot t (ev x) (ev y)).2 H) := by simp [vc, quietOp, vq]
@[go_sem] theorem vc_shl (t : TypeId) (x y : Operand) (t' : TypeId) : vc P ev H ty K (.binOp .shl t x y t') = ((qBin P .shl t (ev x) (ev y)).1 ∧ K (qBin P .shl t (ev x) (ev y)).2 H) := by simp [vc, quietOp, vq]
@[go_sem] theorem vc_shr (t : TypeId) (x y : Operand) (t' : TypeId) : vc P ev H ty K (.binOp .shr t x y t') = ((qBin P .shr t (ev x) (ev y)).1 ∧ K (qBin P .shr t (ev x) (ev y)).2 H) := by simp [vc, quietOp, vq]
@[go_sem] theorem vc_lss (t : TypeId) (x y : Operand) (t' : TypeId) : vc P ev H ty K (.binOp .lss t x y t') = ((qBin P .lss t (ev x) (ev y)).1 ∧ K (qBin P .lss t (ev x) (ev y)).2 H) := by simp [vc, quietOp, vq]
@[go_sem] theorem vc_leq (t : TypeId) (x y : Operand) (t' : TypeId) : vc P ev H ty K (.binOp .leq t x y t') = ((qBin P .leq t (ev x) (ev y)).1 ∧ K (qBin P .leq t (ev x) (ev y)).2 H) := by simp [vc, quietOp, vq]
@[go_sem] theorem vc_gtr (t : TypeId) (x y : Operand) (t' : TypeId) : vc P ev H ty K (.binOp .gtr t x y t') = ((qBin P .gtr t (ev x) (ev y)).1 ∧ K (qBin P .gtr t (ev x) (ev y)).2 H) := by simp [vc, quietOp, vq]
@[go_sem] theorem vc_geq (t : TypeId) (x y : Operand) (t' : TypeId) : vc P ev H ty K (.binOp .geq t x y t') = ((qBin P .geq t (ev x) (ev y)).1 ∧ K (qBin P .geq t (ev x) (ev y)).2 H) := by simp [vc, quietOp, vq]
@[go_sem] theorem vc_eql (t : TypeId) (x y : Operand) (t' : TypeId) : vc P ev H ty K (.binOp .eql t x y t') = vNilEq P false t (ev x) (ev y) H K := (rfl)
@[go_sem] theorem vc_neq (t : TypeId) (x y : Operand) (t' : TypeId) : vc P ev H ty K (.binOp .neq t x y t') = vNilEq P true t (ev x) (ev y) H K := (rfl)
@[go_sem] theorem vc_box (t : TypeId) (x : Operand) : vc P ev H ty K (.box t x) = vBox H t (ev x) K := (rfl)
@[go_sem] theorem vc_alloc (t : TypeId) : vc P ev H ty K (.alloc t) = vAlloc P H t K := (rfl)
@[go_sem] theorem vc_store (t : TypeId) (a x : Operand) : vc P ev H ty K (.store t a x) = vStore P H t (ev a) (ev x) K := (rfl)
@[go_sem] theorem vc_buildSlice (t : TypeId) (n : Nat) (ps : Array (Nat × Operand)) : vc P ev H ty K (.buildSlice t n ps) = vLit P H t n (ps.toList.map fun p => (p.1, ev p.2)) K := (rfl)
@[go_sem] theorem vc_call (f : Operand) (as : Array Operand) (ts : Array TypeId) : vc P ev H ty K (.call ⟨.value f, as, ts⟩) = vCall P (ev f) (as.toList.map ev) H K := (rfl)
@[go_sem] theorem vc_append (t : TypeId) (a x : Operand) : vc P ev H ty K (.call ⟨.builtin .append, #[a, x], #[t, t]⟩) = AppendTo P t t (ev a) (ev x) H K := by simp [vc]
@[go_sem] theorem vc_appendTo (t t' : TypeId) (a x : Operand) : vc P ev H ty K (.call ⟨.builtin .append, #[a, x], #[t, t']⟩) = AppendTo P t t' (ev a) (ev x) H K := by simp [vc]
@[go_sem] theorem vc_copy (as : Array Operand) (ts : Array TypeId) : vc P ev H ty K (.call ⟨.builtin .copy, as, ts⟩) = BuiltinVC P .copy ts.toList (as.toList.map ev) H K := by simp [vc, quietOp]
@[go_sem] theorem vc_clear (as : Array Operand) (ts : Array TypeId) : vc P ev H ty K (.call ⟨.builtin .clear, as, ts⟩) = BuiltinVC P .clear ts.toList (as.toList.map ev) H K := by simp [vc, quietOp]
end
section
variable {P : Program} {F : List AV} {H : Hp} {g : Bool} {K : AV → Prop}
@[go_sem] theorem vg_pick (c a b : Operand) : vcG P F H g K (.pick c a b) = ((g = true → (unG (evA F c)).1 = true ∧ (qPick (evG F c) (evA F a) (evA F b)).1) ∧ K (.gd g (qPick (evG F c) (evA F a) (evA F b)).2)) := (rfl)
@[go_sem] theorem vg_nilCheck (x : Operand) : vcG P F H g K (.nilCheck x) = ((g = true → okG F (.nilCheck x) = true ∧ (qNil (evG F x)).1) ∧ K (.gd g (qNil (evG F x)).2)) := by simp [vcG, guardQuiet, quietOp, vq]
@[go_sem] theorem vg_unOp (op : UnOp) (t : TypeId) (x : Operand) : vcG P F H g K (.unOp op t x) = ((g = true → okG F (.unOp op t x) = true ∧ (qUn op (evG F x)).1) ∧ K (.gd g (qUn op (evG F x)).2)) := by simp [vcG, guardQuiet, quietOp, vq]
@[go_sem] theorem vg_load (t : TypeId) (x : Operand) : vcG P F H g K (.load t x) = ((g = true → okG F (.load t x) = true ∧ (qLoad P H t (evG F x)).1) ∧ K (.gd g (qLoad P H t (evG F x)).2)) := by simp [vcG, guardQuiet, quietOp, vq]
@[go_sem] theorem vg_fieldAddr (t : TypeId) (x : Operand) (f : Nat) : vcG P F H g K (.fieldAddr t x f) = ((g = true → okG F (.fieldAddr t x f) = true ∧ (qFieldAddr P t (evG F x) f).1) ∧ K (.gd g (qFieldAddr P t (evG F x) f).2)) := by simp [vcG, guardQuiet, quietOp, vq]
@[go_sem] theorem vg_field (t : TypeId) (x : Operand) (f : Nat) : vcG P F H g K (.field t x f) = ((g = true → okG F (.field t x f) = true ∧ (qField P t (evG F x) f).1) ∧ K (.gd g (qField P t (evG F x) f).2)) := by simp [vcG, guardQuiet, quietOp, vq]
@[go_sem] theorem vg_indexAddr (t : TypeId) (x i : Operand) : vcG P F H g K (.indexAddr t x i) = ((g = true → okG F (.indexAddr t x i) = true ∧ (qIndexAddr P t (evG F x) (evG F i)).1) ∧ K (.gd g (qIndexAddr P t (evG F x) (evG F i)).2)) := by simp [vcG, guardQuiet, quietOp, vq]
@[go_sem] theorem vg_index (t : TypeId) (x i : Operand) : vcG P F H g K (.index t x i) = ((g = true → okG F (.index t x i) = true ∧ (qIndex P t (evG F x) (evG F i)).1) ∧ K (.gd g (qIndex P t (evG F x) (evG F i)).2)) := by simp [vcG, guardQuiet, quietOp, vq]
@[go_sem] theorem vg_extract (x : Operand) (i : Nat) : vcG P F H g K (.extract x i) = ((g = true → okG F (.extract x i) = true ∧ (qExtract (evG F x) i).1) ∧ K (.gd g (qExtract (evG F x) i).2)) := by simp [vcG, guardQuiet, quietOp, vq]
@[go_sem] theorem vg_slice (t : TypeId) (a : Operand) (lo hi mx : Option Operand) : vcG P F H g K (.slice t a lo hi mx) = ((g = true → okG F (.slice t a lo hi mx) = true ∧ (qSlice P t (evG F a) (lo.map (evG F)) (hi.map (evG F)) (mx.map (evG F))).1) ∧ K (.gd g (qSlice P t (evG F a) (lo.map (evG F)) (hi.map (evG F)) (mx.map (evG F))).2)) := by simp [vcG, guardQuiet, quietOp, vq]
@[go_sem] theorem vg_makeFunc (fn : Fn) (a b : Array Operand) : vcG P F H g K (.makeFunc fn a b) = ((g = true → okG F (.makeFunc fn a b) = true ∧ (qFunc fn (a.toList.map (evG F)) (b.toList.map (evG F))).1) ∧ K (.gd g (qFunc fn (a.toList.map (evG F)) (b.toList.map (evG F))).2)) := by simp [vcG, guardQuiet, quietOp, vq]
@[go_sem] theorem vg_makeIface (t : TypeId) (x : Operand) : vcG P F H g K (.makeInterface t x) = ((g = true → okG F (.makeInterface t x) = true ∧ (qIface P t (evG F x)).1) ∧ K (.gd g (qIface P t (evG F x)).2)) := by simp [vcG, guardQuiet, quietOp, vq]
@[go_sem] theorem vg_convert (s d : TypeId) (x : Operand) : vcG P F H g K (.convert s d x) = ((g = true → okG F (.convert s d x) = true ∧ (qConv P s d (evG F x)).1) ∧ K (.gd g (qConv P s d (evG F x)).2)) := by simp [vcG, guardQuiet, quietOp, vq]
@[go_sem] theorem vg_build (t : TypeId) (ps : Array (Nat × Operand)) : vcG P F H g K (.build t ps) = ((g = true → okG F (.build t ps) = true ∧ (qBuild P t (ps.toList.map fun p => (p.1, evG F p.2))).1) ∧ K (.gd g (qBuild P t (ps.toList.map fun p => (p.1, evG F p.2))).2)) := by simp [vcG, guardQuiet, quietOp, vq]
@[go_sem] theorem vg_len (as : Array Operand) (ts : Array TypeId) : vcG P F H g K (.call ⟨.builtin .len, as, ts⟩) = ((g = true → okG F (.call ⟨.builtin .len, as, ts⟩) = true ∧ (qBuiltin P H .len ts.toList (as.toList.map (evG F))).1) ∧ K (.gd g (qBuiltin P H .len ts.toList (as.toList.map (evG F))).2)) := by simp [vcG, guardQuiet, quietOp, vq]
@[go_sem] theorem vg_cap (as : Array Operand) (ts : Array TypeId) : vcG P F H g K (.call ⟨.builtin .cap, as, ts⟩) = ((g = true → okG F (.call ⟨.builtin .cap, as, ts⟩) = true ∧ (qBuiltin P H .cap ts.toList (as.toList.map (evG F))).1) ∧ K (.gd g (qBuiltin P H .cap ts.toList (as.toList.map (evG F))).2)) := by simp [vcG, guardQuiet, quietOp, vq]
@[go_sem] theorem vg_max (as : Array Operand) (ts : Array TypeId) : vcG P F H g K (.call ⟨.builtin .max, as, ts⟩) = ((g = true → okG F (.call ⟨.builtin .max, as, ts⟩) = true ∧ (qBuiltin P H .max ts.toList (as.toList.map (evG F))).1) ∧ K (.gd g (qBuiltin P H .max ts.toList (as.toList.map (evG F))).2)) := by simp [vcG, guardQuiet, quietOp, vq]
@[go_sem] theorem vg_min (as : Array Operand) (ts : Array TypeId) : vcG P F H g K (.call ⟨.builtin .min, as, ts⟩) = ((g = true → okG F (.call ⟨.builtin .min, as, ts⟩) = true ∧ (qBuiltin P H .min ts.toList (as.toList.map (evG F))).1) ∧ K (.gd g (qBuiltin P H .min ts.toList (as.toList.map (evG F))).2)) := by simp [vcG, guardQuiet, quietOp, vq]
@[go_sem] theorem vg_add (t : TypeId) (x y : Operand) (t' : TypeId) : vcG P F H g K (.binOp .add t x y t') = ((g = true → okG F (.binOp .add t x y t') = true ∧ (qBin P .add t (evG F x) (evG F y)).1) ∧ K (.gd g (qBin P .add t (evG F x) (evG F y)).2)) := by simp [vcG, guardQuiet, quietOp, vq]
@[go_sem] theorem vg_sub (t : TypeId) (x y : Operand) (t' : TypeId) : vcG P F H g K (.binOp .sub t x y t') = ((g = true → okG F (.binOp .sub t x y t') = true ∧ (qBin P .sub t (evG F x) (evG F y)).1) ∧ K (.gd g (qBin P .sub t (evG F x) (evG F y)).2)) := by simp [vcG, guardQuiet, quietOp, vq]
@[go_sem] theorem vg_mul (t : TypeId) (x y : Operand) (t' : TypeId) : vcG P F H g K (.binOp .mul t x y t') = ((g = true → okG F (.binOp .mul t x y t') = true ∧ (qBin P .mul t (evG F x) (evG F y)).1) ∧ K (.gd g (qBin P .mul t (evG F x) (evG F y)).2)) := by simp [vcG, guardQuiet, quietOp, vq]
@[go_sem] theorem vg_quo (t : TypeId) (x y : Operand) (t' : TypeId) : vcG P F H g K (.binOp .quo t x y t') = ((g = true → okG F (.binOp .quo t x y t') = true ∧ (qBin P .quo t (evG F x) (evG F y)).1) ∧ K (.gd g (qBin P .quo t (evG F x) (evG F y)).2)) := by simp [vcG, guardQuiet, quietOp, vq]
@[go_sem] theorem vg_rem (t : TypeId) (x y : Operand) (t' : TypeId) : vcG P F H g K (.binOp .rem t x y t') = ((g = true → okG F (.binOp .rem t x y t') = true ∧ (qBin P .rem t (evG F x) (evG F y)).1) ∧ K (.gd g (qBin P .rem t (evG F x) (evG F y)).2)) := by simp [vcG, guardQuiet, quietOp, vq]
@[go_sem] theorem vg_and (t : TypeId) (x y : Operand) (t' : TypeId) : vcG P F H g K (.binOp .and t x y t') = ((g = true → okG F (.binOp .and t x y t') = true ∧ (qBin P .and t (evG F x) (evG F y)).1) ∧ K (.gd g (qBin P .and t (evG F x) (evG F y)).2)) := by simp [vcG, guardQuiet, quietOp, vq]
@[go_sem] theorem vg_or (t : TypeId) (x y : Operand) (t' : TypeId) : vcG P F H g K (.binOp .or t x y t') = ((g = true → okG F (.binOp .or t x y t') = true ∧ (qBin P .or t (evG F x) (evG F y)).1) ∧ K (.gd g (qBin P .or t (evG F x) (evG F y)).2)) := by simp [vcG, guardQuiet, quietOp, vq]
@[go_sem] theorem vg_xor (t : TypeId) (x y : Operand) (t' : TypeId) : vcG P F H g K (.binOp .xor t x y t') = ((g = true → okG F (.binOp .xor t x y t') = true ∧ (qBin P .xor t (evG F x) (evG F y)).1) ∧ K (.gd g (qBin P .xor t (evG F x) (evG F y)).2)) := by simp [vcG, guardQuiet, quietOp, vq]
@[go_sem] theorem vg_andNot (t : TypeId) (x y : Operand) (t' : TypeId) : vcG P F H g K (.binOp .andNot t x y t') = ((g = true → okG F (.binOp .andNot t x y t') = true ∧ (qBin P .andNot t (evG F x) (evG F y)).1) ∧ K (.gd g (qBin P .andNot t (evG F x) (evG F y)).2)) := by simp [vcG, guardQuiet, quietOp, vq]
@[go_sem] theorem vg_shl (t : TypeId) (x y : Operand) (t' : TypeId) : vcG P F H g K (.binOp .shl t x y t') = ((g = true → okG F (.binOp .shl t x y t') = true ∧ (qBin P .shl t (evG F x) (evG F y)).1) ∧ K (.gd g (qBin P .shl t (evG F x) (evG F y)).2)) := by simp [vcG, guardQuiet, quietOp, vq]
@[go_sem] theorem vg_shr (t : TypeId) (x y : Operand) (t' : TypeId) : vcG P F H g K (.binOp .shr t x y t') = ((g = true → okG F (.binOp .shr t x y t') = true ∧ (qBin P .shr t (evG F x) (evG F y)).1) ∧ K (.gd g (qBin P .shr t (evG F x) (evG F y)).2)) := by simp [vcG, guardQuiet, quietOp, vq]
@[go_sem] theorem vg_lss (t : TypeId) (x y : Operand) (t' : TypeId) : vcG P F H g K (.binOp .lss t x y t') = ((g = true → okG F (.binOp .lss t x y t') = true ∧ (qBin P .lss t (evG F x) (evG F y)).1) ∧ K (.gd g (qBin P .lss t (evG F x) (evG F y)).2)) := by simp [vcG, guardQuiet, quietOp, vq]
@[go_sem] theorem vg_leq (t : TypeId) (x y : Operand) (t' : TypeId) : vcG P F H g K (.binOp .leq t x y t') = ((g = true → okG F (.binOp .leq t x y t') = true ∧ (qBin P .leq t (evG F x) (evG F y)).1) ∧ K (.gd g (qBin P .leq t (evG F x) (evG F y)).2)) := by simp [vcG, guardQuiet, quietOp, vq]
@[go_sem] theorem vg_gtr (t : TypeId) (x y : Operand) (t' : TypeId) : vcG P F H g K (.binOp .gtr t x y t') = ((g = true → okG F (.binOp .gtr t x y t') = true ∧ (qBin P .gtr t (evG F x) (evG F y)).1) ∧ K (.gd g (qBin P .gtr t (evG F x) (evG F y)).2)) := by simp [vcG, guardQuiet, quietOp, vq]
@[go_sem] theorem vg_geq (t : TypeId) (x y : Operand) (t' : TypeId) : vcG P F H g K (.binOp .geq t x y t') = ((g = true → okG F (.binOp .geq t x y t') = true ∧ (qBin P .geq t (evG F x) (evG F y)).1) ∧ K (.gd g (qBin P .geq t (evG F x) (evG F y)).2)) := by simp [vcG, guardQuiet, quietOp, vq]
@[go_sem] theorem vg_move (x : Operand) : vcG P F H g K (.move x) = ((g = true → okG F (.move x) = true) ∧ K (.gd g (evG F x))) := by simp [vcG, guardQuiet, quietOp, vq]
@[go_sem] theorem vg_assign (x : Operand) : vcG P F H g K (.assign x) = ((g = true → okG F (.assign x) = true) ∧ K (.gd g (evG F x))) := by simp [vcG, guardQuiet, quietOp, vq]
@[go_sem] theorem vg_eql (t : TypeId) (x y : Operand) (t' : TypeId) : vcG P F H g K (.binOp .eql t x y t') = ((g = true → okG F (.binOp .eql t x y t') = true ∧ (qBin P .eql t (evG F x) (evG F y)).1) ∧ K (.gd g (qBin P .eql t (evG F x) (evG F y)).2)) := by simp [vcG, guardQuiet, vq]
@[go_sem] theorem vg_neq (t : TypeId) (x y : Operand) (t' : TypeId) : vcG P F H g K (.binOp .neq t x y t') = ((g = true → okG F (.binOp .neq t x y t') = true ∧ (qBin P .neq t (evG F x) (evG F y)).1) ∧ K (.gd g (qBin P .neq t (evG F x) (evG F y)).2)) := by simp [vcG, guardQuiet, vq]
@[go_sem] theorem vg_call (f : Operand) (as : Array Operand) (ts : Array TypeId) : vcG P F H g K (.call ⟨.value f, as, ts⟩) = ∃ r, (g = true → okG F (.call ⟨.value f, as, ts⟩) = true ∧ vCall P (evG F f) (as.toList.map (evG F)) H fun r' H' => r' = r ∧ H' = H) ∧ K (.gd g r) := (rfl)
@[go_sem] theorem evA_tmp (t : Tmp) : evA F (.tmp t) = F.getD t .any := (rfl)
@[go_sem] theorem evA_const (v : Value) : evA F (.const v) = .raw v := (rfl)
@[go_sem] theorem evA_global (b : Nat) : evA F (.global b) = .raw (.pointer (some ⟨b, 0, none⟩)) := (rfl)
@[go_sem] theorem evA_func (f : FuncId) : evA F (.func f) = .raw (.func (.func f) #[] #[]) := (rfl)
@[go_sem] theorem putA_some (d : Tmp) (a : AV) : putA F (some d) a = F.set d a := (rfl)
@[go_sem] theorem putA_none (a : AV) : putA F none a = F := (rfl)
end

@[go_sem] theorem qArr_some (len s : Nat) (i : Int) (f : Nat → AV) : qArr (some (len, s)) i f = (0 ≤ i ∧ i < len, f (i.toNat * s)) := (rfl)
attribute [go_sem] evG okG unG guardB isCallV guardQuiet quietOp qPick qNil qInt qStr qEqNe qBin qUn qLoad cellsAt qFieldAddr qField qPart qIndexAddr qIndex qExtract optInt qSlice rawsOf qFunc qIface qConv qLen qCap qMaxMin qBuiltin fillA qBuild vStore vNilEq vLit splice
attribute [go_sem] ones Op.operands Call.operands litOK
section
@[go_sem] theorem cells_agg (cs : List AV) : (AV.agg cs).cells = cs := (rfl)
@[go_sem] theorem cells_raw_agg (vs : Array Value) : (AV.raw (.agg vs)).cells = vs.toList.map .raw := (rfl)
@[go_sem] theorem cells_int (k : IntKind) (n : Int) : (AV.raw (.int k n)).cells = [.raw (.int k n)] := (rfl)
@[go_sem] theorem cells_bool (b : Bool) : (AV.raw (.bool b)).cells = [.raw (.bool b)] := (rfl)
@[go_sem] theorem cells_string (s : ByteArray) : (AV.raw (.string s)).cells = [.raw (.string s)] := (rfl)
@[go_sem] theorem cells_pointer (a : Option Addr) : (AV.raw (.pointer a)).cells = [.raw (.pointer a)] := (rfl)
@[go_sem] theorem cells_slice (a : Option Addr) (n c : Nat) : (AV.raw (.slice a n c)).cells = [.raw (.slice a n c)] := (rfl)
@[go_sem] theorem cells_map (r : Option Nat) : (AV.raw (.map r)).cells = [.raw (.map r)] := (rfl)
@[go_sem] theorem cells_func (f : Fn) (a b : Array Value) : (AV.raw (.func f a b)).cells = [.raw (.func f a b)] := (rfl)
@[go_sem] theorem cells_nilFunc : (AV.raw .nilFunc).cells = [.raw .nilFunc] := (rfl)
@[go_sem] theorem cells_iface (t : TypeId) (v : Value) : (AV.raw (.iface t v)).cells = [.raw (.iface t v)] := (rfl)
@[go_sem] theorem cells_nilIface : (AV.raw .nilIface).cells = [.raw .nilIface] := (rfl)
@[go_sem] theorem cells_sl (x : Bool) (sz : Nat) (css : List (List AV)) (d : List AV) : (AV.sl x sz css d).cells = [.sl x sz css d] := (rfl)
@[go_sem] theorem cells_pt (i m k j : Nat) : (AV.pt i m k j).cells = [.pt i m k j] := (rfl)
@[go_sem] theorem cells_rs (i m k j : Nat) : (AV.rs i m k j).cells = [.rs i m k j] := (rfl)
@[go_sem] theorem cells_rv (i m k j q : Nat) : (AV.rv i m k j q).cells = [.rv i m k j q] := (rfl)
@[go_sem] theorem cells_ip (cs : List AV) : (AV.ip cs).cells = [.ip cs] := (rfl)
@[go_sem] theorem one_int (k : IntKind) (n : Int) : (AV.raw (.int k n)).one = true := (rfl)
@[go_sem] theorem one_bool (b : Bool) : (AV.raw (.bool b)).one = true := (rfl)
@[go_sem] theorem one_string (s : ByteArray) : (AV.raw (.string s)).one = true := (rfl)
@[go_sem] theorem one_pointer (a : Option Addr) : (AV.raw (.pointer a)).one = true := (rfl)
@[go_sem] theorem one_slice (a : Option Addr) (n c : Nat) : (AV.raw (.slice a n c)).one = true := (rfl)
@[go_sem] theorem one_map (r : Option Nat) : (AV.raw (.map r)).one = true := (rfl)
@[go_sem] theorem one_func (f : Fn) (a b : Array Value) : (AV.raw (.func f a b)).one = true := (rfl)
@[go_sem] theorem one_nilFunc : (AV.raw .nilFunc).one = true := (rfl)
@[go_sem] theorem one_iface (t : TypeId) (v : Value) : (AV.raw (.iface t v)).one = true := (rfl)
@[go_sem] theorem one_nilIface : (AV.raw .nilIface).one = true := (rfl)
@[go_sem] theorem one_sl (x : Bool) (sz : Nat) (css : List (List AV)) (d : List AV) : (AV.sl x sz css d).one = true := (rfl)
@[go_sem] theorem one_pt (i m k j : Nat) : (AV.pt i m k j).one = true := (rfl)
@[go_sem] theorem one_rs (i m k j : Nat) : (AV.rs i m k j).one = true := (rfl)
@[go_sem] theorem one_rv (i m k j q : Nat) : (AV.rv i m k j q).one = true := (rfl)
@[go_sem] theorem one_ip (cs : List AV) : (AV.ip cs).one = true := (rfl)
end
attribute [go_sem] Hp.get Hp.put lget lput ldel lputs entry ids srcOf vAppTo vApp room stored storable litCss
@[go_sem] theorem unG_sl (x : Bool) (sz : Nat) (css : List (List AV)) (d : List AV) : unG (.sl x sz css d) = (true, .sl x sz css d) := (rfl)
@[go_sem] theorem unG_pt (i m k j : Nat) : unG (.pt i m k j) = (true, .pt i m k j) := (rfl)
@[go_sem] theorem unG_rs (i m k j : Nat) : unG (.rs i m k j) = (true, .rs i m k j) := (rfl)
@[go_sem] theorem unG_rv (i m k j q : Nat) : unG (.rv i m k j q) = (true, .rv i m k j q) := (rfl)
attribute [go_sem] AV.all allL noQ AV.flat flatL rowQ shut fits fresh stay ldelS notQ lone neQ VToL
@[go_sem] theorem good_nil_ (sz : Nat) : Good sz [] = True := by simp [good_nil]
@[go_sem] theorem good_cons_ (sz : Nat) (cs : List AV) (css : List (List AV)) : Good sz (cs :: css) = ((cs.length = sz ∧ ones cs = true) ∧ Good sz css) := by simp [Good]
@[go_sem] theorem good_append_ (sz : Nat) (a b : List (List AV)) : Good sz (a ++ b) = (Good sz a ∧ Good sz b) := by
  apply propext
  exact ⟨fun h => ⟨fun c hc => h c (List.mem_append_left _ hc), fun c hc => h c (List.mem_append_right _ hc)⟩, fun h => good_append h.1 h.2⟩
@[go_sem] theorem good_map_ {α : Type} (enc : α → List AV) (sz : Nat) [EncOK enc sz] (l : List α) : Good sz (l.map enc) = True := by simp [good_map]
@[go_sem] theorem ql_nil_ (q : Nat → Bool) : QL q [] = True := by simp [ql_nil]
@[go_sem] theorem ql_cons_ (q : Nat → Bool) (cs : List AV) (css : List (List AV)) : QL q (cs :: css) = (allL q cs = true ∧ QL q css) := by simp [QL]
@[go_sem] theorem ql_append_ (q : Nat → Bool) (a b : List (List AV)) : QL q (a ++ b) = (QL q a ∧ QL q b) := by
  apply propext
  exact ⟨fun h => ⟨fun c hc => h c (List.mem_append_left _ hc), fun c hc => h c (List.mem_append_right _ hc)⟩, fun h => ql_append h.1 h.2⟩
@[go_sem] theorem ql_map_ {α : Type} (q : Nat → Bool) (enc : α → List AV) {sz : Nat} [EncOK enc sz] (l : List α) : QL q (l.map enc) = True := by simp [ql_map]
@[go_sem] theorem getD_map_ {α : Type} [Inhabited α] (enc : α → List AV) (l : List α) (k : Nat) (h : k < l.length) : (l.map enc).getD k [] = enc (nth l k) := by simp [nth, h]
@[go_sem] theorem getD_mapd_ {α : Type} [Inhabited α] (enc : α → List AV) (l : List α) (k : Nat) : (l.map enc).getD k (enc default) = enc (nth l k) := by
  unfold nth
  rcases Nat.lt_or_ge k l.length with h | h <;> simp [h]
@[go_sem] theorem map_drop_ {α : Type} (enc : α → List AV) (l : List α) (k : Nat) : (l.map enc).drop k = (l.drop k).map enc := by simp
@[go_sem] theorem map_take_ {α : Type} (enc : α → List AV) (l : List α) (k : Nat) : (l.map enc).take k = (l.take k).map enc := by simp
@[go_sem] theorem take_all_ {α : Type} (l : List α) : l.take l.length = l := by simp
@[go_sem] theorem length_map_ {α β : Type} (f : α → β) (l : List α) : (l.map f).length = l.length := by simp
@[go_sem] theorem length_append_ {α : Type} (a b : List α) : (a ++ b).length = a.length + b.length := by simp
@[go_sem] theorem map_append_ {α β : Type} (f : α → β) (a b : List α) : (a ++ b).map f = a.map f ++ b.map f := by simp
@[go_sem] theorem contains_nil_ (i : Nat) : ([] : List Nat).contains i = false := (rfl)
@[go_sem] theorem contains_cons_ (i j : Nat) (l : List Nat) : (j :: l).contains i = (i == j || l.contains i) := List.contains_cons
@[go_sem] theorem row_vec_inj (e e' : TypeId) (sz sz' : Nat) (a b : List (List AV)) : (Row.vec e sz a = Row.vec e' sz' b) = (e = e' ∧ sz = sz' ∧ a = b) := by simp
@[go_sem] theorem row_var_inj (e e' : TypeId) (a b : List AV) : (Row.var e a = Row.var e' b) = (e = e' ∧ a = b) := by simp
attribute [go_sem] List.getD_cons_zero List.getD_cons_succ List.getD_nil List.set_cons_zero List.set_cons_succ List.set_nil List.map_nil List.map_cons List.getElem?_cons_zero List.getElem?_cons_succ List.getElem?_nil List.getElem?_toArray List.all_nil List.all_cons List.append_nil List.nil_append List.cons_append List.length_cons List.length_nil List.take_succ_cons List.take_zero List.take_nil List.drop_succ_cons List.drop_zero List.drop_nil List.flatten_nil List.flatten_cons
theorem beq_true_ (b : Bool) : (b == true) = b := by cases b <;> rfl
theorem beq_false_ (b : Bool) : (b == false) = !b := by cases b <;> rfl
attribute [go_sem] if_true if_false true_and and_true false_and and_false Option.map_some Option.map_none Option.getD_some Option.getD_none Option.bind_some Option.bind_none Option.isSome_some Option.isNone_some Option.isNone_none Option.some.injEq Bool.and_true Bool.true_and Bool.and_self Bool.not_true Bool.not_false beq_true_ beq_false_ Bool.false_eq_true Bool.true_eq_false reduceCtorEq imp_self implies_true forall_const or_true true_or or_self or_false false_or not_true_eq_false not_false_eq_true eq_self ne_eq and_self List.foldl_cons List.foldl_nil Bool.not_eq_true' Bool.or_true Bool.or_false Bool.true_or Bool.false_or decide_true decide_false Nat.zero_add Nat.add_zero Nat.le_refl Int.toNat_natCast
@[go_sem] theorem bsel_false (c x : Bool) : bsel c x false = (c && x) := by cases c <;> rfl
@[go_sem] theorem bsel_true (c y : Bool) : bsel c true y = (c || y) := by cases c <;> rfl
@[go_sem] theorem xor_false_ (b : Bool) : (false ^^ b) = b := by cases b <;> rfl
@[go_sem] theorem xor_true_ (b : Bool) : (true ^^ b) = !b := by cases b <;> rfl

@[go_sem] theorem ablock_exit_if (id id' : Nat) (Q : Exit → List AV → Hp → Prop) (F : List AV) (H : Hp) : ABlock id Q (.exit id') F H = if id' = id then Q .normal F H else Q (.exit id') F H := (rfl)

def sets (J : List (Nat × AV)) (F : List AV) : List AV := J.foldl (fun F p => F.set p.1 p.2) F
attribute [go_sem] sets mask maskR List.replicate_succ List.replicate_zero

/-- What a round must hand on. -/
def Next (n : Nat) {S : Type} (W : List (Nat × Nat)) (ok : S → Prop) (J : S → List (Nat × AV)) (G : S → Hp) (μ : S → Nat) (F₀ F : List AV) (H : Hp) : Prop := ∃ s, μ s < n ∧ FLe F H (sets (J s) (mask W F₀)) (G s) ∧ ok s
theorem next_mk {n : Nat} {S : Type} {W : List (Nat × Nat)} {ok : S → Prop} {J : S → List (Nat × AV)} {G : S → Hp} {μ : S → Nat} {F₀ F : List AV} {H : Hp} (s : S) (h1 : ok s) (h2 : μ s < n) (h4 : H = G s) (h3 : LLe F (sets (J s) (mask W F₀))) : Next n W ok J G μ F₀ F H := ⟨s, h2, by rw [← h4]; exact FLe.pt H h3, h1⟩
/-- A round's end where things are let go of. -/
theorem next_free {n : Nat} {S : Type} {W : List (Nat × Nat)} {ok : S → Prop} {J : S → List (Nat × AV)} {G : S → Hp} {μ : S → Nat} {F₀ F : List AV} {H : Hp} (D : Nat → Bool) (s : S) (h1 : ok s) (h2 : μ s < n) (hB : H.B.all (notQ D) = true) (hl : stay D H.l) (h4 : ⟨H.B, ldelS D H.l⟩ = G s) (h3 : VToL D H F (sets (J s) (mask W F₀))) : Next n W ok J G μ F₀ F H := ⟨s, h2, by rw [← h4]; exact FLe.free D hB hl h3, h1⟩
/-- A loop: W: the slots that a round writes; J: what some of them hold at a round's head; G: what is owned then; ok: what holds of one's own state. -/
theorem awp_loop_inv {P : Program} {c : Code} {Q : Exit → List AV → Hp → Prop} {F : List AV} {H : Hp} {S : Type} (W : List (Nat × Nat)) (ok : S → Prop) (J : S → List (Nat × AV)) (G : S → Hp) (μ : S → Nat) (s₀ : S) (h0 : ok s₀) (hle : FLe F H (sets (J s₀) (mask W F)) (G s₀))
    (round : ∀ s, ok s → ∀ K : List AV → Hp → Prop, (∀ F' H', Next (μ s) W ok J G μ F F' H' → K F' H') → AWP P c (AThen K Q) (sets (J s) (mask W F)) (G s)) : AWP P (.loop c) Q F H := by
  refine awp_loop (S := S) (fun s F' H' => F' = sets (J s) (mask W F) ∧ H' = G s ∧ ok s) μ s₀ hle ⟨rfl, rfl, h0⟩ ?_
  rintro s F' H' ⟨rfl, rfl, hok⟩
  refine round s hok _ ?_
  rintro F'' H'' ⟨s', h1, h2, h3⟩
  exact ⟨s', _, _, h1, h2, rfl, rfl, h3⟩
theorem fle_at {F F' : List AV} {H H' : Hp} (h1 : H = H') (h2 : LLe F F') : FLe F H F' H' := by rw [← h1]; exact FLe.pt H h2

theorem ret_mk {P : Program} {fn : Func} {R : AV → List (Nat × Row) → Prop} {F : List AV} {H : Hp} {out : List AV} {e : Exit} (he : e = .normal ∨ e = .ret) (ho : ares P H F fn.results.toList = some out) (hok : aresOK P H F fn.results.toList) (r : AV) (H' : Hp) (hle : RLe (aresult out) H r H') (hR : R r H'.l) : ARet P fn R e F H := by
  rcases he with rfl | rfl <;> exact ⟨out, r, H', ho, hok, hle, hR⟩

theorem vAlloc_intro {P : Program} {H : Hp} {t : TypeId} {K : AV → Hp → Prop} (i : Nat) {zs : List Value} (hz : zeroL P t = some zs) (hi : H.get i = none) (h : K (.pt i 0 0 0) (H.put i (.var t (zs.map .raw)))) : vAlloc P H t K := by
  unfold vAlloc
  rw [hz]
  exact ⟨i, hi, h⟩
theorem vBox_intro {H : Hp} {t : TypeId} {x : AV} {K : AV → Hp → Prop} (i : Nat) (ho : ones x.cells = true) (hi : H.get i = none) (h : K (.pt i 0 0 0) (H.put i (.var t x.cells))) : vBox H t x K := ⟨ho, i, hi, h⟩
theorem vFresh_intro {H : Hp} {A : Nat → Prop} {d : Dep A} (i : Nat) (hi : H.get i = none) (h : A i) : vFresh H A d := ⟨i, hi, h⟩
/-- The next number. -/
def nxF : List (Nat × Row) → Nat → Nat
  | [], m => m
  | (i, _) :: l, m => nxF l (if m ≤ i then i + 1 else m)
def nx (l : List (Nat × Row)) : Nat := nxF l 0
theorem nxF_none : ∀ (l : List (Nat × Row)) (m i : Nat), nxF l m ≤ i → lget l i = none ∧ m ≤ i
  | [], m, i, h => ⟨rfl, h⟩
  | (j, r) :: l, m, i, h => by
    obtain ⟨h1, h2⟩ := nxF_none l _ i h
    simp only [lget]
    split at h2
    · rw [if_neg (by omega)]; exact ⟨h1, by omega⟩
    · rw [if_neg (by omega)]; exact ⟨h1, h2⟩
theorem nx_none (l : List (Nat × Row)) (i : Nat) (h : nx l ≤ i) : lget l i = none := (nxF_none l 0 i h).1
attribute [go_sem] nxF
attribute [go_sem] nx
@[go_sem] theorem optArr_none : (none : Option Operand).toArray.toList = [] := (rfl)
@[go_sem] theorem optArr_some (x : Operand) : (some x).toArray.toList = [x] := (rfl)
theorem vFresh_next {H : Hp} {A : Nat → Prop} {d : Dep A} (h : A (nx H.l)) : vFresh H A d := ⟨_, nx_none _ _ (Nat.le_refl _), h⟩
theorem vAlloc_next {P : Program} {H : Hp} {t : TypeId} {K : AV → Hp → Prop} {zs : List Value} (hz : zeroL P t = some zs) (h : K (.pt (nx H.l) 0 0 0) (H.put (nx H.l) (.var t (zs.map .raw)))) : vAlloc P H t K := vAlloc_intro _ hz (nx_none _ _ (Nat.le_refl _)) h
theorem vBox_next {H : Hp} {t : TypeId} {x : AV} {K : AV → Hp → Prop} (ho : ones x.cells = true) (h : K (.pt (nx H.l) 0 0 0) (H.put (nx H.l) (.var t x.cells))) : vBox H t x K := vBox_intro _ ho (nx_none _ _ (Nat.le_refl _)) h
theorem vLitK_tree {e : TypeId} {sz : Nat} {css : List (List AV)} {H : Hp} {K : AV → Hp → Prop} (h1 : allL noQ css.flatten = true) (h2 : K (.sl true sz css []) H) : vLitK e sz css H K := .inl ⟨h1, h2⟩
theorem vLitK_own {e : TypeId} {sz : Nat} {css : List (List AV)} {H : Hp} {K : AV → Hp → Prop} (i : Nat) (h0 : 0 < sz) (hi : H.get i = none) (h2 : K (.rs i css.length sz css.length) (H.put i (.vec e sz css))) : vLitK e sz css H K := .inr ⟨h0, i, hi, h2⟩
theorem vLitK_next {e : TypeId} {sz : Nat} {css : List (List AV)} {H : Hp} {K : AV → Hp → Prop} (h0 : 0 < sz) (h2 : K (.rs (nx H.l) css.length sz css.length) (H.put (nx H.l) (.vec e sz css))) : vLitK e sz css H K := vLitK_own _ h0 (nx_none _ _ (Nat.le_refl _)) h2
theorem vLitK_zero {e : TypeId} {sz : Nat} {H : Hp} {K : AV → Hp → Prop} (h0 : 0 < sz) (h2 : K (.rs (nx H.l) 0 sz 0) (H.put (nx H.l) (.vec e sz []))) : vLitK e sz [] H K := vLitK_next h0 h2
/-- Where ways meet again: what is known of the state there. -/
theorem awp_seq_cut {P : Program} {x y : Code} {Q : Exit → List AV → Hp → Prop} {F : List AV} {H : Hp} {S : Type} (W : List (Nat × Nat)) (ok : S → Prop) (J : S → List (Nat × AV)) (G : S → Hp)
    (h1 : ∀ K : List AV → Hp → Prop, (∀ s F' H', ok s → FLe F' H' (sets (J s) (mask W F)) (G s) → K F' H') → AWP P x (AThen K Q) F H) (h2 : ∀ s, ok s → AWP P y Q (sets (J s) (mask W F)) (G s)) : AWP P (.seq x y) Q F H := by
  refine awp_seq (awp_mono (h1 (fun F' H' => ∃ s, ok s ∧ FLe F' H' (sets (J s) (mask W F)) (G s)) fun s F' H' a b => ⟨s, a, b⟩) fun e F' H' hq => ?_)
  cases e with
  | normal => obtain ⟨s, a, b⟩ := hq; exact awp_weak b (h2 s a)
  | _ => exact hq
/-- An argument may be said more weakly. -/
def VLe (a a' : AV) : Prop := ∀ (w : NW) v, RelV w a v → RelV w a' v
theorem VLe.refl (a : AV) : VLe a a := fun _ _ h => h
theorem VLe.sl {x : Bool} {sz : Nat} {css : List (List AV)} {d d' : List AV} : VLe (.sl x sz css d) (.sl false sz css d') := fun w v hr => by
  cases hr with
  | sl0 _ _ A c _ => exact .sl0 _ _ _ _ (fun e => by cases e)
  | sl _ _ _ a c vs hn hc hx hsz hb hH hcell hr => exact .sl _ _ _ a c vs hn hc (fun e => by cases e) hsz hb hH hcell hr
theorem VLe.nil {sz : Nat} {d : List AV} : VLe (.raw (.slice none 0 0)) (.sl false sz [] d) := fun w v hr => by
  have := raw_inv hr
  subst this
  exact .sl0 _ _ _ _ (fun e => by cases e)
def VLes : List AV → List AV → Prop
  | [], [] => True
  | a :: l, b :: m => VLe a b ∧ VLes l m
  | _, _ => False
theorem VLes.get : ∀ {l m : List AV}, VLes l m → l.length = m.length ∧ ∀ (i : Nat) a b, l[i]? = some a → m[i]? = some b → VLe a b
  | [], [], _ => ⟨rfl, fun i a b h => by simp at h⟩
  | x :: l, y :: m, h => by
    have ih := VLes.get h.2
    refine ⟨by simp [ih.1], fun i a b ha hb => ?_⟩
    cases i with
    | zero => simp at ha hb; subst ha hb; exact h.1
    | succ i => exact ih.2 i a b (by simpa using ha) (by simpa using hb)
theorem hcall_weak {P : Program} {f : FuncId} {args args' : List AV} {H : Hp} {K : AV → Hp → Prop} (hl : VLes args args') (h : HCalls P f args' H K) : HCalls P f args H K := fun w vs h1 h2 => by
  obtain ⟨hlen, hg⟩ := hl.get
  refine h w vs h1 ⟨hlen.symm.trans h2.1, fun i a v ha hv => ?_⟩
  have hi : i < args.length := by rw [hlen]; exact (List.getElem?_eq_some_iff.1 ha).1
  exact hg i args[i] a (List.getElem?_eq_getElem hi) ha w v (h2.2 i _ v (List.getElem?_eq_getElem hi) hv)

attribute [go_sem] aresult
@[go_sem] theorem getD_drop_ (l : List AV) (n m : Nat) : (l.drop n).getD m .any = l.getD (n + m) .any := by simp [List.getD_eq_getElem?_getD]
attribute [go_sem] List.drop_drop List.length_drop Array.toList_append
theorem ret_fun {P : Program} {fn : Func} {F : List AV} {H : Hp} {out : List AV} {e : Exit} {r : AV} {l : List (Nat × Row)} (he : e = .normal ∨ e = .ret) (ho : ares P H F fn.results.toList = some out) (hok : aresOK P H F fn.results.toList) (h1 : aresult out = r) (h2 : H.l = l) : ARet P fn (fun r' l' => r' = r ∧ l' = l) e F H :=
  ret_mk he ho hok r H (RLe.of_eq H h1) ⟨rfl, h2⟩
/-- A result that is from then on read only, things that are let go of. -/
theorem ret_free {P : Program} {fn : Func} {F : List AV} {H : Hp} {out : List AV} {e : Exit} {r : AV} {l : List (Nat × Row)} (D : Nat → Bool) (he : e = .normal ∨ e = .ret) (ho : ares P H F fn.results.toList = some out) (hok : aresOK P H F fn.results.toList) (hB : H.B.all (notQ D) = true) (hl : stay D H.l) (hv : VTo D H (aresult out) r) (h2 : ldelS D H.l = l) : ARet P fn (fun r' l' => r' = r ∧ l' = l) e F H :=
  ret_mk he ho hok r _ (RLe.free D hB hl hv) ⟨rfl, h2⟩
theorem vto_eq {D : Nat → Bool} {H : Hp} {a a' : AV} (h : a = a') (hq : a.all (notQ D) = true) : VTo D H a a' := by subst h; exact .same _ hq
/-- All that is not the caller's is let go of. -/
def mineQ (B : List Nat) : Nat → Bool := fun i => !(B.contains i)
theorem ret_drop {P : Program} {fn : Func} {F : List AV} {H : Hp} {out : List AV} {e : Exit} {r : AV} {l : List (Nat × Row)} (he : e = .normal ∨ e = .ret) (ho : ares P H F fn.results.toList = some out) (hok : aresOK P H F fn.results.toList) (hl : stay (mineQ H.B) H.l) (hv : VTo (mineQ H.B) H (aresult out) r) (h2 : ldelS (mineQ H.B) H.l = l) : ARet P fn (fun r' l' => r' = r ∧ l' = l) e F H :=
  ret_free (mineQ H.B) he ho hok (by
    rw [List.all_eq_true]
    intro x hx
    simp [notQ, mineQ, hx]) hl hv h2
attribute [go_sem] ares aresOK
theorem ret_drop2 {P : Program} {fn : Func} {F : List AV} {H : Hp} {out : List AV} {e : Exit} {r : AV} {l : List (Nat × Row)} (rs : List ResultVar) (hrs : fn.results.toList = rs) (he : e = .normal ∨ e = .ret) (ho : ares P H F rs = some out) (hok : aresOK P H F rs) (hl : stay (mineQ H.B) H.l) (hv : VTo (mineQ H.B) H (aresult out) r) (h2 : ldelS (mineQ H.B) H.l = l) : ARet P fn (fun r' l' => r' = r ∧ l' = l) e F H := by
  subst hrs
  exact ret_drop he ho hok hl hv h2
theorem ret_fun2 {P : Program} {fn : Func} {F : List AV} {H : Hp} {out : List AV} {e : Exit} {r : AV} {l : List (Nat × Row)} (rs : List ResultVar) (hrs : fn.results.toList = rs) (he : e = .normal ∨ e = .ret) (ho : ares P H F rs = some out) (hok : aresOK P H F rs) (h1 : aresult out = r) (h2 : H.l = l) : ARet P fn (fun r' l' => r' = r ∧ l' = l) e F H := by
  subst hrs
  exact ret_fun he ho hok h1 h2
attribute [go_sem] mineQ cond_true cond_false loaded
/-- Things that a round has made are let go of. -/
theorem next_drop {n : Nat} {S : Type} {W : List (Nat × Nat)} {ok : S → Prop} {J : S → List (Nat × AV)} {G : S → Hp} {μ : S → Nat} {F₀ F : List AV} {H : Hp} (L : List Nat) (s : S) (h1 : ok s) (h2 : μ s < n) (hB : H.B.all (notQ fun i => L.contains i) = true) (hl : stay (fun i => L.contains i) H.l) (h4 : ⟨H.B, ldelS (fun i => L.contains i) H.l⟩ = G s) (h3 : VToL (fun i => L.contains i) H F (sets (J s) (mask W F₀))) : Next n W ok J G μ F₀ F H := next_free _ s h1 h2 hB hl h4 h3
theorem vto_any {D : Nat → Bool} {H : Hp} (a : AV) : VTo D H a .any := .drop a
@[go_sem] theorem vAppRs_same (i : Nat) (e : TypeId) (m sz : Nat) (css ys : List (List AV)) (H : Hp) (K : AV → Hp → Prop) : vAppRs i e m sz m css ys H K = K (.rs i (m + ys.length) sz (m + ys.length)) (H.put i (.vec e sz (css ++ ys))) := if_pos rfl
/-- Appended where a row was cut. -/
theorem vAppRs_over {α : Type} {enc : α → List AV} (vars more ys : List α) {i : Nat} {e : TypeId} {m sz n : Nat} {css yss : List (List AV)} {H : Hp} {K : AV → Hp → Prop} (hm : m = vars.length + more.length) (hn : n = vars.length) (hc : css = (vars ++ more).map enc) (hy : yss = ys.map enc)
    (h : K (.rs i (vars.length + ys.length + (more.drop ys.length).length) sz (vars.length + ys.length)) (H.put i (.vec e sz ((vars ++ ys ++ more.drop ys.length).map enc)))) : vAppRs i e m sz n css yss H K := by
  subst hm hn hc hy
  unfold vAppRs
  split
  · rename_i h'
    have : more = [] := List.length_eq_zero_iff.1 (by omega)
    subst this
    simpa using h
  · have e1 : max (vars.length + more.length) (vars.length + (ys.map enc).length) = vars.length + ys.length + (more.drop ys.length).length := by simp; omega
    have e2 : over ((vars ++ more).map enc) vars.length (ys.map enc) = (vars ++ ys ++ more.drop ys.length).map enc := by
      unfold over
      rw [← List.map_take, List.take_left', ← List.map_drop, List.length_map, List.drop_append, List.drop_eq_nil_of_le (by omega), List.nil_append]
      · simp
      · rfl
    rw [e1, e2]
    simpa using h
theorem rawBool_eq {b c : Bool} (h : b = c) : AV.raw (.bool b) = AV.raw (.bool c) := by rw [h]
theorem rawInt_eq {k : IntKind} {b c : Int} (h : b = c) : AV.raw (.int k b) = AV.raw (.int k c) := by rw [h]
end Go.Gd

namespace Go.Gd
open Go

section
variable {P : Program} {ops : Array Oper} {H : Hp}

/-- Two frames alike at the slots that an operation looks at. -/
def Agree (ops : Array Oper) (o : Oper) (F G : List AV) : Prop := (∀ x ∈ o.op.operands.toList, evA G x = evA F x) ∧ ∀ j b, o.guard = some (j, b) → guardB ops G j b = guardB ops F j b
/-- An operation that changes nothing that is owned, and gives r, at whatever frame that is alike where it looks. -/
def QV (P : Program) (ops : Array Oper) (o : Oper) (F : List AV) (H : Hp) (r : AV) : Prop := ∀ G, Agree ops o F G → AOp P ops o G H fun F' H' => F' = putA G o.dst r ∧ H' = H

theorem vCall_mono {f : AV} {args : List AV} {K K' : AV → Hp → Prop} (h : vCall P f args H K) (hk : ∀ r H, K r H → K' r H) : vCall P f args H K' := by
  unfold vCall at *
  split at h
  · rcases h with h | h
    · exact .inl ⟨h.1, h.2.mono hk⟩
    · exact .inr fun w vs h1 h2 => by
        obtain ⟨v, w', r, H', e, k, g⟩ := h w vs h1 h2
        exact ⟨v, w', r, H', e, hk _ _ k, g⟩
  · exact h.elim
/-- A literal that is read only. -/
def vLitT (P : Program) (t : TypeId) (n : Nat) (parts : List (Nat × AV)) (K : AV → Prop) : Prop := match elT P t with
  | some e => match szOf P e with
    | some sz => ((parts.length = n ∧ litOK sz 0 parts ∧ n * sz ≤ 16777216 ∧ (n * sz = 0 ∨ (zeroL P e).isSome = true)) ∧ allL noQ (litCss parts).flatten = true) ∧ K (.sl true sz (litCss parts) [])
    | none => False
  | none => False
theorem vLitT_lit {t : TypeId} {n : Nat} {parts : List (Nat × AV)} {K : AV → Hp → Prop} (h : vLitT P t n parts fun r => K r H) : vLit P H t n parts K := by
  unfold vLitT at h
  unfold vLit
  split at h
  · rename_i e he
    split at h
    · rename_i sz hs
      rw [he]
      simp only [hs]
      exact ⟨h.1.1, .inl ⟨h.1.2, h.2⟩⟩
    · exact h.elim
  · exact h.elim
theorem vLitT_elim {t : TypeId} {n : Nat} {parts : List (Nat × AV)} {K : AV → Prop} (h : vLitT P t n parts K) : ∃ r, K r ∧ ∀ K' : AV → Prop, K' r → vLitT P t n parts K' := by
  unfold vLitT at h
  split at h
  · rename_i e he
    split at h
    · rename_i sz hs
      exact ⟨_, h.2, fun K' hk => by unfold vLitT; rw [he]; simp only [hs]; exact ⟨h.1, hk⟩⟩
    · exact h.elim
  · exact h.elim
def eqOp : Op → Bool
  | .binOp .eql .. => true
  | .binOp .neq .. => true
  | _ => false
theorem aop_quiet {o : Oper} {F : List AV} {K : List AV → Hp → Prop} (hg : o.guard = none) (hq : (vq P (evA F) H o.op).1) (hk : K (putA F o.dst (vq P (evA F) H o.op).2) H) : AOp P ops o F H K :=
  aop_val hg (aval_vq (K := fun r H' => K (putA F o.dst r) H') hq hk)

theorem qv_quiet {o : Oper} {F : List AV} (hg : o.guard = none) (hq : (vq P (evA F) H o.op).1) : QV P ops o F H (vq P (evA F) H o.op).2 := fun G hG => by
  have e : vq P (evA G) H o.op = vq P (evA F) H o.op := vq_congr _ hG.1
  exact aop_quiet hg (by rw [e]; exact hq) ⟨by rw [e], rfl⟩
theorem qv_call {dst : Option Tmp} {f : Operand} {args : Array Operand} {ts : Array TypeId} {ty : TypeId} {pos : String} {after : Array Edge} {F : List AV} {r : AV} (h : vCall P (evA F f) (args.toList.map (evA F)) H fun r' H' => r' = r ∧ H' = H) :
    QV P ops ⟨dst, .call ⟨.value f, args, ts⟩, ty, pos, after, none⟩ F H r := fun G hG => by
  refine aop_vc (K := fun F' H' => F' = putA G dst r ∧ H' = H) rfl ?_
  show vCall P (evA G f) (args.toList.map (evA G)) H _
  rw [hG.1 f (by simp [Op.operands, Call.operands]), List.map_congr_left (g := evA F) (fun x hx => hG.1 x (by simp [Op.operands, Call.operands] at hx ⊢; exact .inr hx))]
  exact vCall_mono h fun r' H' ⟨e1, e2⟩ => ⟨by rw [e1], e2⟩
theorem qv_lit {dst : Option Tmp} {t : TypeId} {n : Nat} {parts : Array (Nat × Operand)} {ty : TypeId} {pos : String} {after : Array Edge} {F : List AV} {r : AV} (h : vLitT P t n (parts.toList.map fun p => (p.1, evA F p.2)) fun r' => r' = r) :
    QV P ops ⟨dst, .buildSlice t n parts, ty, pos, after, none⟩ F H r := fun G hG => by
  refine aop_vc (K := fun F' H' => F' = putA G dst r ∧ H' = H) rfl ?_
  show vLit P H t n (parts.toList.map fun p => (p.1, evA G p.2)) (fun r_1 H' => putA G dst r_1 = putA G dst r ∧ H' = H)
  rw [List.map_congr_left (g := fun p => (p.1, evA F p.2)) (fun x hx => by rw [hG.1 x.2 (by simp [Op.operands] at hx ⊢; exact ⟨_, hx⟩)])]
  refine vLitT_lit ?_
  obtain ⟨r', e, hk⟩ := vLitT_elim h
  subst e
  exact hk _ ⟨rfl, rfl⟩

theorem okG_congr {F G : List AV} (o : Op) (h : ∀ x ∈ o.operands.toList, evA G x = evA F x) : okG G o = okG F o := by
  unfold okG
  rw [Bool.eq_iff_iff, List.all_eq_true, List.all_eq_true]
  constructor <;> intro hh x hx <;> have := hh x hx <;> rw [h x hx] at * <;> exact this
def isPick : Op → Bool
  | .pick .. => true
  | _ => false
theorem vcG_other {F : List AV} {g : Bool} {K : AV → Prop} (o : Op) (h : isCallV o = false) (hp : isPick o = false) : vcG P F H g K o = if guardQuiet o then (g = true → okG F o = true ∧ (vq P (evG F) H o).1) ∧ K (.gd g (vq P (evG F) H o).2) else False := by
  cases o
  case call c =>
    obtain ⟨callee, args, ts⟩ := c
    cases callee
    case value f => cases h
    all_goals rfl
  case pick => cases hp
  all_goals rfl
/-- What a guarded operation gives, at whatever frame that is alike where it looks. -/
theorem vcG_elim {F : List AV} {g : Bool} {K : AV → Prop} {o : Op} (h : vcG P F H g K o) : ∃ r, K (.gd g r) ∧ ∀ (G : List AV) (K' : AV → Prop), (∀ x ∈ o.operands.toList, evA G x = evA F x) → K' (.gd g r) → vcG P G H g K' o := by
  cases hc : isCallV o with
  | false =>
    by_cases hp : isPick o = true
    · cases o <;> try cases hp
      rename_i c a b
      refine ⟨_, h.2, fun G K' hG hk => ?_⟩
      have he : ∀ x ∈ (Op.pick c a b).operands.toList, evG G x = evG F x := fun x hx => by unfold evG; rw [hG x hx]
      show (g = true → (unG (evA G c)).1 = true ∧ (qPick (evG G c) (evA G a) (evA G b)).1) ∧ K' (.gd g (qPick (evG G c) (evA G a) (evA G b)).2)
      rw [hG c (by simp [Op.operands]), hG a (by simp [Op.operands]), hG b (by simp [Op.operands]), he c (by simp [Op.operands])]
      exact ⟨h.1, hk⟩
    have hp : isPick o = false := by simpa using hp
    rw [vcG_other o hc hp] at h
    split at h
    · rename_i hq
      refine ⟨_, h.2, fun G K' hG hk => ?_⟩
      have he : ∀ x ∈ o.operands.toList, evG G x = evG F x := fun x hx => by unfold evG; rw [hG x hx]
      rw [vcG_other o hc hp, if_pos hq, vq_congr _ he, okG_congr o hG]
      exact ⟨h.1, hk⟩
    · exact h.elim
  | true =>
    cases o <;> try cases hc
    rename_i c
    obtain ⟨callee, args, ts⟩ := c
    cases callee <;> try cases hc
    rename_i f
    obtain ⟨r, h1, h2⟩ := h
    refine ⟨r, h2, fun G K' hG hk => ⟨r, fun hg => ⟨okG_congr _ hG ▸ (h1 hg).1, ?_⟩, hk⟩⟩
    have he : ∀ x ∈ (Op.call ⟨.value f, args, ts⟩).operands.toList, evG G x = evG F x := fun x hx => by unfold evG; rw [hG x hx]
    rw [he f (by simp [Op.operands, Call.operands]), List.map_congr_left (g := evG F) (fun x hx => he x (by simp [Op.operands, Call.operands] at hx ⊢; exact .inr hx))]
    exact (h1 hg).2
theorem qv_guard {o : Oper} {F : List AV} {j : Nat} {want b : Bool} {r : AV} (hg : o.guard = some (j, want)) (hb : guardB ops F j want = some b) (hq : (isCallV o.op || guardQuiet o.op) = true) (h : vcG P F H b (fun r' => r' = r) o.op) : QV P ops o F H r := fun G hG => by
  have hv : vcl P ops (fun F' H' => F' = putA G o.dst r ∧ H' = H) [o] G H := by
    simp only [vcl, hg, hG.2 j want hg, hb, hq, if_true]
    obtain ⟨r', h1, h2⟩ := vcG_elim h
    exact h2 G _ hG.1 ⟨by rw [h1], trivial⟩
  have hs := vcl_sound [o] G H hv
  intro w tm Q next h1 h2 hn
  have := hs w tm (fun e a w => match e with | .normal => next a w | e => Q e a w) h1 h2 hn
  simp only [wpList] at this
  unfold wpOp1
  split
  · rename_i hw
    rw [if_pos hw] at this
    rcases this with h | ⟨ha, hl⟩
    · refine .inl ?_
      unfold Oper.wp at *
      generalize (execOp (Act.mk tm []).eval o).run P w = res at *
      cases res with
      | ok n w' =>
        cases n <;> simp only [Oper.upon] at h ⊢
        case enter f args => exact Calls.mono h fun e w'' he => by cases e <;> exact he
        all_goals exact h
      | halt x w' => cases x <;> simp only [Oper.upon] at h ⊢; exact h
    · exact .inr ⟨ha, hl⟩
  · rename_i hw
    rw [if_neg hw] at this
    exact this

/-- Operations in the text's order, each of which changes nothing that is owned. -/
def vclQ (P : Program) (ops : Array Oper) (H : Hp) (K : List AV → Prop) : List Oper → List AV → Prop
  | [], F => K F
  | o :: rest, F => match o.guard with
    | none => match o.op with
      | .call { callee := .value f, args, .. } => ∃ r, (vCall P (evA F f) (args.toList.map (evA F)) H fun r' H' => r' = r ∧ H' = H) ∧ vclQ P ops H K rest (putA F o.dst r)
      | .buildSlice t n parts => vLitT P t n (parts.toList.map fun p => (p.1, evA F p.2)) fun r => vclQ P ops H K rest (putA F o.dst r)
      | op => (vq P (evA F) H op).1 ∧ vclQ P ops H K rest (putA F o.dst (vq P (evA F) H op).2)
    | some (j, want) => match guardB ops F j want with
      | some b => (isCallV o.op || guardQuiet o.op) = true ∧ vcG P F H b (fun r => vclQ P ops H K rest (putA F o.dst r)) o.op
      | none => False

/-- The values that the operations give, and the frames behind each, in the text's order. -/
def QRun (P : Program) (ops : Array Oper) (H : Hp) (K : List AV → Prop) : List Oper → List AV → List AV → Prop
  | [], F, rs => rs = [] ∧ K F
  | o :: rest, F, rs => ∃ r rs', rs = r :: rs' ∧ QV P ops o F H r ∧ QRun P ops H K rest (putA F o.dst r) rs'

theorem qrun_of {K : List AV → Prop} : ∀ (l : List Oper) (F : List AV), vclQ P ops H K l F → ∃ rs, QRun P ops H K l F rs
  | [], F, h => ⟨[], rfl, h⟩
  | o :: rest, F, h => by
    have mk : ∀ r, QV P ops o F H r → vclQ P ops H K rest (putA F o.dst r) → ∃ rs, QRun P ops H K (o :: rest) F rs := fun r h1 h2 => by
      obtain ⟨rs, h3⟩ := qrun_of rest _ h2
      exact ⟨r :: rs, r, rs, rfl, h1, h3⟩
    obtain ⟨dst, op, ty, pos, after, guard⟩ := o
    cases guard with
    | none =>
      unfold vclQ at h
      simp only at h
      split at h
      · obtain ⟨r, h1, h2⟩ := h
        exact mk r (qv_call h1) h2
      · rename_i t n parts
        obtain ⟨r, h1, h2⟩ := vLitT_elim h
        exact mk r (qv_lit (h2 _ rfl)) h1
      · exact mk _ (qv_quiet rfl h.1) h.2
    | some g =>
      obtain ⟨j, want⟩ := g
      unfold vclQ at h
      simp only at h
      split at h
      · rename_i b hb
        obtain ⟨hq, hv⟩ := h
        obtain ⟨r, h1, h2⟩ := vcG_elim hv
        exact mk _ (qv_guard rfl hb hq (r := .gd b r) (h2 F _ (fun _ _ => rfl) rfl)) h1
      · exact h.elim

-- the order

/-- Frames behind those of the first m operations that L lets in. -/
def FL (os : List Oper) (rs : List AV) (L : Nat → Bool) (F : List AV) : Nat → List AV
  | 0 => F
  | m + 1 => if L m then putA (FL os rs L F m) ((os[m]?).bind (·.dst)) (rs.getD m .any) else FL os rs L F m
/-- What a slot holds there. -/
def valL (os : List Oper) (rs : List AV) (L : Nat → Bool) (F : List AV) (s : Nat) : Nat → AV
  | 0 => F.getD s .any
  | m + 1 => if L m = true ∧ (os[m]?).bind (·.dst) = some s then rs.getD m .any else valL os rs L F s m

theorem FL_length (os : List Oper) (rs : List AV) (L : Nat → Bool) (F : List AV) : ∀ m, (FL os rs L F m).length = F.length
  | 0 => rfl
  | m + 1 => by
    unfold FL
    split
    · rw [← FL_length os rs L F m]
      cases (os[m]?).bind (·.dst) <;> simp [putA]
    · exact FL_length os rs L F m
theorem FL_get (os : List Oper) (rs : List AV) (L : Nat → Bool) (F : List AV) {s : Nat} (hs : s < F.length) : ∀ m, (FL os rs L F m).getD s .any = valL os rs L F s m
  | 0 => rfl
  | m + 1 => by
    have ih := FL_get os rs L F hs m
    have hl := FL_length os rs L F m
    unfold FL valL
    cases hd : (os[m]?).bind (·.dst) with
    | none =>
      have hno : ¬ (L m = true ∧ (none : Option Tmp) = some s) := fun h => by have := h.2; cases this
      rw [if_neg hno]
      cases hL : L m
      · exact ih
      · exact ih
    | some d =>
      cases hL : L m
      · simpa using ih
      · simp only [if_true, putA, true_and, Option.some.injEq]
        by_cases e : d = s
        · subst e; simp [hl, hs]
        · rw [if_neg e]
          have : (List.set (FL os rs L F m) d (rs.getD m .any)).getD s .any = (FL os rs L F m).getD s .any := by simp [List.getElem?_set, e]
          rw [this, ih]
theorem FL_ext {os : List Oper} {rs : List AV} {L L' : Nat → Bool} {F : List AV} {m m' : Nat} {G : List AV} (hG : G.length = F.length) (h : ∀ s, s < F.length → G.getD s .any = valL os rs L F s m) : G = FL os rs L F m := by
  refine List.ext_getElem? fun s => ?_
  rcases Nat.lt_or_ge s F.length with hs | hs
  · have h1 := h s hs
    rw [← FL_get os rs L F hs m] at h1
    have h2 : G[s]? = some (G.getD s .any) := by simp [hG, hs]
    have h3 : (FL os rs L F m)[s]? = some ((FL os rs L F m).getD s .any) := by simp [FL_length, hs]
    rw [h2, h3, h1]
  · rw [List.getElem?_eq_none (by omega), List.getElem?_eq_none (by rw [FL_length]; omega)]

/-- The slots that an operation looks at. -/
def looks (os : List Oper) (o : Oper) : List Nat :=
  (o.op.operands.toList.filterMap fun | .tmp t => some t | _ => none) ++
  (match o.guard with
   | some (g, _) => ((os[g]?).bind (·.dst)).toList
   | none => [])
def nub : List Nat → List Nat
  | [] => []
  | x :: l => if (nub l).contains x then nub l else x :: nub l
theorem mem_nub {x : Nat} : ∀ {l : List Nat}, x ∈ nub l ↔ x ∈ l
  | [] => Iff.rfl
  | y :: l => by
    have ih : x ∈ nub l ↔ x ∈ l := mem_nub
    unfold nub
    split
    · rename_i h
      rw [ih, List.mem_cons]
      refine ⟨.inr, fun h' => h'.elim (fun e => ?_) id⟩
      subst e
      exact ih.1 (List.contains_iff_mem.1 h)
    · rw [List.mem_cons, List.mem_cons, ih]
/-- The operations that must come ahead, by number. -/
def predsStep (acc : List (List Nat)) (o : Oper) : List (List Nat) := acc ++ [nub ((o.after.toList.filter (Region.binds .any)).flatMap fun e => e.on :: acc.getD e.on [])]
def preds (os : List Oper) : List (List Nat) := os.foldl predsStep []
def clash (os : List Oper) (a b : Oper) : Bool :=
  (match a.dst with
   | some d => (looks os b).contains d || b.dst == some d
   | none => false) ||
  (match b.dst with
   | some d => (looks os a).contains d
   | none => false)
/-- Whatever two operations touch one slot, the edges order them. -/
def drawOK (os : List Oper) : Bool :=
  let ps := preds os
  (List.range os.length).all fun j => match os[j]? with
    | some b => (b.after.toList.all fun e => !Region.binds .any e || decide (e.on < j)) &&
      (List.range j).all fun i => match os[i]? with
        | some a => !clash os a b || (ps.getD j []).contains i
        | none => true
    | none => true

theorem preds_len : ∀ (os : List Oper) (acc : List (List Nat)), (os.foldl predsStep acc).length = acc.length + os.length
  | [], acc => by simp
  | o :: os, acc => by simp [preds_len os, predsStep]; omega
theorem preds_get : ∀ (os : List Oper) (acc : List (List Nat)) (j : Nat), j < acc.length → (os.foldl predsStep acc)[j]? = acc[j]?
  | [], acc, j, _ => rfl
  | o :: os, acc, j, h => by
    simp only [List.foldl_cons]
    rw [preds_get os _ j (by simp [predsStep]; omega)]
    unfold predsStep
    rw [List.getElem?_append_left h]

theorem preds_spec : ∀ (os : List Oper) (acc : List (List Nat)) (j : Nat) (o : Oper), os[j]? = some o → (os.foldl predsStep acc).getD (acc.length + j) [] = nub ((o.after.toList.filter (Region.binds .any)).flatMap fun e => e.on :: (if e.on < acc.length + j then (os.foldl predsStep acc).getD e.on [] else []))
  | [], acc, j, o, h => by simp at h
  | o' :: os, acc, 0, o, h => by
    simp only [List.getElem?_cons_zero, Option.some.injEq] at h
    subst h
    simp only [List.foldl_cons, Nat.add_zero]
    have h1 : (os.foldl predsStep (predsStep acc o')).getD acc.length [] = nub ((o'.after.toList.filter (Region.binds .any)).flatMap fun e => e.on :: acc.getD e.on []) := by
      rw [List.getD_eq_getElem?_getD, preds_get os _ _ (by simp [predsStep])]
      unfold predsStep
      rw [List.getElem?_append_right (Nat.le_refl _)]
      simp
    rw [h1]
    congr 2
    funext e
    congr 1
    split
    · rename_i hlt
      rw [List.getD_eq_getElem?_getD, List.getD_eq_getElem?_getD, preds_get os _ _ (by simp [predsStep]; omega)]
      unfold predsStep
      rw [List.getElem?_append_left hlt]
    · rename_i hge
      rw [List.getD_eq_getElem?_getD, List.getElem?_eq_none (by omega)]
      rfl
  | o' :: os, acc, j + 1, o, h => by
    simp only [List.foldl_cons]
    have := preds_spec os (predsStep acc o') j o (by simpa using h)
    have e : (predsStep acc o').length + j = acc.length + (j + 1) := by simp [predsStep]; omega
    rw [e] at this
    exact this
theorem preds_at {os : List Oper} {j : Nat} {o : Oper} (h : os[j]? = some o) : (preds os).getD j [] = nub ((o.after.toList.filter (Region.binds .any)).flatMap fun e => e.on :: (if e.on < j then (preds os).getD e.on [] else [])) := by
  have := preds_spec os [] j o h
  simp only [List.length_nil, Nat.zero_add] at this
  exact this

/-- Closed under what must come ahead. -/
def Closed (os : List Oper) (L : Nat → Bool) : Prop := ∀ j o, os[j]? = some o → L j = true → ∀ e ∈ o.after.toList, Region.binds .any e = true → L e.on = true
theorem closed_preds {os : List Oper} {L : Nat → Bool} (hc : Closed os L) (hlt : ∀ j o, os[j]? = some o → ∀ e ∈ o.after.toList, Region.binds .any e = true → e.on < j) : ∀ n j, j < n → ∀ o, os[j]? = some o → (∀ e ∈ o.after.toList, Region.binds .any e = true → L e.on = true) → ∀ i ∈ (preds os).getD j [], L i = true := by
  intro n
  induction n with
  | zero => intro j hj; omega
  | succ n ih =>
    intro j hj o ho hL i hi
    rw [preds_at ho, mem_nub] at hi
    obtain ⟨e, he, hi⟩ := List.mem_flatMap.1 hi
    obtain ⟨he1, he2⟩ := List.mem_filter.1 he
    have hon := hL e he1 he2
    rcases List.mem_cons.1 hi with rfl | hi
    · exact hon
    · rw [if_pos (hlt j o ho e he1 he2)] at hi
      have hlt' := hlt j o ho e he1 he2
      have hjlen := (List.getElem?_eq_some_iff.1 ho).1
      have ho' : os[e.on]? = some (os[e.on]'(by omega)) := List.getElem?_eq_getElem (by omega)
      exact ih e.on (by omega) _ ho' (fun e' h1 h2 => hc _ _ ho' hon e' h1 h2) i hi

theorem FL_cons (o : Oper) (os : List Oper) (r : AV) (rs : List AV) (F : List AV) : ∀ m, FL (o :: os) (r :: rs) (fun _ => true) F (m + 1) = FL os rs (fun _ => true) (putA F o.dst r) m
  | 0 => by simp [FL]
  | m + 1 => by
    have ih := FL_cons o os r rs F m
    rw [FL, if_pos rfl, ih, FL, if_pos rfl]
    simp
theorem qrun_spec {K : List AV → Prop} : ∀ (l : List Oper) (F : List AV) (rs : List AV), QRun P ops H K l F rs → (∀ i o, l[i]? = some o → QV P ops o (FL l rs (fun _ => true) F i) H (rs.getD i .any)) ∧ K (FL l rs (fun _ => true) F l.length)
  | [], F, rs, h => ⟨fun i o hi => by simp at hi, h.2⟩
  | o :: l, F, rs, h => by
    obtain ⟨r, rs', rfl, h1, h2⟩ := h
    obtain ⟨g1, g2⟩ := qrun_spec l _ rs' h2
    refine ⟨fun i o' hi => ?_, by rw [List.length_cons, FL_cons]; exact g2⟩
    cases i with
    | zero =>
      simp only [List.getElem?_cons_zero, Option.some.injEq] at hi
      subst hi
      exact h1
    | succ i =>
      rw [FL_cons]
      exact g1 i o' (by simpa using hi)

theorem draw_spec {os : List Oper} (h : drawOK os = true) : (∀ j o, os[j]? = some o → ∀ e ∈ o.after.toList, Region.binds .any e = true → e.on < j) ∧
    ∀ i j a b, i < j → os[i]? = some a → os[j]? = some b → clash os a b = true → i ∈ (preds os).getD j [] := by
  simp only [drawOK, List.all_eq_true, List.mem_range] at h
  constructor
  · intro j o ho e he hb
    have := h j (List.getElem?_eq_some_iff.1 ho).1
    rw [ho] at this
    simp only [Bool.and_eq_true, List.all_eq_true] at this
    have := this.1 e he
    simpa [hb] using this
  · intro i j a b hij ha hb hc
    have := h j (List.getElem?_eq_some_iff.1 hb).1
    rw [hb] at this
    simp only [Bool.and_eq_true, List.all_eq_true, List.mem_range] at this
    have := this.2 i hij
    rw [ha] at this
    simp only [hc, Bool.not_true, Bool.false_or] at this
    simpa using this

/-- Where an operation that may go next looks, the frame is as in the text's order. -/
theorem val_agree {os : List Oper} {rs F : List AV} {L : Nat → Bool} {i s : Nat} (hw : ∀ k o, os[k]? = some o → o.dst = some s → L k = decide (k < i)) : ∀ m, valL os rs L F s m = valL os rs (fun _ => true) F s (min m i)
  | 0 => by simp [valL]
  | m + 1 => by
    have ih := val_agree (rs := rs) (F := F) hw m
    rw [valL]
    by_cases hd : (os[m]?).bind (·.dst) = some s
    · obtain ⟨o, ho, hs⟩ := Option.bind_eq_some_iff.1 hd
      have hL := hw m o ho hs
      by_cases hm : m < i
      · rw [if_pos ⟨by rw [hL]; simpa using hm, hd⟩, show min (m + 1) i = m + 1 by omega, valL, if_pos ⟨rfl, hd⟩]
      · rw [if_neg (by rw [hL]; simp [hm]), ih, show min (m + 1) i = min m i by omega]
    · rw [if_neg (by simp [hd]), ih]
      by_cases hm : m < i
      · rw [show min (m + 1) i = m + 1 by omega, show min m i = m by omega, valL, if_neg (by simp [hd])]
      · rw [show min (m + 1) i = min m i by omega]

theorem val_last {os : List Oper} {rs F : List AV} {L L' : Nat → Bool} {i s : Nat} {o : Oper} (ho : os[i]? = some o) (hL' : ∀ k, L' k = (L k || k == i)) (hw : ∀ k o', os[k]? = some o' → o'.dst = some s → L k = decide (k < i)) (hs : o.dst = some s) : ∀ m, i < m → valL os rs L' F s m = rs.getD i .any
  | 0, h => by omega
  | m + 1, h => by
    rw [valL]
    by_cases hm : m = i
    · subst hm
      rw [if_pos ⟨by rw [hL']; simp, by rw [ho]; exact hs⟩]
    · rw [if_neg]
      · exact val_last ho hL' hw hs m (by omega)
      · rintro ⟨h1, h2⟩
        obtain ⟨o', ho', hs'⟩ := Option.bind_eq_some_iff.1 h2
        rw [hL', hw m o' ho' hs'] at h1
        simp at h1
        omega
theorem val_same {os : List Oper} {rs F : List AV} {L L' : Nat → Bool} {i s : Nat} {o : Oper} (ho : os[i]? = some o) (hL' : ∀ k, L' k = (L k || k == i)) (hs : o.dst ≠ some s) : ∀ m, valL os rs L' F s m = valL os rs L F s m
  | 0 => rfl
  | m + 1 => by
    have ih := val_same (rs := rs) (F := F) ho hL' hs m
    rw [valL, valL, ih, hL']
    by_cases hm : m = i
    · subst hm
      rw [ho]
      simp [hs]
    · simp [hm]

theorem operand_look {os : List Oper} {o : Oper} {t : Nat} (h : Operand.tmp t ∈ o.op.operands.toList) : t ∈ looks os o :=
  List.mem_append_left _ (List.mem_filterMap.2 ⟨_, h, rfl⟩)

theorem agree_of {os : List Oper} {o : Oper} {F G : List AV} (hl : F.length = G.length) (h : ∀ s ∈ looks os o, s < F.length → G.getD s .any = F.getD s .any) : Agree os.toArray o F G := by
  have hget : ∀ s ∈ looks os o, G[s]? = F[s]? := fun s hs => by
    rcases Nat.lt_or_ge s F.length with h1 | h1
    · have := h s hs h1
      have e1 : G[s]? = some (G.getD s .any) := by simp [← hl, h1]
      have e2 : F[s]? = some (F.getD s .any) := by simp [h1]
      rw [e1, e2, this]
    · rw [List.getElem?_eq_none (by omega), List.getElem?_eq_none h1]
  constructor
  · intro x hx
    cases x with
    | tmp t => simp only [evA, List.getD_eq_getElem?_getD, hget t (operand_look hx)]
    | const v => rfl
    | global g => rfl
    | func f => rfl
  · intro j b hg
    unfold guardB
    cases hd : (os.toArray[j]?).bind (·.dst) with
    | none => rfl
    | some d =>
      simp only
      rw [hget d (List.mem_append_right _ (by rw [hg]; simp at hd ⊢; simpa using hd))]

theorem any_run {l : List Oper} {rs F : List AV} {Q : Exit → List AV → Hp → Prop} (hok : drawOK l = true) (hqv : ∀ i o, l[i]? = some o → QV P l.toArray o (FL l rs (fun _ => true) F i) H (rs.getD i .any)) (hK : Q .normal (FL l rs (fun _ => true) F l.length) H) (w0 : NW) :
    ∀ (fuel : Nat) (listed : Array Bool), listed.size = l.length → Closed l (fun i => listed.getD i false) → (List.range l.length).countP (fun i => !listed.getD i false) = fuel →
      ∀ (w : NW) tm, RelW w H → RelF w (FL l rs (fun i => listed.getD i false) F l.length) tm → Ext w0 H w H → wpAny P .any l.toArray (Post Q w0 H) fuel listed ⟨tm, []⟩ w.toWorld := by
  obtain ⟨hlt, hcl⟩ := draw_spec hok
  -- when all are done
  have fin : ∀ (listed : Array Bool), (∀ i, i < l.length → listed.getD i false = true) → ∀ (w : NW) tm, RelW w H → RelF w (FL l rs (fun i => listed.getD i false) F l.length) tm → Ext w0 H w H → Post Q w0 H .normal ⟨tm, []⟩ w.toWorld := by
    intro listed hall w tm h1 h2 h3
    have e : FL l rs (fun i => listed.getD i false) F l.length = FL l rs (fun _ => true) F l.length := by
      have gen : ∀ m, m ≤ l.length → FL l rs (fun i => listed.getD i false) F m = FL l rs (fun _ => true) F m := by
        intro m
        induction m with
        | zero => intro _; rfl
        | succ m ih => intro hm; rw [FL, FL, ih (by omega), hall m (by omega)]
      exact gen _ (Nat.le_refl _)
    rw [e] at h2
    exact ⟨tm, _, H, w, rfl, rfl, hK, h1, h2, h3.toB⟩
  intro fuel
  induction fuel with
  | zero =>
    intro listed hsz hcls hcnt w tm h1 h2 h3
    have hall : ∀ i, i < l.length → listed.getD i false = true := fun i hi => by
      have := (List.countP_eq_zero.1 hcnt) i (List.mem_range.2 hi)
      simpa using this
    refine ⟨?_, fin listed hall w tm h1 h2 h3⟩
    rw [List.eq_nil_iff_forall_not_mem]
    intro j hj
    obtain ⟨hj0, o, ho, _⟩ := mem_ready.1 hj
    have hjl : j < l.length := by have := (Array.getElem?_eq_some_iff.1 ho).1; simpa using this
    have := hall j hjl
    simp [hsz, hjl] at this hj0
    rw [this] at hj0; cases hj0
  | succ fuel ih =>
    intro listed hsz hcls hcnt w tm h1 h2 h3
    refine ⟨fun hnil => ?_, fun i hi => ?_⟩
    · -- some operation is ready
      exfalso
      have hex : ∃ i, i < l.length ∧ listed.getD i false = false := by
        have hpos : 0 < (List.range l.length).countP (fun i => !listed.getD i false) := by omega
        obtain ⟨i, hi, hp⟩ := List.countP_pos_iff.1 hpos
        exact ⟨i, List.mem_range.1 hi, by simpa using hp⟩
      obtain ⟨i, ⟨hi, hf⟩, hleast⟩ := exists_least hex
      have ho : l[i]? = some l[i] := List.getElem?_eq_getElem hi
      have : i ∈ Region.ready .any l.toArray listed := mem_ready.2 ⟨by simp [hsz, hi] at hf ⊢; exact hf, l[i], by simp [hi], fun e he hb => by
        have h4 := hlt i _ ho e (by simpa using he) hb
        cases hv : listed.getD e.on false with
        | true => rfl
        | false => have := hleast e.on ⟨by omega, hv⟩; omega⟩
      rw [hnil] at this
      cases this
    · obtain ⟨hi0, o, ho, hpre⟩ := mem_ready.1 hi
      have ho' : l[i]? = some o := by simpa using ho
      have hil := (List.getElem?_eq_some_iff.1 ho').1
      have hif : listed.getD i false = false := by simp [hsz, hil] at hi0 ⊢; exact hi0
      have hpre' : ∀ e ∈ o.after.toList, Region.binds .any e = true → listed.getD e.on false = true := fun e he hb => hpre e (by simpa using he) hb
      have hbefore := closed_preds hcls hlt (i + 1) i (by omega) o ho' hpre'
      -- who writes where o touches
      have hwr : ∀ k o' s, l[k]? = some o' → o'.dst = some s → (s ∈ looks l o ∨ o.dst = some s) → listed.getD k false = decide (k < i) := by
        intro k o' s hk hs hcase
        rcases Nat.lt_trichotomy k i with h | h | h
        · rw [decide_eq_true h]
          refine hbefore k (hcl k i o' o h hk ho' ?_)
          unfold clash
          rw [hs]
          rcases hcase with h5 | h5
          · simp [h5]
          · simp [h5]
        · subst h; simpa using hif
        · rw [decide_eq_false (by omega)]
          cases hv : listed.getD k false with
          | false => rfl
          | true =>
            have hki : i ∈ (preds l).getD k [] := hcl i k o o' h ho' hk (by
              unfold clash
              rw [hs]
              rcases hcase with h5 | h5
              · simp [h5]
              · simp [h5])
            have := closed_preds hcls hlt (k + 1) k (by omega) o' hk (fun e he hb => hcls k o' hk hv e he hb) i hki
            rw [hif] at this; cases this
      have hag : Agree l.toArray o (FL l rs (fun _ => true) F i) (FL l rs (fun i => listed.getD i false) F l.length) := by
        refine agree_of (by rw [FL_length, FL_length]) fun s hs hlen => ?_
        rw [FL_length] at hlen
        rw [FL_get _ _ _ _ hlen, FL_get _ _ _ _ hlen, val_agree (fun k o' hk hd => hwr k o' s hk hd (.inl hs)), show min l.length i = i by omega]
      have hop := hqv i o ho' _ hag
      have hL' : ∀ k, (listed.setIfInBounds i true).getD k false = (listed.getD k false || k == i) := fun k => by
        by_cases hk : k = i
        · subst hk; simp [hsz, hil]
        · simp [Array.getElem?_setIfInBounds_ne (Ne.symm hk), hk]
      have hnext : putA (FL l rs (fun i => listed.getD i false) F l.length) o.dst (rs.getD i .any) = FL l rs (fun k => (listed.setIfInBounds i true).getD k false) F l.length := by
        refine FL_ext (m' := 0) (L' := fun _ => true) (by cases o.dst <;> simp [putA, FL_length]) fun s hs => ?_
        by_cases hd : o.dst = some s
        · rw [val_last (L := fun i => listed.getD i false) ho' hL' (fun k o' hk hd' => hwr k o' s hk hd' (.inr hd)) hd _ hil, hd]
          simp [putA, FL_length, hs]
        · rw [val_same (L := fun i => listed.getD i false) ho' hL' hd, ← FL_get _ _ _ _ hs]
          cases hd' : o.dst with
          | none => rfl
          | some d =>
            have : d ≠ s := fun e => hd (by rw [hd', e])
            simp [putA, List.getElem?_set, this]
      have := hop w tm (Post Q w0 H) (wpAny P .any l.toArray (Post Q w0 H) fuel (listed.setIfInBounds i true)) h1 h2 (by
        rintro tm' w' F' H' ⟨rfl, rfl⟩ g1 g2 g3
        refine ih (listed.setIfInBounds i true) (by simpa using hsz) ?_ ?_ w' tm' g1 (by rw [← hnext]; exact g2) (h3.trans g3)
        · intro j o' hj hLj e he hb
          simp only [hL'] at hLj ⊢
          rcases Bool.or_eq_true_iff.1 hLj with h6 | h6
          · have h7 : listed.getD e.on false = true := hcls j o' hj h6 e he hb
            rw [h7]; rfl
          · obtain rfl : j = i := by simpa using h6
            rw [ho'] at hj; cases hj
            rw [hpre' e he hb]; rfl
        · have : ∀ (n : Nat), i < n → (List.range n).countP (fun k => !(listed.setIfInBounds i true).getD k false) + 1 = (List.range n).countP (fun k => !listed.getD k false) := by
            intro n
            induction n with
            | zero => intro h; omega
            | succ n ihn =>
              intro h
              rw [List.range_succ, List.countP_append, List.countP_append]
              by_cases hn : n = i
              · subst hn
                have : (List.range n).countP (fun k => !(listed.setIfInBounds n true).getD k false) = (List.range n).countP (fun k => !listed.getD k false) := by
                  refine List.countP_congr fun k hk => ?_
                  rw [hL']
                  have : k ≠ n := by have := List.mem_range.1 hk; omega
                  simp [this]
                rw [this]
                simp only [List.countP_singleton, hL', hif]
                simp
              · rw [← ihn (by omega)]
                simp only [List.countP_singleton, hL']
                have : (n == i) = false := by simpa using hn
                rw [this, Bool.or_false]
                omega
          have := this l.length hil
          omega)
      unfold wpOp
      rw [ho]
      exact this

/-- A region that leaves its order open. -/
theorem awp_region_draw {id : Nat} {l : List Oper} {F : List AV} {Q : Exit → List AV → Hp → Prop} (hm : P.follows .mixedOrders = true) (hok : drawOK l = true) (h : vclQ P l.toArray H (fun F' => Q .normal F' H) l F) : AWP P (.region id l.toArray true) Q F H := fun w tm h1 h2 => by
  obtain ⟨rs, hrun⟩ := qrun_of l F h
  obtain ⟨hqv, hK⟩ := qrun_spec l F rs hrun
  have hz : ∀ i, (Array.replicate l.toArray.size false).getD i false = false := fun i => by
    by_cases hi : i < l.length <;> simp [Array.getElem?_replicate, hi]
  refine wp_region_any hm ?_
  have e0 : FL l rs (fun i => (Array.replicate l.toArray.size false).getD i false) F l.length = F := by
    have gen : ∀ m, FL l rs (fun i => (Array.replicate l.toArray.size false).getD i false) F m = F := by
      intro m
      induction m with
      | zero => rfl
      | succ m ih => rw [FL, hz, if_neg (by simp), ih]
    exact gen _
  exact any_run hok hqv hK w l.toArray.size (Array.replicate l.toArray.size false) (by simp) (fun j o _ hj => by have := (hz j).symm.trans hj; cases this) (by
    rw [List.countP_eq_length.2 (fun i _ => by rw [hz]; rfl)]
    simp) (w.to w.drew) tm h1.drew (by rw [e0]; exact h2.ext (Ext.drew w H)) (Ext.drew w H)
end
section
variable {P : Program} {ops : Array Oper} {H : Hp} {K : List AV → Prop} {F : List AV} {dst : Option Tmp} {ty : TypeId} {pos : String} {after : Array Edge} {rest : List Oper}
@[go_sem] theorem vclQ_nil : vclQ P ops H K [] F = K F := (rfl)
@[go_sem] theorem vclQ_move (x : Operand) : vclQ P ops H K (⟨dst, .move x, ty, pos, after, none⟩ :: rest) F = vclQ P ops H K rest (putA F dst (evA F x)) := by simp [vclQ, vq]
@[go_sem] theorem vclQ_assign (x : Operand) : vclQ P ops H K (⟨dst, .assign x, ty, pos, after, none⟩ :: rest) F = vclQ P ops H K rest (putA F dst (evA F x)) := by simp [vclQ, vq]
@[go_sem] theorem vclQ_pick (c a b : Operand) : vclQ P ops H K (⟨dst, .pick c a b, ty, pos, after, none⟩ :: rest) F = ((qPick (evA F c) (evA F a) (evA F b)).1 ∧ vclQ P ops H K rest (putA F dst (qPick (evA F c) (evA F a) (evA F b)).2)) := (rfl)
@[go_sem] theorem vclQ_nilCheck (x : Operand) : vclQ P ops H K (⟨dst, .nilCheck x, ty, pos, after, none⟩ :: rest) F = ((qNil (evA F x)).1 ∧ vclQ P ops H K rest (putA F dst (qNil (evA F x)).2)) := (rfl)
@[go_sem] theorem vclQ_unOp (op : UnOp) (t : TypeId) (x : Operand) : vclQ P ops H K (⟨dst, .unOp op t x, ty, pos, after, none⟩ :: rest) F = ((qUn op (evA F x)).1 ∧ vclQ P ops H K rest (putA F dst (qUn op (evA F x)).2)) := (rfl)
@[go_sem] theorem vclQ_load (t : TypeId) (x : Operand) : vclQ P ops H K (⟨dst, .load t x, ty, pos, after, none⟩ :: rest) F = ((qLoad P H t (evA F x)).1 ∧ vclQ P ops H K rest (putA F dst (qLoad P H t (evA F x)).2)) := (rfl)
@[go_sem] theorem vclQ_fieldAddr (t : TypeId) (x : Operand) (f : Nat) : vclQ P ops H K (⟨dst, .fieldAddr t x f, ty, pos, after, none⟩ :: rest) F = ((qFieldAddr P t (evA F x) f).1 ∧ vclQ P ops H K rest (putA F dst (qFieldAddr P t (evA F x) f).2)) := (rfl)
@[go_sem] theorem vclQ_field (t : TypeId) (x : Operand) (f : Nat) : vclQ P ops H K (⟨dst, .field t x f, ty, pos, after, none⟩ :: rest) F = ((qField P t (evA F x) f).1 ∧ vclQ P ops H K rest (putA F dst (qField P t (evA F x) f).2)) := (rfl)
@[go_sem] theorem vclQ_indexAddr (t : TypeId) (x i : Operand) : vclQ P ops H K (⟨dst, .indexAddr t x i, ty, pos, after, none⟩ :: rest) F = ((qIndexAddr P t (evA F x) (evA F i)).1 ∧ vclQ P ops H K rest (putA F dst (qIndexAddr P t (evA F x) (evA F i)).2)) := (rfl)
@[go_sem] theorem vclQ_index (t : TypeId) (x i : Operand) : vclQ P ops H K (⟨dst, .index t x i, ty, pos, after, none⟩ :: rest) F = ((qIndex P t (evA F x) (evA F i)).1 ∧ vclQ P ops H K rest (putA F dst (qIndex P t (evA F x) (evA F i)).2)) := (rfl)
@[go_sem] theorem vclQ_extract (x : Operand) (i : Nat) : vclQ P ops H K (⟨dst, .extract x i, ty, pos, after, none⟩ :: rest) F = ((qExtract (evA F x) i).1 ∧ vclQ P ops H K rest (putA F dst (qExtract (evA F x) i).2)) := (rfl)
@[go_sem] theorem vclQ_slice (t : TypeId) (a : Operand) (lo hi mx : Option Operand) : vclQ P ops H K (⟨dst, .slice t a lo hi mx, ty, pos, after, none⟩ :: rest) F = ((qSlice P t (evA F a) (lo.map (evA F)) (hi.map (evA F)) (mx.map (evA F))).1 ∧ vclQ P ops H K rest (putA F dst (qSlice P t (evA F a) (lo.map (evA F)) (hi.map (evA F)) (mx.map (evA F))).2)) := (rfl)
@[go_sem] theorem vclQ_makeFunc (fn : Fn) (a b : Array Operand) : vclQ P ops H K (⟨dst, .makeFunc fn a b, ty, pos, after, none⟩ :: rest) F = ((qFunc fn (a.toList.map (evA F)) (b.toList.map (evA F))).1 ∧ vclQ P ops H K rest (putA F dst (qFunc fn (a.toList.map (evA F)) (b.toList.map (evA F))).2)) := (rfl)
@[go_sem] theorem vclQ_makeIface (t : TypeId) (x : Operand) : vclQ P ops H K (⟨dst, .makeInterface t x, ty, pos, after, none⟩ :: rest) F = ((qIface P t (evA F x)).1 ∧ vclQ P ops H K rest (putA F dst (qIface P t (evA F x)).2)) := (rfl)
@[go_sem] theorem vclQ_convert (s d : TypeId) (x : Operand) : vclQ P ops H K (⟨dst, .convert s d x, ty, pos, after, none⟩ :: rest) F = ((qConv P s d (evA F x)).1 ∧ vclQ P ops H K rest (putA F dst (qConv P s d (evA F x)).2)) := (rfl)
@[go_sem] theorem vclQ_build (t : TypeId) (ps : Array (Nat × Operand)) : vclQ P ops H K (⟨dst, .build t ps, ty, pos, after, none⟩ :: rest) F = ((qBuild P t (ps.toList.map fun p => (p.1, evA F p.2))).1 ∧ vclQ P ops H K rest (putA F dst (qBuild P t (ps.toList.map fun p => (p.1, evA F p.2))).2)) := (rfl)
@[go_sem] theorem vclQ_len (as : Array Operand) (ts : Array TypeId) : vclQ P ops H K (⟨dst, .call ⟨.builtin .len, as, ts⟩, ty, pos, after, none⟩ :: rest) F = ((qBuiltin P H .len ts.toList (as.toList.map (evA F))).1 ∧ vclQ P ops H K rest (putA F dst (qBuiltin P H .len ts.toList (as.toList.map (evA F))).2)) := (rfl)
@[go_sem] theorem vclQ_cap (as : Array Operand) (ts : Array TypeId) : vclQ P ops H K (⟨dst, .call ⟨.builtin .cap, as, ts⟩, ty, pos, after, none⟩ :: rest) F = ((qBuiltin P H .cap ts.toList (as.toList.map (evA F))).1 ∧ vclQ P ops H K rest (putA F dst (qBuiltin P H .cap ts.toList (as.toList.map (evA F))).2)) := (rfl)
@[go_sem] theorem vclQ_max (as : Array Operand) (ts : Array TypeId) : vclQ P ops H K (⟨dst, .call ⟨.builtin .max, as, ts⟩, ty, pos, after, none⟩ :: rest) F = ((qBuiltin P H .max ts.toList (as.toList.map (evA F))).1 ∧ vclQ P ops H K rest (putA F dst (qBuiltin P H .max ts.toList (as.toList.map (evA F))).2)) := (rfl)
@[go_sem] theorem vclQ_min (as : Array Operand) (ts : Array TypeId) : vclQ P ops H K (⟨dst, .call ⟨.builtin .min, as, ts⟩, ty, pos, after, none⟩ :: rest) F = ((qBuiltin P H .min ts.toList (as.toList.map (evA F))).1 ∧ vclQ P ops H K rest (putA F dst (qBuiltin P H .min ts.toList (as.toList.map (evA F))).2)) := (rfl)
@[go_sem] theorem vclQ_binOp (op : BinOp) (t : TypeId) (x y : Operand) (t' : TypeId) : vclQ P ops H K (⟨dst, .binOp op t x y t', ty, pos, after, none⟩ :: rest) F = ((qBin P op t (evA F x) (evA F y)).1 ∧ vclQ P ops H K rest (putA F dst (qBin P op t (evA F x) (evA F y)).2)) := (rfl)
@[go_sem] theorem vclQ_call (f : Operand) (as : Array Operand) (ts : Array TypeId) : vclQ P ops H K (⟨dst, .call ⟨.value f, as, ts⟩, ty, pos, after, none⟩ :: rest) F = ∃ r, (vCall P (evA F f) (as.toList.map (evA F)) H fun r' H' => r' = r ∧ H' = H) ∧ vclQ P ops H K rest (putA F dst r) := (rfl)
@[go_sem] theorem vclQ_lit (t : TypeId) (n : Nat) (ps : Array (Nat × Operand)) : vclQ P ops H K (⟨dst, .buildSlice t n ps, ty, pos, after, none⟩ :: rest) F = vLitT P t n (ps.toList.map fun p => (p.1, evA F p.2)) fun r => vclQ P ops H K rest (putA F dst r) := (rfl)
@[go_sem] theorem vclQ_guard (op : Op) (j : Nat) (want : Bool) : vclQ P ops H K (⟨dst, op, ty, pos, after, some (j, want)⟩ :: rest) F = match guardB ops F j want with
      | some b => (isCallV op || guardQuiet op) = true ∧ vcG P F H b (fun r => vclQ P ops H K rest (putA F dst r)) op
      | none => False := by simp [vclQ]
end
end Go.Gd
