/- Lists of Lean data as slices; small rules for the walks. No conditions. -/
import Derived.Test.YtemapkbfpkdddaaFcJ
set_option linter.all false
namespace Go.Fc
open Go

def nth {α : Type} [Inhabited α] (l : List α) (i : Nat) : α := l.getD i default
theorem nth_get {α : Type} [Inhabited α] {l : List α} {i : Nat} (h : i < l.length) : nth l i = l[i] := by simp [nth, h]
theorem take_nth {α : Type} [Inhabited α] {l : List α} {i : Nat} (h : i < l.length) : l.take (i + 1) = l.take i ++ [nth l i] := by rw [nth_get h, List.take_succ_eq_append_getElem h]
theorem nth_map {α β : Type} [Inhabited α] [Inhabited β] (f : α → β) {l : List α} {i : Nat} (h : i < l.length) : nth (l.map f) i = f (nth l i) := by rw [nth_get h, nth_get (by simpa using h)]; simp

/-- A slice that reads as the list l, each element's cells by 'enc'. -/
@[reducible] def slOf {α : Type} [Inhabited α] (enc : α → List AV) (sz : Nat) (l : List α) : AV := .sl false sz l.length fun i => enc (nth l i)

theorem Own.freeze_list {α : Type} [Inhabited α] {enc : α → List AV} {H0 H : Hp} {e : TypeId} {sz : Nat} {a : AV} {l : List α} (h : Own H0 H e sz a (l.map enc)) : RLe a H (slOf enc sz l) H0 :=
  h.freeze (by simp) fun i hi => by simp [nth, hi]
theorem src_list {α : Type} [Inhabited α] {enc : α → List AV} {H : Hp} {sz : Nat} {x : Bool} (l : List α) (ho : ∀ y ∈ l, (enc y).length = sz ∧ ones (enc y) = true) : Src H sz (.sl x sz l.length fun i => enc (nth l i)) (l.map enc) :=
  src_sl (by simp) (fun i hi => by simp [nth, hi]) fun i hi => by rw [nth_get hi]; exact ho _ (List.getElem_mem hi)
theorem src_lit {H : Hp} {sz : Nat} {x : Bool} (ys : List (List AV)) (ho : ∀ y ∈ ys, y.length = sz ∧ ones y = true) : Src H sz (.sl x sz ys.length fun i => ys.getD i []) ys :=
  src_sl rfl (fun _ _ => rfl) fun i hi => by
    have : ys.getD i [] = ys[i] := by simp [hi]
    rw [this]; exact ho _ (List.getElem_mem hi)

theorem aops_k {P : Program} {ops : Array Oper} {F : List AV} {H : Hp} {K K' : List AV → Hp → Prop} {l : List Oper} (h : AOps P ops K l F H) (hk : ∀ F H, K F H → K' F H) : AOps P ops K' l F H :=
  fun w tm Q h1 h2 hq => h w tm Q h1 h2 fun tm' w' F' H' k => hq tm' w' F' H' (hk _ _ k)
@[go_sem] theorem athen_normal (next : List AV → Hp → Prop) (Q : Exit → List AV → Hp → Prop) (F : List AV) (H : Hp) : AThen next Q .normal F H = next F H := (rfl)
@[go_sem] theorem athen_ret (next : List AV → Hp → Prop) (Q : Exit → List AV → Hp → Prop) (F : List AV) (H : Hp) : AThen next Q .ret F H = Q .ret F H := (rfl)
@[go_sem] theorem athen_exit (next : List AV → Hp → Prop) (Q : Exit → List AV → Hp → Prop) (id : Nat) (F : List AV) (H : Hp) : AThen next Q (.exit id) F H = Q (.exit id) F H := (rfl)
@[go_sem] theorem ablock_normal (id : Nat) (Q : Exit → List AV → Hp → Prop) (F : List AV) (H : Hp) : ABlock id Q .normal F H = Q .normal F H := (rfl)
@[go_sem] theorem ablock_ret (id : Nat) (Q : Exit → List AV → Hp → Prop) (F : List AV) (H : Hp) : ABlock id Q .ret F H = Q .ret F H := (rfl)
@[go_sem] theorem ablock_exit (id : Nat) (Q : Exit → List AV → Hp → Prop) (F : List AV) (H : Hp) : ABlock id Q (.exit id) F H = Q .normal F H := by simp [ABlock]
theorem ablock_other {id id' : Nat} (Q : Exit → List AV → Hp → Prop) (F : List AV) (H : Hp) (h : id' ≠ id) : ABlock id Q (.exit id') F H = Q (.exit id') F H := by simp [ABlock, h]

-- what follows is hidden from simp: an argument that a later one's type hangs on is held fixed
inductive Dep {α : Type} (a : α) : Type
  | mk
def AP (K : AV → Hp → Prop) (_ : Dep K) : AV → Hp → Prop := K
def AP1 (K : AV → Prop) (_ : Dep K) : AV → Prop := K
@[go_sem] theorem ap_apply (K : AV → Hp → Prop) (d : Dep K) (r : AV) (H : Hp) : AP K d r H = K r H := (rfl)
@[go_sem] theorem ap1_apply (K : AV → Prop) (d : Dep K) (r : AV) : AP1 K d r = K r := (rfl)
theorem ap_intro {K : AV → Hp → Prop} {d : Dep K} {r : AV} {H : Hp} (h : K r H) : AP K d r H := h
def vGuard (o : Option Bool) (A : Bool → Prop) (_ : Dep A) : Prop := match o with
  | some b => A b
  | none => False
@[go_sem] theorem vGuard_some (b : Bool) (A : Bool → Prop) (d : Dep A) : vGuard (some b) A d = A b := (rfl)
def vIf (q : Bool) (A B : Prop) (_ : Dep A) (_ : Dep B) : Prop := if q = true then A else B
@[go_sem] theorem vIf_true (A B : Prop) (d : Dep A) (e : Dep B) : vIf true A B d e = A := (rfl)
@[go_sem] theorem vIf_false (A B : Prop) (d : Dep A) (e : Dep B) : vIf false A B d e = B := (rfl)
@[go_sem] theorem vcl_nil {P : Program} {ops : Array Oper} {K : List AV → Hp → Prop} (F : List AV) (H : Hp) : vcl P ops K [] F H = K F H := (rfl)
@[go_sem] theorem vcl_cons {P : Program} {ops : Array Oper} {K : List AV → Hp → Prop} (dst : Option Tmp) (op : Op) (ty : TypeId) (pos : String) (after : Array Edge) (rest : List Oper) (F : List AV) (H : Hp) :
    vcl P ops K (⟨dst, op, ty, pos, after, none⟩ :: rest) F H = vc P (evA F) H ty (AP (fun r H' => vcl P ops K rest (putA F dst r) H') .mk) op := (rfl)
@[go_sem] theorem vcl_guard {P : Program} {ops : Array Oper} {K : List AV → Hp → Prop} (dst : Option Tmp) (op : Op) (ty : TypeId) (pos : String) (after : Array Edge) (j : Nat) (want : Bool) (rest : List Oper) (F : List AV) (H : Hp) :
    vcl P ops K (⟨dst, op, ty, pos, after, some (j, want)⟩ :: rest) F H = vGuard (guardB ops F j want) (fun b => vIf (isCallV op || guardQuiet op) (vcG P F H b (AP1 (fun r => vcl P ops K rest (putA F dst r) H) .mk) op)
        ((b = true → vc P (evA F) H ty (AP (fun r H' => vcl P ops K rest (putA F dst r) H') .mk) op) ∧ (b = false → vcl P ops K rest (putA F dst .any) H)) .mk .mk) .mk := by
  unfold vGuard vIf
  rfl

@[go_sem] theorem toNat_add0 (a b : Nat) : ((a : Int) + (b : Int)).toNat = a + b := by omega
@[go_sem] theorem toNat_add1 (a : Nat) : ((a : Int) + 1).toNat = a + 1 := by omega
@[go_sem] theorem toNat_sub0 (a b : Nat) : ((a : Int) - (b : Int)).toNat = a - b := by omega
@[go_sem] theorem toNat_sub1 (a : Nat) : ((a : Int) - 1).toNat = a - 1 := by omega
@[go_sem] theorem toNat_add1sub (a b : Nat) : ((a : Int) + 1 - (b : Int)).toNat = a + 1 - b := by omega
@[go_sem] theorem cast_one_ : ((1 : Nat) : Int) = 1 := (rfl)
@[go_sem] theorem cast_zero_ : ((0 : Nat) : Int) = 0 := (rfl)
attribute [go_sem] Int.cast_ofNat_Int
def wrap64 (n : Int) : Int := IntKind.i64.wrap n
theorem wrap_in {n : Int} (h : -9223372036854775808 ≤ n ∧ n ≤ 9223372036854775807) : IntKind.i64.wrap n = n := by
  have h1 : (2 : Int) ^ 64 = 18446744073709551616 := by decide
  have h2 : (2 : Int) ^ (64 - 1) = 9223372036854775808 := by decide
  simp only [IntKind.wrap, IntKind.bits, IntKind.signed, Bool.true_and, h1, h2, decide_eq_true_eq]
  split <;> omega

theorem pcall_of {P : Program} {f : FuncId} {args : List AV} {H : Hp} {r : AV} {K : AV → Hp → Prop} (h : PCall P f args H r) (hk : K r H) : ACalls P f args H K := h.mono fun _ _ ⟨e1, e2⟩ => by rw [e1, e2]; exact hk
theorem vcall_raw {P : Program} {f : FuncId} {args : List AV} {H : Hp} {K : AV → Hp → Prop} (hc : callable P f = true) (h : ACalls P f args H K) : vCall P (.raw (.func (.func f) #[] #[])) args H K := .inl ⟨hc, by simpa using h⟩

theorem pcall_enter {P : Program} {f : FuncId} {fn : Func} {c : Code} {args : List AV} {H : Hp} {r : AV} (hf : P.funcs[f]? = some fn) (hb : fn.body = some c) {F : List AV} (hF : args ++ List.replicate (fn.ntmps - args.length) .any = F)
    (h : AWP P c (ARet P fn fun r' H' => r' = r ∧ H' = H) F H) : PCall P f args H r := acalls_of hf hb (by rw [hF]; exact h)
theorem acalls_enter {P : Program} {f : FuncId} {fn : Func} {c : Code} {args : List AV} {H : Hp} {R : AV → Hp → Prop} (hf : P.funcs[f]? = some fn) (hb : fn.body = some c) {F : List AV} (hF : args ++ List.replicate (fn.ntmps - args.length) .any = F)
    (h : AWP P c (ARet P fn R) F H) : ACalls P f args H R := acalls_of hf hb (by rw [hF]; exact h)
section
variable {P : Program} {ev : Operand → AV} {H : Hp} {ty : TypeId} {K : AV → Hp → Prop}
@[go_sem] theorem vc_move (x : Operand) : vc P ev H ty K (.move x) = K (ev x) H := by simp [vc, quietOp, vq]
@[go_sem] theorem vc_assign (x : Operand) : vc P ev H ty K (.assign x) = K (ev x) H := by simp [vc, quietOp, vq]
@[go_sem] theorem vc_pick (c a b : Operand) : vc P ev H ty K (.pick c a b) = ((qPick (ev c) (ev a) (ev b)).1 ∧ K (qPick (ev c) (ev a) (ev b)).2 H) := by simp [vc, quietOp, vq]
@[go_sem] theorem vc_nilCheck (x : Operand) : vc P ev H ty K (.nilCheck x) = ((qNil (ev x)).1 ∧ K (qNil (ev x)).2 H) := by simp [vc, quietOp, vq]
@[go_sem] theorem vc_unOp (op : UnOp) (t : TypeId) (x : Operand) : vc P ev H ty K (.unOp op t x) = ((qUn op (ev x)).1 ∧ K (qUn op (ev x)).2 H) := by simp [vc, quietOp, vq]
@[go_sem] theorem vc_load (t : TypeId) (x : Operand) : vc P ev H ty K (.load t x) = ((qLoad P H t (ev x)).1 ∧ K (qLoad P H t (ev x)).2 H) := by simp [vc, quietOp, vq]
@[go_sem] theorem vc_fieldAddr (t : TypeId) (x : Operand) (f : Nat) : vc P ev H ty K (.fieldAddr t x f) = ((qFieldAddr P t (ev x) f).1 ∧ K (qFieldAddr P t (ev x) f).2 H) := by simp [vc, quietOp, vq]
@[go_sem] theorem vc_field (t : TypeId) (x : Operand) (f : Nat) : vc P ev H ty K (.field t x f) = ((qField P t (ev x) f).1 ∧ K (qField P t (ev x) f).2 H) := by simp [vc, quietOp, vq]
@[go_sem] theorem vc_indexAddr (t : TypeId) (x i : Operand) : vc P ev H ty K (.indexAddr t x i) = ((qIndexAddr P t (ev x) (ev i)).1 ∧ K (qIndexAddr P t (ev x) (ev i)).2 H) := by simp [vc, quietOp, vq]
@[go_sem] theorem vc_index (t : TypeId) (x i : Operand) : vc P ev H ty K (.index t x i) = ((qIndex P t (ev x) (ev i)).1 ∧ K (qIndex P t (ev x) (ev i)).2 H) := by simp [vc, quietOp, vq]
@[go_sem] theorem vc_extract (x : Operand) (i : Nat) : vc P ev H ty K (.extract x i) = ((qExtract (ev x) i).1 ∧ K (qExtract (ev x) i).2 H) := by simp [vc, quietOp, vq]
@[go_sem] theorem vc_slice (t : TypeId) (a : Operand) (lo hi mx : Option Operand) : vc P ev H ty K (.slice t a lo hi mx) = ((qSlice P t (ev a) (lo.map ev) (hi.map ev) (mx.map ev)).1 ∧ K (qSlice P t (ev a) (lo.map ev) (hi.map ev) (mx.map ev)).2 H) := by simp [vc, quietOp, vq]
@[go_sem] theorem vc_makeFunc (fn : Fn) (a b : Array Operand) : vc P ev H ty K (.makeFunc fn a b) = ((qFunc fn (a.toList.map ev) (b.toList.map ev)).1 ∧ K (qFunc fn (a.toList.map ev) (b.toList.map ev)).2 H) := by simp [vc, quietOp, vq]
@[go_sem] theorem vc_makeIface (t : TypeId) (x : Operand) : vc P ev H ty K (.makeInterface t x) = ((qIface P t (ev x)).1 ∧ K (qIface P t (ev x)).2 H) := by simp [vc, quietOp, vq]
@[go_sem] theorem vc_convert (s d : TypeId) (x : Operand) : vc P ev H ty K (.convert s d x) = ((qConv P s d (ev x)).1 ∧ K (qConv P s d (ev x)).2 H) := by simp [vc, quietOp, vq]
@[go_sem] theorem vc_build (t : TypeId) (ps : Array (Nat × Operand)) : vc P ev H ty K (.build t ps) = ((qBuild P t (ps.toList.map fun p => (p.1, ev p.2))).1 ∧ K (qBuild P t (ps.toList.map fun p => (p.1, ev p.2))).2 H) := by simp [vc, quietOp, vq]
@[go_sem] theorem vc_len (as : Array Operand) (ts : Array TypeId) : vc P ev H ty K (.call ⟨.builtin .len, as, ts⟩) = ((qBuiltin P .len ts.toList (as.toList.map ev)).1 ∧ K (qBuiltin P .len ts.toList (as.toList.map ev)).2 H) := by simp [vc, quietOp, vq]
@[go_sem] theorem vc_cap (as : Array Operand) (ts : Array TypeId) : vc P ev H ty K (.call ⟨.builtin .cap, as, ts⟩) = ((qBuiltin P .cap ts.toList (as.toList.map ev)).1 ∧ K (qBuiltin P .cap ts.toList (as.toList.map ev)).2 H) := by simp [vc, quietOp, vq]
@[go_sem] theorem vc_max (as : Array Operand) (ts : Array TypeId) : vc P ev H ty K (.call ⟨.builtin .max, as, ts⟩) = ((qBuiltin P .max ts.toList (as.toList.map ev)).1 ∧ K (qBuiltin P .max ts.toList (as.toList.map ev)).2 H) := by simp [vc, quietOp, vq]
@[go_sem] theorem vc_min (as : Array Operand) (ts : Array TypeId) : vc P ev H ty K (.call ⟨.builtin .min, as, ts⟩) = ((qBuiltin P .min ts.toList (as.toList.map ev)).1 ∧ K (qBuiltin P .min ts.toList (as.toList.map ev)).2 H) := by simp [vc, quietOp, vq]
@[go_sem] theorem vc_add (t : TypeId) (x y : Operand) (t' : TypeId) : vc P ev H ty K (.binOp .add t x y t') = ((qBin P .add t (ev x) (ev y)).1 ∧ K (qBin P .add t (ev x) (ev y)).2 H) := by simp [vc, quietOp, vq]
@[go_sem] theorem vc_sub (t : TypeId) (x y : Operand) (t' : TypeId) : vc P ev H ty K (.binOp .sub t x y t') = ((qBin P .sub t (ev x) (ev y)).1 ∧ K (qBin P .sub t (ev x) (ev y)).2 H) := by simp [vc, quietOp, vq]
@[go_sem] theorem vc_mul (t : TypeId) (x y : Operand) (t' : TypeId) : vc P ev H ty K (.binOp .mul t x y t') = ((qBin P .mul t (ev x) (ev y)).1 ∧ K (qBin P .mul t (ev x) (ev y)).2 H) := by simp [vc, quietOp, vq]
@[go_sem] theorem vc_quo (t : TypeId) (x y : Operand) (t' : TypeId) : vc P ev H ty K (.binOp .quo t x y t') = ((qBin P .quo t (ev x) (ev y)).1 ∧ K (qBin P .quo t (ev x) (ev y)).2 H) := by simp [vc, quietOp, vq]
@[go_sem] theorem vc_rem (t : TypeId) (x y : Operand) (t' : TypeId) : vc P ev H ty K (.binOp .rem t x y t') = ((qBin P .rem t (ev x) (ev y)).1 ∧ K (qBin P .rem t (ev x) (ev y)).2 H) := by simp [vc, quietOp, vq]
@[go_sem] theorem vc_and (t : TypeId) (x y : Operand) (t' : TypeId) : vc P ev H ty K (.binOp .and t x y t') = ((qBin P .and t (ev x) (ev y)).1 ∧ K (qBin P .and t (ev x) (ev y)).2 H) := by simp [vc, quietOp, vq]
@[go_sem] theorem vc_or (t : TypeId) (x y : Operand) (t' : TypeId) : vc P ev H ty K (.binOp .or t x y t') = ((qBin P .or t (ev x) (ev y)).1 ∧ K (qBin P .or t (ev x) (ev y)).2 H) := by simp [vc, quietOp, vq]
@[go_sem] theorem vc_xor (t : TypeId) (x y : Operand) (t' : TypeId) : vc P ev H ty K (.binOp .xor t x y t') = ((qBin P .xor t (ev x) (ev y)).1 ∧ K (qBin P .xor t (ev x) (ev y)).2 H) := by simp [vc, quietOp, vq]
@[go_sem] theorem vc_andNot (t : TypeId) (x y : Operand) (t' : TypeId) : vc P ev H ty K (.binOp .andNot t x y t') = ((qBin P .andNot t (ev x) (ev y)).1 ∧ K (qBin P .andNot t (ev x) (ev y)).2 H) := by simp [vc, quietOp, vq]
@[go_sem] theorem vc_shl (t : TypeId) (x y : Operand) (t' : TypeId) : vc P ev H ty K (.binOp .shl t x y t') = ((qBin P .shl t (ev x) (ev y)).1 ∧ K (qBin P .shl t (ev x) (ev y)).2 H) := by simp [vc, quietOp, vq]
@[go_sem] theorem vc_shr (t : TypeId) (x y : Operand) (t' : TypeId) : vc P ev H ty K (.binOp .shr t x y t') = ((qBin P .shr t (ev x) (ev y)).1 ∧ K (qBin P .shr t (ev x) (ev y)).2 H) := by simp [vc, quietOp, vq]
@[go_sem] theorem vc_lss (t : TypeId) (x y : Operand) (t' : TypeId) : vc P ev H ty K (.binOp .lss t x y t') = ((qBin P .lss t (ev x) (ev y)).1 ∧ K (qBin P .lss t (ev x) (ev y)).2 H) := by simp [vc, quietOp, vq]
@[go_sem] theorem vc_leq (t : TypeId) (x y : Operand) (t' : TypeId) : vc P ev H ty K (.binOp .leq t x y t') = ((qBin P .leq t (ev x) (ev y)).1 ∧ K (qBin P .leq t (ev x) (ev y)).2 H) := by simp [vc, quietOp, vq]
@[go_sem] theorem vc_gtr (t : TypeId) (x y : Operand) (t' : TypeId) : vc P ev H ty K (.binOp .gtr t x y t') = ((qBin P .gtr t (ev x) (ev y)).1 ∧ K (qBin P .gtr t (ev x) (ev y)).2 H) := by simp [vc, quietOp, vq]
@[go_sem] theorem vc_geq (t : TypeId) (x y : Operand) (t' : TypeId) : vc P ev H ty K (.binOp .geq t x y t') = ((qBin P .geq t (ev x) (ev y)).1 ∧ K (qBin P .geq t (ev x) (ev y)).2 H) := by simp [vc, quietOp, vq]
@[go_sem] theorem vc_eql (t : TypeId) (x y : Operand) (t' : TypeId) : vc P ev H ty K (.binOp .eql t x y t') = vNilEq P false t (ev x) (ev y) H K := (rfl)
@[go_sem] theorem vc_neq (t : TypeId) (x y : Operand) (t' : TypeId) : vc P ev H ty K (.binOp .neq t x y t') = vNilEq P true t (ev x) (ev y) H K := (rfl)
@[go_sem] theorem vc_box (t : TypeId) (x : Operand) : vc P ev H ty K (.box t x) = vBox H t (ev x) K := (rfl)
@[go_sem] theorem vc_alloc (t : TypeId) : vc P ev H ty K (.alloc t) = vAlloc P H t K := (rfl)
@[go_sem] theorem vc_store (t : TypeId) (a x : Operand) : vc P ev H ty K (.store t a x) = vStore P H t (ev a) (ev x) K := (rfl)
@[go_sem] theorem vc_buildSlice (t : TypeId) (n : Nat) (ps : Array (Nat × Operand)) : vc P ev H ty K (.buildSlice t n ps) = vLit P H t n (ps.toList.map fun p => (p.1, ev p.2)) K := (rfl)
@[go_sem] theorem vc_call (f : Operand) (as : Array Operand) (ts : Array TypeId) : vc P ev H ty K (.call ⟨.value f, as, ts⟩) = vCall P (ev f) (as.toList.map ev) H K := (rfl)
@[go_sem] theorem vc_append (t : TypeId) (a x : Operand) : vc P ev H ty K (.call ⟨.builtin .append, #[a, x], #[t, t]⟩) = AppendVC P t (ev a) (ev x) H K := by simp [vc, AppendVC]
@[go_sem] theorem vc_appendTo (t t' : TypeId) (a x : Operand) : vc P ev H ty K (.call ⟨.builtin .append, #[a, x], #[t, t']⟩) = AppendTo P t t' (ev a) (ev x) H K := by simp [vc]
@[go_sem] theorem appendTo_same (t : TypeId) (a x : AV) : AppendTo P t t a x H K = AppendVC P t a x H K := (rfl)
@[go_sem] theorem vc_copy (as : Array Operand) (ts : Array TypeId) : vc P ev H ty K (.call ⟨.builtin .copy, as, ts⟩) = BuiltinVC P .copy ts.toList (as.toList.map ev) H K := by simp [vc, quietOp]
@[go_sem] theorem vc_clear (as : Array Operand) (ts : Array TypeId) : vc P ev H ty K (.call ⟨.builtin .clear, as, ts⟩) = BuiltinVC P .clear ts.toList (as.toList.map ev) H K := by simp [vc, quietOp]
end
section
variable {P : Program} {F : List AV} {H : Hp} {g : Bool} {K : AV → Prop}
@[go_sem] theorem vg_pick (c a b : Operand) : vcG P F H g K (.pick c a b) = ((g = true → (unG (evA F c)).1 = true ∧ (qPick (evG F c) (evA F a) (evA F b)).1) ∧ K (.gd g (qPick (evG F c) (evA F a) (evA F b)).2)) := (rfl)
@[go_sem] theorem vg_nilCheck (x : Operand) : vcG P F H g K (.nilCheck x) = ((g = true → okG F (.nilCheck x) = true ∧ (qNil (evG F x)).1) ∧ K (.gd g (qNil (evG F x)).2)) := by simp [vcG, guardQuiet, quietOp, vq]
@[go_sem] theorem vg_unOp (op : UnOp) (t : TypeId) (x : Operand) : vcG P F H g K (.unOp op t x) = ((g = true → okG F (.unOp op t x) = true ∧ (qUn op (evG F x)).1) ∧ K (.gd g (qUn op (evG F x)).2)) := by simp [vcG, guardQuiet, quietOp, vq]
@[go_sem] theorem vg_load (t : TypeId) (x : Operand) : vcG P F H g K (.load t x) = ((g = true → okG F (.load t x) = true ∧ (qLoad P H t (evG F x)).1) ∧ K (.gd g (qLoad P H t (evG F x)).2)) := by simp [vcG, guardQuiet, quietOp, vq]
@[go_sem] theorem vg_fieldAddr (t : TypeId) (x : Operand) (f : Nat) : vcG P F H g K (.fieldAddr t x f) = ((g = true → okG F (.fieldAddr t x f) = true ∧ (qFieldAddr P t (evG F x) f).1) ∧ K (.gd g (qFieldAddr P t (evG F x) f).2)) := by simp [vcG, guardQuiet, quietOp, vq]
@[go_sem] theorem vg_field (t : TypeId) (x : Operand) (f : Nat) : vcG P F H g K (.field t x f) = ((g = true → okG F (.field t x f) = true ∧ (qField P t (evG F x) f).1) ∧ K (.gd g (qField P t (evG F x) f).2)) := by simp [vcG, guardQuiet, quietOp, vq]
@[go_sem] theorem vg_indexAddr (t : TypeId) (x i : Operand) : vcG P F H g K (.indexAddr t x i) = ((g = true → okG F (.indexAddr t x i) = true ∧ (qIndexAddr P t (evG F x) (evG F i)).1) ∧ K (.gd g (qIndexAddr P t (evG F x) (evG F i)).2)) := by simp [vcG, guardQuiet, quietOp, vq]
@[go_sem] theorem vg_index (t : TypeId) (x i : Operand) : vcG P F H g K (.index t x i) = ((g = true → okG F (.index t x i) = true ∧ (qIndex P t (evG F x) (evG F i)).1) ∧ K (.gd g (qIndex P t (evG F x) (evG F i)).2)) := by simp [vcG, guardQuiet, quietOp, vq]
@[go_sem] theorem vg_extract (x : Operand) (i : Nat) : vcG P F H g K (.extract x i) = ((g = true → okG F (.extract x i) = true ∧ (qExtract (evG F x) i).1) ∧ K (.gd g (qExtract (evG F x) i).2)) := by simp [vcG, guardQuiet, quietOp, vq]
@[go_sem] theorem vg_slice (t : TypeId) (a : Operand) (lo hi mx : Option Operand) : vcG P F H g K (.slice t a lo hi mx) = ((g = true → okG F (.slice t a lo hi mx) = true ∧ (qSlice P t (evG F a) (lo.map (evG F)) (hi.map (evG F)) (mx.map (evG F))).1) ∧ K (.gd g (qSlice P t (evG F a) (lo.map (evG F)) (hi.map (evG F)) (mx.map (evG F))).2)) := by simp [vcG, guardQuiet, quietOp, vq]
@[go_sem] theorem vg_makeFunc (fn : Fn) (a b : Array Operand) : vcG P F H g K (.makeFunc fn a b) = ((g = true → okG F (.makeFunc fn a b) = true ∧ (qFunc fn (a.toList.map (evG F)) (b.toList.map (evG F))).1) ∧ K (.gd g (qFunc fn (a.toList.map (evG F)) (b.toList.map (evG F))).2)) := by simp [vcG, guardQuiet, quietOp, vq]
@[go_sem] theorem vg_makeIface (t : TypeId) (x : Operand) : vcG P F H g K (.makeInterface t x) = ((g = true → okG F (.makeInterface t x) = true ∧ (qIface P t (evG F x)).1) ∧ K (.gd g (qIface P t (evG F x)).2)) := by simp [vcG, guardQuiet, quietOp, vq]
@[go_sem] theorem vg_convert (s d : TypeId) (x : Operand) : vcG P F H g K (.convert s d x) = ((g = true → okG F (.convert s d x) = true ∧ (qConv P s d (evG F x)).1) ∧ K (.gd g (qConv P s d (evG F x)).2)) := by simp [vcG, guardQuiet, quietOp, vq]
@[go_sem] theorem vg_build (t : TypeId) (ps : Array (Nat × Operand)) : vcG P F H g K (.build t ps) = ((g = true → okG F (.build t ps) = true ∧ (qBuild P t (ps.toList.map fun p => (p.1, evG F p.2))).1) ∧ K (.gd g (qBuild P t (ps.toList.map fun p => (p.1, evG F p.2))).2)) := by simp [vcG, guardQuiet, quietOp, vq]
@[go_sem] theorem vg_len (as : Array Operand) (ts : Array TypeId) : vcG P F H g K (.call ⟨.builtin .len, as, ts⟩) = ((g = true → okG F (.call ⟨.builtin .len, as, ts⟩) = true ∧ (qBuiltin P .len ts.toList (as.toList.map (evG F))).1) ∧ K (.gd g (qBuiltin P .len ts.toList (as.toList.map (evG F))).2)) := by simp [vcG, guardQuiet, quietOp, vq]
@[go_sem] theorem vg_cap (as : Array Operand) (ts : Array TypeId) : vcG P F H g K (.call ⟨.builtin .cap, as, ts⟩) = ((g = true → okG F (.call ⟨.builtin .cap, as, ts⟩) = true ∧ (qBuiltin P .cap ts.toList (as.toList.map (evG F))).1) ∧ K (.gd g (qBuiltin P .cap ts.toList (as.toList.map (evG F))).2)) := by simp [vcG, guardQuiet, quietOp, vq]
@[go_sem] theorem vg_max (as : Array Operand) (ts : Array TypeId) : vcG P F H g K (.call ⟨.builtin .max, as, ts⟩) = ((g = true → okG F (.call ⟨.builtin .max, as, ts⟩) = true ∧ (qBuiltin P .max ts.toList (as.toList.map (evG F))).1) ∧ K (.gd g (qBuiltin P .max ts.toList (as.toList.map (evG F))).2)) := by simp [vcG, guardQuiet, quietOp, vq]
@[go_sem] theorem vg_min (as : Array Operand) (ts : Array TypeId) : vcG P F H g K (.call ⟨.builtin .min, as, ts⟩) = ((g = true → okG F (.call ⟨.builtin .min, as, ts⟩) = true ∧ (qBuiltin P .min ts.toList (as.toList.map (evG F))).1) ∧ K (.gd g (qBuiltin P .min ts.toList (as.toList.map (evG F))).2)) := by simp [vcG, guardQuiet, quietOp, vq]
@[go_sem] theorem vg_add (t : TypeId) (x y : Operand) (t' : TypeId) : vcG P F H g K (.binOp .add t x y t') = ((g = true → okG F (.binOp .add t x y t') = true ∧ (qBin P .add t (evG F x) (evG F y)).1) ∧ K (.gd g (qBin P .add t (evG F x) (evG F y)).2)) := by simp [vcG, guardQuiet, quietOp, vq]
@[go_sem] theorem vg_sub (t : TypeId) (x y : Operand) (t' : TypeId) : vcG P F H g K (.binOp .sub t x y t') = ((g = true → okG F (.binOp .sub t x y t') = true ∧ (qBin P .sub t (evG F x) (evG F y)).1) ∧ K (.gd g (qBin P .sub t (evG F x) (evG F y)).2)) := by simp [vcG, guardQuiet, quietOp, vq]
@[go_sem] theorem vg_mul (t : TypeId) (x y : Operand) (t' : TypeId) : vcG P F H g K (.binOp .mul t x y t') = ((g = true → okG F (.binOp .mul t x y t') = true ∧ (qBin P .mul t (evG F x) (evG F y)).1) ∧ K (.gd g (qBin P .mul t (evG F x) (evG F y)).2)) := by simp [vcG, guardQuiet, quietOp, vq]
@[go_sem] theorem vg_quo (t : TypeId) (x y : Operand) (t' : TypeId) : vcG P F H g K (.binOp .quo t x y t') = ((g = true → okG F (.binOp .quo t x y t') = true ∧ (qBin P .quo t (evG F x) (evG F y)).1) ∧ K (.gd g (qBin P .quo t (evG F x) (evG F y)).2)) := by simp [vcG, guardQuiet, quietOp, vq]
@[go_sem] theorem vg_rem (t : TypeId) (x y : Operand) (t' : TypeId) : vcG P F H g K (.binOp .rem t x y t') = ((g = true → okG F (.binOp .rem t x y t') = true ∧ (qBin P .rem t (evG F x) (evG F y)).1) ∧ K (.gd g (qBin P .rem t (evG F x) (evG F y)).2)) := by simp [vcG, guardQuiet, quietOp, vq]
@[go_sem] theorem vg_and (t : TypeId) (x y : Operand) (t' : TypeId) : vcG P F H g K (.binOp .and t x y t') = ((g = true → okG F (.binOp .and t x y t') = true ∧ (qBin P .and t (evG F x) (evG F y)).1) ∧ K (.gd g (qBin P .and t (evG F x) (evG F y)).2)) := by simp [vcG, guardQuiet, quietOp, vq]
@[go_sem] theorem vg_or (t : TypeId) (x y : Operand) (t' : TypeId) : vcG P F H g K (.binOp .or t x y t') = ((g = true → okG F (.binOp .or t x y t') = true ∧ (qBin P .or t (evG F x) (evG F y)).1) ∧ K (.gd g (qBin P .or t (evG F x) (evG F y)).2)) := by simp [vcG, guardQuiet, quietOp, vq]
@[go_sem] theorem vg_xor (t : TypeId) (x y : Operand) (t' : TypeId) : vcG P F H g K (.binOp .xor t x y t') = ((g = true → okG F (.binOp .xor t x y t') = true ∧ (qBin P .xor t (evG F x) (evG F y)).1) ∧ K (.gd g (qBin P .xor t (evG F x) (evG F y)).2)) := by simp [vcG, guardQuiet, quietOp, vq]
@[go_sem] theorem vg_andNot (t : TypeId) (x y : Operand) (t' : TypeId) : vcG P F H g K (.binOp .andNot t x y t') = ((g = true → okG F (.binOp .andNot t x y t') = true ∧ (qBin P .andNot t (evG F x) (evG F y)).1) ∧ K (.gd g (qBin P .andNot t (evG F x) (evG F y)).2)) := by simp [vcG, guardQuiet, quietOp, vq]
@[go_sem] theorem vg_shl (t : TypeId) (x y : Operand) (t' : TypeId) : vcG P F H g K (.binOp .shl t x y t') = ((g = true → okG F (.binOp .shl t x y t') = true ∧ (qBin P .shl t (evG F x) (evG F y)).1) ∧ K (.gd g (qBin P .shl t (evG F x) (evG F y)).2)) := by simp [vcG, guardQuiet, quietOp, vq]
@[go_sem] theorem vg_shr (t : TypeId) (x y : Operand) (t' : TypeId) : vcG P F H g K (.binOp .shr t x y t') = ((g = true → okG F (.binOp .shr t x y t') = true ∧ (qBin P .shr t (evG F x) (evG F y)).1) ∧ K (.gd g (qBin P .shr t (evG F x) (evG F y)).2)) := by simp [vcG, guardQuiet, quietOp, vq]
@[go_sem] theorem vg_lss (t : TypeId) (x y : Operand) (t' : TypeId) : vcG P F H g K (.binOp .lss t x y t') = ((g = true → okG F (.binOp .lss t x y t') = true ∧ (qBin P .lss t (evG F x) (evG F y)).1) ∧ K (.gd g (qBin P .lss t (evG F x) (evG F y)).2)) := by simp [vcG, guardQuiet, quietOp, vq]
@[go_sem] theorem vg_leq (t : TypeId) (x y : Operand) (t' : TypeId) : vcG P F H g K (.binOp .leq t x y t') = ((g = true → okG F (.binOp .leq t x y t') = true ∧ (qBin P .leq t (evG F x) (evG F y)).1) ∧ K (.gd g (qBin P .leq t (evG F x) (evG F y)).2)) := by simp [vcG, guardQuiet, quietOp, vq]
@[go_sem] theorem vg_gtr (t : TypeId) (x y : Operand) (t' : TypeId) : vcG P F H g K (.binOp .gtr t x y t') = ((g = true → okG F (.binOp .gtr t x y t') = true ∧ (qBin P .gtr t (evG F x) (evG F y)).1) ∧ K (.gd g (qBin P .gtr t (evG F x) (evG F y)).2)) := by simp [vcG, guardQuiet, quietOp, vq]
@[go_sem] theorem vg_geq (t : TypeId) (x y : Operand) (t' : TypeId) : vcG P F H g K (.binOp .geq t x y t') = ((g = true → okG F (.binOp .geq t x y t') = true ∧ (qBin P .geq t (evG F x) (evG F y)).1) ∧ K (.gd g (qBin P .geq t (evG F x) (evG F y)).2)) := by simp [vcG, guardQuiet, quietOp, vq]
@[go_sem] theorem vg_move (x : Operand) : vcG P F H g K (.move x) = ((g = true → okG F (.move x) = true) ∧ K (.gd g (evG F x))) := by simp [vcG, guardQuiet, quietOp, vq]
@[go_sem] theorem vg_assign (x : Operand) : vcG P F H g K (.assign x) = ((g = true → okG F (.assign x) = true) ∧ K (.gd g (evG F x))) := by simp [vcG, guardQuiet, quietOp, vq]
@[go_sem] theorem vg_eql (t : TypeId) (x y : Operand) (t' : TypeId) : vcG P F H g K (.binOp .eql t x y t') = ((g = true → okG F (.binOp .eql t x y t') = true ∧ (qBin P .eql t (evG F x) (evG F y)).1) ∧ K (.gd g (qBin P .eql t (evG F x) (evG F y)).2)) := by simp [vcG, guardQuiet, vq]
@[go_sem] theorem vg_neq (t : TypeId) (x y : Operand) (t' : TypeId) : vcG P F H g K (.binOp .neq t x y t') = ((g = true → okG F (.binOp .neq t x y t') = true ∧ (qBin P .neq t (evG F x) (evG F y)).1) ∧ K (.gd g (qBin P .neq t (evG F x) (evG F y)).2)) := by simp [vcG, guardQuiet, vq]
@[go_sem] theorem vg_call (f : Operand) (as : Array Operand) (ts : Array TypeId) : vcG P F H g K (.call ⟨.value f, as, ts⟩) = ∃ r, (g = true → okG F (.call ⟨.value f, as, ts⟩) = true ∧ vCall P (evG F f) (as.toList.map (evG F)) H fun r' H' => r' = r ∧ H' = H) ∧ K (.gd g r) := (rfl)
@[go_sem] theorem evA_tmp (t : Tmp) : evA F (.tmp t) = F.getD t .any := (rfl)
@[go_sem] theorem evA_const (v : Value) : evA F (.const v) = .raw v := (rfl)
@[go_sem] theorem evA_global (b : Nat) : evA F (.global b) = .raw (.pointer (some ⟨b, 0, none⟩)) := (rfl)
@[go_sem] theorem evA_func (f : FuncId) : evA F (.func f) = .raw (.func (.func f) #[] #[]) := (rfl)
@[go_sem] theorem putA_some (d : Tmp) (a : AV) : putA F (some d) a = F.set d a := (rfl)
@[go_sem] theorem putA_none (a : AV) : putA F none a = F := (rfl)
end

attribute [go_sem] nilA cutOff_zero evG okG unG guardB isCallV guardQuiet quietOp qPick qNil qInt qStr qEqNe qBin qUn qLoad cellsAt qFieldAddr qField qPart qIndexAddr qIndex qExtract optInt qSlice rawsOf qFunc qIface qConv qLen qCap qMaxMin qBuiltin fillA qBuild vStore vNilEq vLit splice
attribute [go_sem] ones Op.operands Call.operands litOK
section
@[go_sem] theorem cells_agg (cs : List AV) : (AV.agg cs).cells = cs := (rfl)
@[go_sem] theorem cells_raw_agg (vs : Array Value) : (AV.raw (.agg vs)).cells = vs.toList.map .raw := (rfl)
@[go_sem] theorem cells_int (k : IntKind) (n : Int) : (AV.raw (.int k n)).cells = [.raw (.int k n)] := (rfl)
@[go_sem] theorem cells_bool (b : Bool) : (AV.raw (.bool b)).cells = [.raw (.bool b)] := (rfl)
@[go_sem] theorem cells_string (s : ByteArray) : (AV.raw (.string s)).cells = [.raw (.string s)] := (rfl)
@[go_sem] theorem cells_pointer (a : Option Addr) : (AV.raw (.pointer a)).cells = [.raw (.pointer a)] := (rfl)
@[go_sem] theorem cells_slice (a : Option Addr) (n c : Nat) : (AV.raw (.slice a n c)).cells = [.raw (.slice a n c)] := (rfl)
@[go_sem] theorem cells_map (r : Option Nat) : (AV.raw (.map r)).cells = [.raw (.map r)] := (rfl)
@[go_sem] theorem cells_func (f : Fn) (a b : Array Value) : (AV.raw (.func f a b)).cells = [.raw (.func f a b)] := (rfl)
@[go_sem] theorem cells_nilFunc : (AV.raw .nilFunc).cells = [.raw .nilFunc] := (rfl)
@[go_sem] theorem cells_iface (t : TypeId) (v : Value) : (AV.raw (.iface t v)).cells = [.raw (.iface t v)] := (rfl)
@[go_sem] theorem cells_nilIface : (AV.raw .nilIface).cells = [.raw .nilIface] := (rfl)
@[go_sem] theorem cells_sl (x : Bool) (sz n : Nat) (f : Nat → List AV) : (AV.sl x sz n f).cells = [.sl x sz n f] := (rfl)
@[go_sem] theorem cells_ip (cs : List AV) : (AV.ip cs).cells = [.ip cs] := (rfl)
@[go_sem] theorem one_int (k : IntKind) (n : Int) : (AV.raw (.int k n)).one = true := (rfl)
@[go_sem] theorem one_bool (b : Bool) : (AV.raw (.bool b)).one = true := (rfl)
@[go_sem] theorem one_string (s : ByteArray) : (AV.raw (.string s)).one = true := (rfl)
@[go_sem] theorem one_pointer (a : Option Addr) : (AV.raw (.pointer a)).one = true := (rfl)
@[go_sem] theorem one_slice (a : Option Addr) (n c : Nat) : (AV.raw (.slice a n c)).one = true := (rfl)
@[go_sem] theorem one_map (r : Option Nat) : (AV.raw (.map r)).one = true := (rfl)
@[go_sem] theorem one_func (f : Fn) (a b : Array Value) : (AV.raw (.func f a b)).one = true := (rfl)
@[go_sem] theorem one_nilFunc : (AV.raw .nilFunc).one = true := (rfl)
@[go_sem] theorem one_iface (t : TypeId) (v : Value) : (AV.raw (.iface t v)).one = true := (rfl)
@[go_sem] theorem one_nilIface : (AV.raw .nilIface).one = true := (rfl)
@[go_sem] theorem one_sl (x : Bool) (sz n : Nat) (f : Nat → List AV) : (AV.sl x sz n f).one = true := (rfl)
@[go_sem] theorem one_ip (cs : List AV) : (AV.ip cs).one = true := (rfl)
end
attribute [go_sem] Hp.put_same Hp.put_put
@[go_sem] theorem qIndexAddr_slOf {α : Type} [Inhabited α] (P : Program) (t : TypeId) (enc : α → List AV) (sz : Nat) (l : List α) (k : IntKind) (i : Int) : qIndexAddr P t (slOf enc sz l) (.raw (.int k i)) = ((elSz P t = some sz ∧ 0 ≤ i ∧ i < l.length), .ip (enc (nth l i.toNat))) := (rfl)
@[go_sem] theorem qLen_slOf {α : Type} [Inhabited α] (P : Program) (t : TypeId) (enc : α → List AV) (sz : Nat) (l : List α) : qLen P t (slOf enc sz l) = ((isSliceT P t = true), .raw (.int .i64 l.length)) := (rfl)
@[go_sem] theorem ones_one_slOf {α : Type} [Inhabited α] (enc : α → List AV) (sz : Nat) (l : List α) : (slOf enc sz l).one = true := (rfl)
@[go_sem] theorem cells_slOf {α : Type} [Inhabited α] (enc : α → List AV) (sz : Nat) (l : List α) : (slOf enc sz l).cells = [slOf enc sz l] := (rfl)
@[go_sem] theorem unG_slOf {α : Type} [Inhabited α] (enc : α → List AV) (sz : Nat) (l : List α) : unG (slOf enc sz l) = (true, slOf enc sz l) := (rfl)
attribute [go_sem] List.getD_cons_zero List.getD_cons_succ List.getD_nil List.set_cons_zero List.set_cons_succ List.set_nil List.map_nil List.map_cons List.getElem?_cons_zero List.getElem?_cons_succ List.getElem?_nil List.getElem?_toArray List.all_nil List.all_cons List.append_nil List.nil_append List.cons_append List.length_cons List.length_nil List.take_succ_cons List.take_zero List.take_nil List.drop_succ_cons List.drop_zero List.drop_nil List.flatten_nil List.flatten_cons
theorem beq_true_ (b : Bool) : (b == true) = b := by cases b <;> rfl
theorem beq_false_ (b : Bool) : (b == false) = !b := by cases b <;> rfl
attribute [go_sem] if_true if_false true_and and_true false_and and_false Option.map_some Option.map_none Option.getD_some Option.getD_none Option.bind_some Option.bind_none Option.isSome_some Option.isNone_some Option.isNone_none Option.some.injEq Bool.and_true Bool.true_and Bool.and_self Bool.not_true Bool.not_false beq_true_ beq_false_ Bool.false_eq_true Bool.true_eq_false reduceCtorEq imp_self implies_true forall_const or_true true_or or_self or_false false_or not_true_eq_false not_false_eq_true eq_self ne_eq and_self List.foldl_cons List.foldl_nil Bool.not_eq_true' Bool.or_true Bool.or_false Bool.true_or Bool.false_or decide_true decide_false Nat.zero_add Nat.add_zero Nat.le_refl Int.toNat_natCast
@[go_sem] theorem bsel_false (c x : Bool) : bsel c x false = (c && x) := by cases c <;> rfl
@[go_sem] theorem bsel_true (c y : Bool) : bsel c true y = (c || y) := by cases c <;> rfl
@[go_sem] theorem xor_false_ (b : Bool) : (false ^^ b) = b := by cases b <;> rfl
@[go_sem] theorem xor_true_ (b : Bool) : (true ^^ b) = !b := by cases b <;> rfl

@[go_sem] theorem ablock_exit_if (id id' : Nat) (Q : Exit → List AV → Hp → Prop) (F : List AV) (H : Hp) : ABlock id Q (.exit id') F H = if id' = id then Q .normal F H else Q (.exit id') F H := (rfl)

def sets (J : List (Nat × AV)) (F : List AV) : List AV := J.foldl (fun F p => F.set p.1 p.2) F
attribute [go_sem] sets mask maskR List.replicate_succ List.replicate_zero

/-- What a round must hand on. -/
def Next (n : Nat) {S : Type} (W : List (Nat × Nat)) (ok : S → Hp → Prop) (J : S → List (Nat × AV)) (μ : S → Nat) (F₀ F : List AV) (H : Hp) : Prop := ∃ s H', μ s < n ∧ FLe F H (sets (J s) (mask W F₀)) H' ∧ ok s H'
theorem next_mk {n : Nat} {S : Type} {W : List (Nat × Nat)} {ok : S → Hp → Prop} {J : S → List (Nat × AV)} {μ : S → Nat} {F₀ F : List AV} {H : Hp} (s : S) (h1 : ok s H) (h2 : μ s < n) (h3 : LLe F (sets (J s) (mask W F₀))) : Next n W ok J μ F₀ F H := ⟨s, H, h2, FLe.pt H h3, h1⟩
/-- A loop: W: the slots that a round writes; J: what some of them hold at a round's head; ok: what holds of one's own state. -/
theorem awp_loop_inv {P : Program} {c : Code} {Q : Exit → List AV → Hp → Prop} {F : List AV} {H : Hp} {S : Type} (W : List (Nat × Nat)) (ok : S → Hp → Prop) (J : S → List (Nat × AV)) (μ : S → Nat) (s₀ : S) (h0 : ok s₀ H) (hle : LLe F (sets (J s₀) (mask W F)))
    (round : ∀ s H', ok s H' → ∀ K : List AV → Hp → Prop, (∀ F' H', Next (μ s) W ok J μ F F' H' → K F' H') → AWP P c (AThen K Q) (sets (J s) (mask W F)) H') : AWP P (.loop c) Q F H := by
  refine awp_loop (S := S) (fun s F' H' => F' = sets (J s) (mask W F) ∧ ok s H') μ s₀ (FLe.pt H hle) ⟨rfl, h0⟩ ?_
  rintro s F' H' ⟨rfl, hok⟩
  refine round s H' hok _ ?_
  rintro F'' H'' ⟨s', H3, h1, h2, h3⟩
  exact ⟨s', _, H3, h1, h2, rfl, h3⟩

theorem ret_mk {P : Program} {fn : Func} {R : AV → Hp → Prop} {F : List AV} {H : Hp} {out : List AV} {e : Exit} (he : e = .normal ∨ e = .ret) (ho : ares P H F fn.results.toList = some out) (r : AV) (H' : Hp) (hle : RLe (aresult out) H r H') (hR : R r H') : ARet P fn R e F H := by
  rcases he with rfl | rfl <;> exact ⟨out, r, H', ho, hle, hR⟩

def zrow (P : Program) (t : TypeId) : Row := ⟨t, ((zeroL P t).getD []).map .raw, ((zeroL P t).getD []).length⟩
attribute [go_sem] zrow ptrAt
theorem vAlloc_intro {P : Program} {H : Hp} {t : TypeId} {K : AV → Hp → Prop} (hz : (zeroL P t).isSome = true) (h : ∀ b, H b = none → K (ptrAt b) (H.put b (zrow P t))) : vAlloc P H t K := by
  unfold vAlloc
  cases e : zeroL P t with
  | none => rw [e] at hz; cases hz
  | some zs => intro b hb; have := h b hb; simpa only [zrow, e, Option.getD_some, List.length_map] using this
theorem vBox_intro {H : Hp} {t : TypeId} {x : AV} {K : AV → Hp → Prop} (ho : ones x.cells = true) (h : ∀ b, H b = none → K (ptrAt b) (H.put b ⟨t, x.cells, x.cells.length⟩)) : vBox H t x K := ⟨ho, h⟩

/-- Where ways meet again: what is known of the state there. -/
theorem awp_seq_cut {P : Program} {x y : Code} {Q : Exit → List AV → Hp → Prop} {F : List AV} {H : Hp} {S : Type} (W : List (Nat × Nat)) (ok : S → Hp → Prop) (J : S → List (Nat × AV))
    (h1 : ∀ K : List AV → Hp → Prop, (∀ s F' H', ok s H' → LLe F' (sets (J s) (mask W F)) → K F' H') → AWP P x (AThen K Q) F H) (h2 : ∀ s H', ok s H' → AWP P y Q (sets (J s) (mask W F)) H') : AWP P (.seq x y) Q F H := by
  refine awp_seq (awp_mono (h1 (fun F' H' => ∃ s, ok s H' ∧ LLe F' (sets (J s) (mask W F))) fun s F' H' a b => ⟨s, a, b⟩) fun e F' H' hq => ?_)
  cases e with
  | normal => obtain ⟨s, a, b⟩ := hq; exact awp_weak (FLe.pt H' b) (h2 s H' a)
  | _ => exact hq
/-- An argument may be said more weakly. -/
def VLe (H : Hp) (a a' : AV) : Prop := ∀ w v, RelV w H a v → RelV w H a' v
theorem VLe.refl (H : Hp) (a : AV) : VLe H a a := fun _ _ h => h
theorem VLe.sl {H : Hp} {x : Bool} {sz n : Nat} {f g : Nat → List AV} (h : ∀ i, i < n → f i = g i) : VLe H (.sl x sz n f) (.sl false sz n g) := fun w v hr => by
  cases hr with
  | sl0 _ _ _ A c _ => exact .sl0 _ _ _ _ _ (fun e => by cases e)
  | sl _ _ _ _ a c vs hn hc hx hsz hb hH hcell hr => exact .sl _ _ _ _ a c vs hn hc (fun e => by cases e) (fun i hi => by rw [← h i hi]; exact hsz i hi) hb hH hcell (fun i j u hi hu => hr i j u hi (by rw [h i hi]; exact hu))
theorem VLe.nil {H : Hp} {sz : Nat} {f : Nat → List AV} : VLe H nilA (.sl false sz 0 f) := fun w v hr => by
  have := raw_inv hr
  subst this
  exact .sl0 _ _ _ _ _ (fun e => by cases e)
def VLes (H : Hp) : List AV → List AV → Prop
  | [], [] => True
  | a :: l, b :: m => VLe H a b ∧ VLes H l m
  | _, _ => False
theorem VLes.get {H : Hp} : ∀ {l m : List AV}, VLes H l m → l.length = m.length ∧ ∀ (i : Nat) a b, l[i]? = some a → m[i]? = some b → VLe H a b
  | [], [], _ => ⟨rfl, fun i a b h => by simp at h⟩
  | x :: l, y :: m, h => by
    have ih := VLes.get h.2
    refine ⟨by simp [ih.1], fun i a b ha hb => ?_⟩
    cases i with
    | zero => simp at ha hb; subst ha hb; exact h.1
    | succ i => exact ih.2 i a b (by simpa using ha) (by simpa using hb)
theorem acalls_weak {P : Program} {f : FuncId} {args args' : List AV} {H : Hp} {R : AV → Hp → Prop} (hl : VLes H args args') (h : ACalls P f args' H R) : ACalls P f args H R := fun w vs h1 h2 => by
  obtain ⟨hlen, hg⟩ := hl.get
  refine h w vs h1 ⟨hlen.symm.trans h2.1, fun i a v ha hv => ?_⟩
  have hi : i < args.length := by rw [hlen]; exact (List.getElem?_eq_some_iff.1 ha).1
  exact hg i args[i] a (List.getElem?_eq_getElem hi) ha w v (h2.2 i _ v (List.getElem?_eq_getElem hi) hv)
theorem vcall_intro {P : Program} {f : FuncId} {first captured : Array Value} {args : List AV} {H : Hp} {K : AV → Hp → Prop} (hc : callable P f = true) (h : ACalls P f (first.toList.map .raw ++ args ++ captured.toList.map .raw) H K) : vCall P (.raw (.func (.func f) first captured)) args H K := .inl ⟨hc, h⟩
theorem vcall_clo {P : Program} {f : FuncId} {cs : List AV} {args : List AV} {H : Hp} {K : AV → Hp → Prop} (hc : callable P f = true) (h : ACalls P f (args ++ cs) H K) : vCall P (.clo f cs) args H K := .inl ⟨hc, by simpa using h⟩
theorem vcall_ext {P : Program} {f : FuncId} {args : List AV} {H : Hp} {K : AV → Hp → Prop} (h : ExtVC P f args H K) : vCall P (.raw (.func (.func f) #[] #[])) args H K := .inr (by simpa using h)

attribute [go_sem] aresult
/-- One element appended to a row of one's own. -/
theorem append_one {P : Program} {H0 H : Hp} {t e : TypeId} {sz by_ : Nat} {a : AV} {css : List (List AV)} {cs : List AV} {K : AV → Hp → Prop} (hu : P.underlying t = some (.slice e)) (hsz : szOf P e = some sz) (hz : (zeroL P e).map List.length = some sz) (hb : bytesT P e = by_)
    (ha : Own H0 H e sz a css) (hcs : cs.length = sz) (ho : ones cs = true) (hroom : (css.length + 1) * by_ ≤ 140737488355328) (h63 : css.length + 1 ≤ 9223372036854775807)
    (hk : ∀ a' H', Own H0 H' e sz a' (css ++ [cs]) → (∀ c r, H c = some r → ¬ ownsB a c → H' c = some r) → K a' H') : AppendVC P t a (.sl true sz 1 fun i => [cs].getD i []) H K :=
  append_own hu hsz hz ha (src_sl (ys := [cs]) rfl (fun _ _ => rfl) fun i hi => by
    obtain rfl : i = 0 := by omega
    exact ⟨hcs, ho⟩) (by rw [hb]; simpa using hroom) (by simpa using h63) hk

@[go_sem] theorem getD_drop_ (l : List AV) (n m : Nat) : (l.drop n).getD m .any = l.getD (n + m) .any := by simp [List.getD_eq_getElem?_getD]
attribute [go_sem] List.drop_drop List.length_drop Array.toList_append
theorem pret {P : Program} {fn : Func} {F : List AV} {H : Hp} {out : List AV} {e : Exit} {r : AV} (he : e = .normal ∨ e = .ret) (ho : ares P H F fn.results.toList = some out) (hr : aresult out = r) : ARet P fn (fun r' H' => r' = r ∧ H' = H) e F H := ret_mk he ho r H (RLe.of_eq H hr) ⟨rfl, rfl⟩
/-- A result that says less, rows let go of. -/
theorem pretw {P : Program} {fn : Func} {F : List AV} {H H' : Hp} {out : List AV} {e : Exit} {r : AV} (he : e = .normal ∨ e = .ret) (ho : ares P H' F fn.results.toList = some out) (hr : RLe (aresult out) H' r H) : ARet P fn (fun r' H'' => r' = r ∧ H'' = H) e F H' := ret_mk he ho r H hr ⟨rfl, rfl⟩
theorem rawBool_eq {b c : Bool} (h : b = c) : AV.raw (.bool b) = AV.raw (.bool c) := by rw [h]
theorem rawInt_eq {k : IntKind} {b c : Int} (h : b = c) : AV.raw (.int k b) = AV.raw (.int k c) := by rw [h]
end Go.Fc
