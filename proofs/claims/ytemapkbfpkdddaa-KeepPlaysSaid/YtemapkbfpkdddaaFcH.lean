/- Operations that make or write memory, calls; a region walked in the order of the text; a function entered. No conditions. -/
import Derived.Test.YtemapkbfpkdddaaFcG
import Derived.Deep.RegionWith
set_option linter.all false
namespace Go.Fc
open Go

def callable (P : Program) (f : FuncId) : Bool := match P.funcs[f]? with
  | some fn => fn.body.isSome && !(fn.name == "runtime.NumGoroutine")
  | none => false

/-- A call that changes nothing that is owned and gives one abstract value. -/
def PCall (P : Program) (f : FuncId) (args : List AV) (H : Hp) (r : AV) : Prop := ACalls P f args H fun r' H' => r' = r ∧ H' = H

/-- What a value that is called stands for. -/
def fnOf : AV → Option (FuncId × List AV × List AV)
  | .raw (.func (.func f) first captured) => some (f, first.toList.map .raw, captured.toList.map .raw)
  | .clo f cs => some (f, [], cs)
  | _ => none

def ptrAt (b : Nat) : AV := .raw (.pointer (some ⟨b, 0, none⟩))

def vStore (P : Program) (H : Hp) (t : TypeId) (a x : AV) (K : AV → Hp → Prop) : Prop := match a, szOf P t with
  | .raw (.pointer (some ⟨b, off, none⟩)), some k => match H b with
    | some r => (ones x.cells = true ∧ x.cells.length = k ∧ off + k ≤ r.cells.length) ∧ K .any (H.put b ⟨r.elem, splice r.cells off x.cells, r.size⟩)
    | none => False
  | _, _ => False
def vAlloc (P : Program) (H : Hp) (t : TypeId) (K : AV → Hp → Prop) : Prop := match zeroL P t with
  | some zs => ∀ b, H b = none → K (ptrAt b) (H.put b ⟨t, zs.map .raw, zs.length⟩)
  | none => False
def vBox (H : Hp) (t : TypeId) (x : AV) (K : AV → Hp → Prop) : Prop := ones x.cells = true ∧ ∀ b, H b = none → K (ptrAt b) (H.put b ⟨t, x.cells, x.cells.length⟩)
/-- The parts of a literal, in order from k on, each of sz cells. -/
def litOK (sz : Nat) : Nat → List (Nat × AV) → Prop
  | _, [] => True
  | k, (i, a) :: rest => (i = k ∧ ones a.cells = true ∧ a.cells.length = sz) ∧ litOK sz (k + 1) rest
theorem litOK_spec {sz : Nat} : ∀ {k : Nat} {l : List (Nat × AV)}, litOK sz k l → l.map (·.1) = List.range' k l.length ∧ ∀ p ∈ l, ones p.2.cells = true ∧ p.2.cells.length = sz
  | _, [], _ => ⟨rfl, fun p hp => by simp at hp⟩
  | k, (i, a) :: rest, h => by
    obtain ⟨⟨rfl, h1, h2⟩, h3⟩ := h
    obtain ⟨g1, g2⟩ := litOK_spec h3
    refine ⟨by simp [g1, List.range'_succ], fun p hp => ?_⟩
    rcases List.mem_cons.1 hp with rfl | hp
    · exact ⟨h1, h2⟩
    · exact g2 p hp
/-- A literal of a slice, all its elements written out in order. -/
def vLit (P : Program) (H : Hp) (t : TypeId) (n : Nat) (parts : List (Nat × AV)) (K : AV → Hp → Prop) : Prop := match elSz P t with
  | some sz => (parts.length = n ∧ litOK sz 0 parts ∧ n * sz ≤ 16777216 ∧ (n * sz = 0 ∨ ((elT P t).bind (zeroL P)).isSome = true)) ∧ K (.sl true sz n fun i => ((parts.map (·.2.cells)).getD i [])) H
  | none => False
/-- A slice held against nil. -/
def vNilEq (P : Program) (ne : Bool) (t : TypeId) (x y : AV) (H : Hp) (K : AV → Hp → Prop) : Prop := match x, y with
  | .sl _ _ n _, .raw (.slice none 0 0) => isSliceT P t = true ∧ ∀ b : Bool, (b = true → n = 0) → K (.raw (.bool (ne ^^ b))) H
  | x, y => (qBin P (if ne then .neq else .eql) t x y).1 ∧ K (qBin P (if ne then .neq else .eql) t x y).2 H
/-- An append: told by laws of its own. -/
def AppendTo (P : Program) (t t' : TypeId) (a x : AV) (H : Hp) (K : AV → Hp → Prop) : Prop :=
  ∀ w va vx ty, RelW w H → RelV w H a va → RelV w H x vx → ∃ w' H' r v, (Builtin.append_ #[t, t'] ty #[va, vx]).run P w = .ok v w' ∧ K r H' ∧ RelW w' H' ∧ RelV w' H' r v ∧ Ext w H w' H'
def AppendVC (P : Program) (t : TypeId) (a x : AV) (H : Hp) (K : AV → Hp → Prop) : Prop := AppendTo P t t a x H K
/-- Any other builtin with an effect: told by laws of its own. -/
def BuiltinVC (P : Program) (b : Builtin) (ts : List TypeId) (args : List AV) (H : Hp) (K : AV → Hp → Prop) : Prop :=
  ∀ w vs ty cs, RelW w H → RelL w H args vs → ∃ w' H' r v, (builtin b ts.toArray ty cs vs.toArray).run P w = .ok (.value v) w' ∧ K r H' ∧ RelW w' H' ∧ RelV w' H' r v ∧ Ext w H w' H'
def OpVC (P : Program) (o : Op) (ty : TypeId) (ev : Operand → AV) (H : Hp) (K : AV → Hp → Prop) : Prop :=
  ∀ w ρ dst pos after guard, RelW w H → (∀ x ∈ o.operands.toList, RelV w H (ev x) (ρ x)) → ∃ w' H' r, K r H' ∧ RelW w' H' ∧ Ext w H w' H' ∧
    ((∃ v, (execOp ρ ⟨dst, o, ty, pos, after, guard⟩).run P w = .ok (.value v) w' ∧ RelV w' H' r v) ∨ ((execOp ρ ⟨dst, o, ty, pos, after, guard⟩).run P w = .ok .skip w' ∧ r = .any))

/-- A call of a function without a body. -/
def ExtVC (P : Program) (f : FuncId) (args : List AV) (H : Hp) (K : AV → Hp → Prop) : Prop :=
  ∀ w vs, RelW w H → RelF w H args vs → ∃ v w' r H', (callFunc f vs).run P w = .ok (.value v) w' ∧ K r H' ∧ RelW w' H' ∧ RelV w' H' r v ∧ Ext w H w' H'
/-- A call of a value. -/
def vCall (P : Program) (f : AV) (args : List AV) (H : Hp) (K : AV → Hp → Prop) : Prop := match fnOf f with
  | some (f, first, captured) => (callable P f = true ∧ ACalls P f (first ++ args ++ captured) H K) ∨ ExtVC P f (first ++ args ++ captured) H K
  | none => False

def quietOp : Op → Bool
  | .box .. | .alloc _ | .store .. | .buildSlice .. | .makeMap .. | .makeSlice .. | .mapUpdate .. | .insert .. | .lookup .. | .range .. | .next .. | .entry .. | .typeAssert .. => false
  | .binOp .eql .. | .binOp .neq .. => false
  | .call { callee := .builtin b, .. } => match b with
    | .len | .cap | .max | .min => true
    | _ => false
  | .call _ => false
  | _ => true

def vc (P : Program) (ev : Operand → AV) (H : Hp) (ty : TypeId) (K : AV → Hp → Prop) : Op → Prop
  | .box t x => vBox H t (ev x) K
  | .alloc t => vAlloc P H t K
  | .store t a x => vStore P H t (ev a) (ev x) K
  | .buildSlice t n parts => vLit P H t n (parts.toList.map fun p => (p.1, ev p.2)) K
  | .binOp .eql t x y _ => vNilEq P false t (ev x) (ev y) H K
  | .binOp .neq t x y _ => vNilEq P true t (ev x) (ev y) H K
  | .call { callee := .value f, args, .. } => vCall P (ev f) (args.toList.map ev) H K
  | .call { callee := .builtin .append, args, argTypes } => match argTypes.toList, args.toList with
    | [t, t'], [a, x] => AppendTo P t t' (ev a) (ev x) H K
    | _, _ => False
  | .call { callee := .builtin b, args, argTypes } => if quietOp (.call ⟨.builtin b, args, argTypes⟩) then (vq P ev H (.call ⟨.builtin b, args, argTypes⟩)).1 ∧ K (vq P ev H (.call ⟨.builtin b, args, argTypes⟩)).2 H else BuiltinVC P b argTypes.toList (args.toList.map ev) H K
  | o => if quietOp o then (vq P ev H o).1 ∧ K (vq P ev H o).2 H else OpVC P o ty ev H K

section
variable {P : Program} {ops : Array Oper} {F : List AV} {H : Hp}

theorem aval_vq {o : Oper} {K : AV → Hp → Prop} (hq : (vq P (evA F) H o.op).1) (hk : K (vq P (evA F) H o.op).2 H) : AVal P o F H K := fun w tm h1 h2 => by
  obtain ⟨v, hr, hv⟩ := vq_sound o h1 (fun x => h2.eval [] x) hq
  exact ⟨w, H, _, hk, h1, Ext.refl w H, .inl ⟨v, hr, hv⟩⟩

theorem fillA_range {sz : Nat} : ∀ (parts : List (Nat × AV)) (k : Nat) (pre zs : List AV), parts.map (·.1) = List.range' k parts.length → (∀ p ∈ parts, p.2.cells.length = sz) → pre.length = k * sz → zs.length = parts.length * sz →
    fillA (fun i => some (i * sz, sz)) (pre ++ zs) parts = some (pre ++ (parts.map (·.2.cells)).flatten)
  | [], k, pre, zs, _, _, _, hz => by
    have : zs = [] := by simpa using hz
    simp [fillA, this]
  | (i, a) :: parts, k, pre, zs, hp, hs, hk, hz => by
    simp only [List.map_cons, List.length_cons, List.range'_succ, List.cons.injEq] at hp
    obtain ⟨rfl, hp⟩ := hp
    have ha : a.cells.length = sz := hs (i, a) (by simp)
    have hz' : zs.length = parts.length * sz + sz := by rw [hz, List.length_cons, Nat.add_mul, Nat.one_mul]
    simp only [fillA]
    rw [if_pos ⟨ha, by simp; omega⟩]
    have e : splice (pre ++ zs) (i * sz) a.cells = (pre ++ a.cells) ++ zs.drop sz := by
      unfold splice
      rw [← hk, List.take_left', List.drop_append, ha]
      · simp
      · rfl
    rw [e, fillA_range parts (i + 1) (pre ++ a.cells) (zs.drop sz) hp (fun p hp => hs p (by simp [hp])) (by simp [hk, ha, Nat.add_mul]) (by simp; omega)]
    simp [List.append_assoc]

theorem vLit_sound {t : TypeId} {n : Nat} {parts : List (Nat × AV)} {vparts : Array (Nat × Value)} {K : AV → Hp → Prop} {w : World} (hw : RelW w H) (h1 : parts.map (·.1) = vparts.toList.map (·.1)) (h2 : ∀ (i : Nat) a v, parts[i]? = some a → vparts.toList[i]? = some v → RelV w H a.2 v.2)
    (hv : vLit P H t n parts K) : ∃ w' r v, (Instr.buildSlice t n vparts).run P w = .ok v w' ∧ K r H ∧ RelW w' H ∧ RelV w' H r v ∧ Ext w H w' H := by
  unfold vLit at hv
  split at hv
  · rename_i sz hsz
    obtain ⟨⟨hlen, hok, hn, hz⟩, hk⟩ := hv
    obtain ⟨hp, hs⟩ := litOK_spec hok
    rw [hlen, ← List.range_eq_range'] at hp
    obtain ⟨e, hu, hse⟩ := elSz_spec hsz
    have hzr : ∃ z : Array Value, (n * sz = 0 ∧ z = #[]) ∨ (n * sz ≠ 0 ∧ ∃ v, (zeroValue e).run P w = .ok v w ∧ v.cells = z) := by
      by_cases h0 : n * sz = 0
      · exact ⟨#[], .inl ⟨h0, rfl⟩⟩
      · have hz' := hz.resolve_left h0
        simp only [elT, hu, Option.bind_some] at hz'
        obtain ⟨zs, hzs⟩ := Option.isSome_iff_exists.1 hz'
        obtain ⟨z, hz1, _⟩ := zeroL_ones (w := w) hzs
        exact ⟨z.cells, .inr ⟨h0, z, hz1, rfl⟩⟩
    obtain ⟨z, hz⟩ := hzr
    generalize hcur : (Array.range (n * sz)).map (z[· % z.size]!) = cur
    have hcs : cur.size = n * sz := by subst hcur; simp
    have hf := fillA_range (sz := sz) parts 0 [] (cur.toList.map .raw) (by rw [hp, hlen, List.range_eq_range']) (fun p hp => (hs p hp).2) (by simp) (by simp [hcs, hlen])
    simp only [List.nil_append] at hf
    obtain ⟨vs, g1, g2⟩ := fill_rel (w := w) (H := H) (cur := cur) hf h1 (fun i a v ha hv => (h2 i a v ha hv).cells_rel (hs _ (List.mem_of_getElem? ha)).1)
      ⟨by simp, fun i a v ha hv => by
        simp only [List.getElem?_map, Option.map_eq_some_iff] at ha
        obtain ⟨x, hx, rfl⟩ := ha
        rw [hx] at hv; cases hv; exact .raw _⟩
    have hrun : (Instr.buildSlice t n vparts).run P w = .ok (.slice (some ⟨w.heap.size, 0, none⟩) n n) (w.alloc (.cells vs e)) := by
      have hbig : ¬ (n * sz > 2 ^ 24) := by omega
      rcases hz with ⟨h0, rfl⟩ | ⟨h0, v, hv, rfl⟩
      · simp only [Instr.buildSlice, Sem.run_bind, run_underlying hu, Result.andThen_ok, run_sizeOf' hse, if_neg hbig, if_pos h0, Sem.run_pure, hcur, g1, newRow, run_newObj]
        rfl
      · simp only [Instr.buildSlice, Sem.run_bind, run_underlying hu, Result.andThen_ok, run_sizeOf' hse, if_neg hbig, if_neg h0, hv, Sem.run_pure, hcur, g1, newRow, run_newObj]
        rfl
    refine ⟨_, _, _, hrun, hk, hw.alloc_free _, ?_, Ext.alloc_free hw _⟩
    have ex := Ext.alloc_free hw (.cells vs e)
    by_cases h0 : n = 0
    · subst h0; exact .sl0 true sz _ _ 0 (fun _ => rfl)
    · have hvs : vs.size = n * sz := by
        have := g2.1
        simp only [List.length_flatten, List.map_map, Array.length_toList] at this
        rw [← this]
        have : (List.map (List.length ∘ fun x : Nat × AV => x.2.cells) parts) = List.replicate n sz := by
          rw [List.eq_replicate_iff]
          refine ⟨by simp [hlen], fun b hb => ?_⟩
          obtain ⟨p, hp, rfl⟩ := List.mem_map.1 hb
          exact (hs p hp).2
        rw [this]; simp
      have hget : ∀ i j, i < n → j < sz → ((parts.map (·.2.cells)).flatten)[i * sz + j]? = ((parts.map (·.2.cells)).getD i [])[j]? := by
        have gen : ∀ (l : List (List AV)) (i j : Nat), (∀ x ∈ l, x.length = sz) → i < l.length → j < sz → l.flatten[i * sz + j]? = (l.getD i [])[j]? := by
          intro l
          induction l with
          | nil => intro i j _ h _; simp at h
          | cons x l ih =>
            intro i j hx hi hj
            have hxl := hx x (by simp)
            cases i with
            | zero => simp only [List.flatten_cons, Nat.zero_mul, Nat.zero_add, List.getD_cons_zero]; rw [List.getElem?_append_left (by omega)]
            | succ i =>
              simp only [List.flatten_cons, List.getD_cons_succ]
              rw [List.getElem?_append_right (by rw [Nat.add_mul]; omega), hxl, show (i + 1) * sz + j - sz = i * sz + j by rw [Nat.add_mul]; omega]
              exact ih i j (fun y hy => hx y (by simp [hy])) (by simpa using hi) hj
        intro i j hi hj
        exact gen _ i j (fun x hx => by obtain ⟨p, hp, rfl⟩ := List.mem_map.1 hx; exact (hs p hp).2) (by simp [hlen, hi]) hj
      have hlt : ∀ i j, i < n → j < sz → i * sz + j < n * sz := fun i j hi hj => by
        have := Nat.mul_le_mul_right sz (show i + 1 ≤ n from hi)
        rw [Nat.add_mul] at this; omega
      have hgl : ∀ i, i < n → ((parts.map (·.2.cells)).getD i []).length = sz := fun i hi => by
        have : (parts.map (·.2.cells)).getD i [] = (parts[i]'(by omega)).2.cells := by simp [show i < parts.length by omega]
        rw [this]; exact (hs _ (List.getElem_mem _)).2
      refine .sl true sz n _ ⟨w.heap.size, 0, none⟩ n (fun j => vs.getD j undef) (by omega) (Nat.le_refl _) (fun _ => ⟨rfl, vs, e, heap_alloc_new w _⟩) hgl (by simp) (hw.ge (Nat.le_refl _)) (fun i j hi hj => ?_) (fun i j u hi hu => ?_)
      · rw [add_plain, cell_of w.heap.size _ vs e (0, 0) (heap_alloc_new w _)]
        have := hlt i j hi hj
        simp [show i * sz + j < vs.size by omega]
      · have hj : j < sz := by have := (List.getElem?_eq_some_iff.1 hu).1; rwa [hgl i hi] at this
        have := hlt i j hi hj
        have hx := g2.2 (i * sz + j) u (vs.getD (i * sz + j) undef) (by rw [hget i j hi hj]; exact hu) (by simp [show i * sz + j < vs.size by omega])
        exact hx.ext ex
  · exact hv.elim

theorem vNilEq_sound (ne : Bool) (t : TypeId) {a b : AV} {va vb : Value} {K : AV → Hp → Prop} {w : World} (x y : Operand) (ha : RelV w H a va) (hb : RelV w H b vb) (hv : vNilEq P ne t a b H K) :
    ∃ r v, (do eqGuard (if ne then .neq else .eql) t x y va vb; binOp (if ne then .neq else .eql) t va vb : Sem Value).run P w = .ok v w ∧ K r H ∧ RelV w H r v := by
  unfold vNilEq at hv
  split at hv
  · rename_i z sz n f
    obtain ⟨e, hu⟩ := sliceT hv.1
    have := raw_inv hb; subst this
    obtain ⟨A, c, rfl, hA⟩ : ∃ A c, va = .slice A n c ∧ (A = none → n = 0) := by
      cases ha with
      | sl0 _ _ _ A c _ => exact ⟨A, c, rfl, fun _ => rfl⟩
      | sl _ _ _ _ ad c _ _ _ _ _ _ _ _ _ => exact ⟨some ad, c, rfl, fun h => by cases h⟩
    have he : (Op.equal t (.slice A n c) (.slice none 0 0)).run P w = .ok A.isNone w := by
      refine equal_of (fun d => ?_)
      cases A <;> simp [Op.equalIn, run_underlying hu]
    obtain ⟨v, h1, h2⟩ := eqne_run (P := P) (w := w) (H := H) (ne := ne) (t := t) (x := x) (y := y) (fun op => eqGuard_at_slice _ _ _ _ _ _ _ _) rfl rfl he
    exact ⟨_, v, h1, hv.2 A.isNone (fun h => hA (by simpa using h)), h2⟩
  · obtain ⟨v, h1, h2⟩ := qBin_good (P := P) (if ne then .neq else .eql) t x y ha hb hv.1
    exact ⟨_, v, h1, hv.2, h2⟩

theorem relL_raws {w : World} (l : List Value) : RelL w H (l.map .raw) l := ⟨by simp, fun i a v ha hv => by
  simp only [List.getElem?_map, Option.map_eq_some_iff] at ha
  obtain ⟨x, hx, rfl⟩ := ha
  rw [hx] at hv; cases hv; exact .raw _⟩
theorem fnOf_rel {a : AV} {v : Value} {w : World} {f : FuncId} {first captured : List AV} (h : RelV w H a v) (hf : fnOf a = some (f, first, captured)) : ∃ x y : Array Value, v = .func (.func f) x y ∧ RelL w H first x.toList ∧ RelL w H captured y.toList := by
  unfold fnOf at hf
  split at hf
  · rename_i f x y
    simp only [Option.some.injEq, Prod.mk.injEq] at hf
    obtain ⟨rfl, rfl, rfl⟩ := hf
    exact ⟨x, y, raw_inv h, relL_raws _, relL_raws _⟩
  · simp only [Option.some.injEq, Prod.mk.injEq] at hf
    obtain ⟨rfl, rfl, rfl⟩ := hf
    cases h with
    | clo _ _ vs hl hr => exact ⟨#[], vs, rfl, ⟨rfl, fun i a v h => by simp at h⟩, ⟨by simpa using hl, fun i a v h1 h2 => hr i a v h1 (by simpa using h2)⟩⟩
  · cases hf

theorem relF_of_relL {w : World} {l : List AV} {vs : List Value} (h : RelL w H l vs) : RelF w H l vs.toArray := ⟨by simpa using h.1, fun i a v ha hv => h.2 i a v ha (by simpa using hv)⟩
theorem RelL.append {w : World} {a b : List AV} {x y : List Value} (h : RelL w H a x) (k : RelL w H b y) : RelL w H (a ++ b) (x ++ y) := by
  refine ⟨by simp [h.1, k.1], fun i u v hu hv => ?_⟩
  rcases Nat.lt_or_ge i a.length with h1 | h1
  · rw [List.getElem?_append_left h1] at hu
    rw [List.getElem?_append_left (by rw [← h.1]; exact h1)] at hv
    exact h.2 i u v hu hv
  · rw [List.getElem?_append_right h1] at hu
    rw [List.getElem?_append_right (by rw [← h.1]; exact h1), ← h.1] at hv
    exact k.2 _ u v hu hv

theorem callable_spec {f : FuncId} (h : callable P f = true) : ∃ fn, P.funcs[f]? = some fn ∧ fn.body.isSome = true ∧ (fn.name == "runtime.NumGoroutine") = false := by
  unfold callable at h
  split at h
  · rename_i fn hf
    simp only [Bool.and_eq_true, Bool.not_eq_true'] at h
    exact ⟨fn, hf, h.1, h.2⟩
  · cases h

/-- A call stands for the function's own contract. -/
theorem call_sound {f : AV} {args : List AV} {R : AV → Hp → Prop} {fo : Operand} {as : Array Operand} {ts : Array TypeId} {dst : Option Tmp} {ty : TypeId} {pos : String} {after : Array Edge} {guard : Option (Nat × Bool)} {ev : Operand → AV} (he1 : ev fo = f) (he2 : as.toList.map ev = args)
    (h : vCall P f args H R) {w : World} {a : Act} {next : Act → World → Prop} {Q : Exit → Act → World → Prop} (hw : RelW w H) (hr : ∀ x, RelV w H (ev x) (a.eval x))
    (hn : ∀ v r w' H', R r H' → RelW w' H' → RelV w' H' r v → Ext w H w' H' → next (a.put dst v) w') : Oper.wp P ⟨dst, .call ⟨.value fo, as, ts⟩, ty, pos, after, guard⟩ a w next Q := by
  unfold vCall at h
  split at h
  · rename_i f first captured hf
    obtain ⟨x, y, hv, hx, hy⟩ := fnOf_rel (he1 ▸ hr fo) hf
    have hrel : RelF w H (first ++ args ++ captured) (x.toList ++ as.toList.map a.eval ++ y.toList).toArray :=
      relF_of_relL ((hx.append (he2 ▸ relL_map hr as.toList)).append hy)
    have hargs : as.map a.eval = (as.toList.map a.eval).toArray := by rw [← Array.toList_map, Array.toArray_toList]
    have hcf : (execOp a.eval ⟨dst, .call ⟨.value fo, as, ts⟩, ty, pos, after, guard⟩).run P w = (callFunc f (x.toList ++ as.toList.map a.eval ++ y.toList).toArray).run P w := by
      have e : x ++ (as.toList.map a.eval).toArray ++ y = (x.toList ++ as.toList.map a.eval ++ y.toList).toArray := by
        apply Array.ext'
        simp
      simp only [execOp, resolve, hv, Deferred.ofValue, pure_bind, invoke, hargs, e]
    rcases h with ⟨hcall, hc⟩ | hx'
    · obtain ⟨fn, hfn, hb, hname⟩ := callable_spec hcall
      have hrun : (execOp a.eval ⟨dst, .call ⟨.value fo, as, ts⟩, ty, pos, after, guard⟩).run P w = .ok (.enter f (x.toList ++ as.toList.map a.eval ++ y.toList).toArray) w := by
        have hb' : fn.body.isNone = false := by cases hbb : fn.body <;> simp_all
        rw [hcf]
        simp only [callFunc, Sem.run_bind, run_program, Result.andThen_ok, hfn, hname, hb', Bool.false_eq_true, if_false, Sem.run_pure]
      simp only [Oper.wp, hrun, Oper.upon_enter]
      refine (hc w _ hw hrel).mono ?_
      rintro e w' ⟨v, r, H', rfl, hR, g1, g2, g3⟩
      exact hn v r w' H' hR g1 g2 g3
    · obtain ⟨v, w', r, H', hrun, hR, g1, g2, g3⟩ := hx' w _ hw hrel
      rw [← hcf] at hrun
      simp only [Oper.wp, hrun, Oper.upon]
      exact hn v r w' H' hR g1 g2 g3
  · exact h.elim

end
end Go.Fc
