/- Operations that make or write memory, calls. A region walked in the order of the text, guards and all; a function entered, its results. No conditions. -/
import Derived.Test.YtbpmikjlfgfbmaaGreatDoorGdG
import Derived.Deep.RegionWith
import Derived.Laws.Append
set_option linter.all false
namespace Go.Gd
open Go
universe u

def callable (P : Program) (f : FuncId) : Bool := match P.funcs[f]? with
  | some fn => fn.body.isSome && !(fn.name == "runtime.NumGoroutine")
  | none => false

/-- A function that is handed nothing that is owned and gives one abstract value. -/
def PCall (P : Program) (f : FuncId) (args : List AV) (r : AV) : Prop := ACalls P f args [] fun r' l' => r' = r ∧ l' = []

/-- A call as it comes in a state. -/
def HCalls (P : Program) (f : FuncId) (args : List AV) (H : Hp) (K : AV → Hp → Prop) : Prop :=
  ∀ (w : NW) (vs : Array Value), RelW w H → RelF w args vs → Calls P f vs w.toWorld fun e W => ∃ v r H' w', W = NW.toWorld w' ∧ e = .returned v ∧ K r H' ∧ RelW w' H' ∧ RelV w' r v ∧ Ext w H w' H'
theorem HCalls.mono {P : Program} {f : FuncId} {args : List AV} {H : Hp} {K K' : AV → Hp → Prop} (h : HCalls P f args H K) (hk : ∀ r H, K r H → K' r H) : HCalls P f args H K' :=
  fun w vs h1 h2 => (h w vs h1 h2).mono fun _ _ ⟨v, r, H', w', e0, e, k, g⟩ => ⟨v, r, H', w', e0, e, hk _ _ k, g⟩

/-- What a value that is called stands for. -/
def fnOf : AV → Option (FuncId × List AV × List AV)
  | .raw (.func (.func f) first captured) => some (f, first.toList.map .raw, captured.toList.map .raw)
  | .clo f cs => some (f, [], cs)
  | _ => none

-- what follows is hidden from simp: an argument that a later one's type hangs on is held fixed
inductive Dep {α : Sort u} (a : α) : Type
  | mk
/-- A number that is free. -/
def vFresh (H : Hp) (A : Nat → Prop) (_ : Dep A) : Prop := ∃ i, H.get i = none ∧ A i
def vStore (P : Program) (H : Hp) (t : TypeId) (a x : AV) (K : AV → Hp → Prop) : Prop := match a, szOf P t with
  | .pt i m k j, some n => match H.get i with
    | some r => (ones x.cells = true ∧ x.cells.length = n ∧ storable r m k j n) ∧ K .any (H.put i (stored r k j x.cells))
    | none => False
  | _, _ => False
def vAlloc (P : Program) (H : Hp) (t : TypeId) (K : AV → Hp → Prop) : Prop := match zeroL P t with
  | some zs => vFresh H (fun i => K (.pt i 0 0 0) (H.put i (.var t (zs.map .raw)))) .mk
  | none => False
def vBox (H : Hp) (t : TypeId) (x : AV) (K : AV → Hp → Prop) : Prop := ones x.cells = true ∧ vFresh H (fun i => K (.pt i 0 0 0) (H.put i (.var t x.cells))) .mk
/-- The parts of a literal, in order from k on, each of sz cells. -/
def litOK (sz : Nat) : Nat → List (Nat × AV) → Prop
  | _, [] => True
  | k, (i, a) :: rest => (i = k ∧ ones a.cells = true ∧ a.cells.length = sz) ∧ litOK sz (k + 1) rest
theorem litOK_spec {sz : Nat} : ∀ {k : Nat} {l : List (Nat × AV)}, litOK sz k l → l.map (·.1) = List.range' k l.length ∧ ∀ p ∈ l, ones p.2.cells = true ∧ p.2.cells.length = sz
  | _, [], _ => ⟨rfl, fun p hp => by simp at hp⟩
  | k, (i, a) :: rest, h => by
    obtain ⟨⟨rfl, h1, h2⟩, h3⟩ := h
    obtain ⟨g1, g2⟩ := litOK_spec h3
    refine ⟨by simp [g1, List.range'_succ], fun p hp => ?_⟩
    rcases List.mem_cons.1 hp with rfl | hp
    · exact ⟨h1, h2⟩
    · exact g2 p hp
def litCss (parts : List (Nat × AV)) : List (List AV) := parts.map (·.2.cells)
def vLitK (e : TypeId) (sz : Nat) (css : List (List AV)) (H : Hp) (K : AV → Hp → Prop) : Prop :=
  (allL noQ css.flatten = true ∧ K (.sl true sz css []) H) ∨ (0 < sz ∧ ∃ i, H.get i = none ∧ K (.rs i css.length sz css.length) (H.put i (.vec e sz css)))
/-- A literal of a slice, all its elements written out in order: read only, or one's own. -/
def vLit (P : Program) (H : Hp) (t : TypeId) (n : Nat) (parts : List (Nat × AV)) (K : AV → Hp → Prop) : Prop := match elT P t with
  | some e => match szOf P e with
    | some sz => (parts.length = n ∧ litOK sz 0 parts ∧ n * sz ≤ 16777216 ∧ (n * sz = 0 ∨ (zeroL P e).isSome = true)) ∧
      vLitK e sz (litCss parts) H K
    | none => False
  | none => False
/-- Slices held against nil, what else is held against each other. -/
def vNilEq (P : Program) (ne : Bool) (t : TypeId) (x y : AV) (H : Hp) (K : AV → Hp → Prop) : Prop := match x, y with
  | .sl _ _ css _, .raw (.slice none 0 0) => isSliceT P t = true ∧ ∀ b : Bool, (b = true → css = []) → K (.raw (.bool (ne ^^ b))) H
  | .rs _ _ _ n, .raw (.slice none 0 0) => isSliceT P t = true ∧ ∀ b : Bool, (b = true → n = 0) → K (.raw (.bool (ne ^^ b))) H
  | x, y => (qBin P (if ne then .neq else .eql) t x y).1 ∧ K (qBin P (if ne then .neq else .eql) t x y).2 H

/-- What is appended. -/
def srcOf (H : Hp) : AV → Option (Prop × List (List AV))
  | .sl _ _ css _ => some (True, css)
  | .rs i m sz n => match H.get i with
    | some (.vec _ sz' css) => some (sz' = sz ∧ m = css.length ∧ n ≤ m, css.take n)
    | _ => none
  | .rv i m sz o n => match H.get i with
    | some (.vec _ sz' css) => some (sz' = sz ∧ m = css.length ∧ o + n ≤ m, (css.drop o).take n)
    | _ => none
  | .raw (.slice none 0 0) => some (True, [])
  | _ => none
/-- Bytes of an element. -/
def bytesT (P : Program) (t : TypeId) : Nat := ((P.info? t).map (·.bytes)).getD 0
def room (by_ n : Nat) : Prop := n * by_ ≤ 140737488355328 ∧ n ≤ 9223372036854775807
/-- What is written over a row from n on. -/
def over (css : List (List AV)) (n : Nat) (ys : List (List AV)) : List (List AV) := css.take n ++ ys ++ css.drop (n + ys.length)
/-- A row of one's own that is appended to: at its end, or where it was cut. -/
def vAppRs (i : Nat) (e : TypeId) (m sz n : Nat) (css ys : List (List AV)) (H : Hp) (K : AV → Hp → Prop) : Prop := if n = m then K (.rs i (m + ys.length) sz (n + ys.length)) (H.put i (.vec e sz (css ++ ys))) else K (.rs i (max m (n + ys.length)) sz (n + ys.length)) (H.put i (.vec e sz (over css n ys)))
theorem over_end (css ys : List (List AV)) : over css css.length ys = css ++ ys := by simp [over]
theorem over_len {css : List (List AV)} {n : Nat} (ys : List (List AV)) (h : n ≤ css.length) : (over css n ys).length = max css.length (n + ys.length) := by simp [over]; omega
theorem vAppRs_elim {i : Nat} {e : TypeId} {sz n : Nat} {css ys : List (List AV)} {H : Hp} {K : AV → Hp → Prop} (h : vAppRs i e css.length sz n css ys H K) : K (.rs i (max css.length (n + ys.length)) sz (n + ys.length)) (H.put i (.vec e sz (over css n ys))) := by
  unfold vAppRs at h
  split at h
  · rename_i e; subst e; rw [over_end, Nat.max_eq_right (by omega)]; exact h
  · exact h
/-- To what it is appended: to a row of one's own, at its end; to nothing; to a literal, which is full. -/
def vAppTo (by_ : Nat) (e : TypeId) (sz : Nat) (ys : List (List AV)) (a : AV) (H : Hp) (K : AV → Hp → Prop) : Prop := match a with
  | .rs i m sz' n => match H.get i with
    | some (.vec e' sz'' css) => (e' = e ∧ sz' = sz ∧ sz'' = sz ∧ m = css.length ∧ n ≤ m ∧ room by_ (n + ys.length)) ∧ vAppRs i e m sz n css ys H K
    | _ => False
  | .raw (.slice none 0 0) => room by_ ys.length ∧ vFresh H (fun i => K (.rs i ys.length sz ys.length) (H.put i (.vec e sz ys))) .mk
  | .sl true sz' css _ => (sz' = sz ∧ room by_ (css.length + ys.length) ∧ (css.length = 0 ∨ 0 < ys.length)) ∧ vFresh H (fun i => K (.rs i (css.length + ys.length) sz (css.length + ys.length)) (H.put i (.vec e sz (css ++ ys)))) .mk
  | _ => False
def vApp (P : Program) (t : TypeId) (a x : AV) (H : Hp) (K : AV → Hp → Prop) : Prop := match elT P t with
  | some e => match szOf P e, zeroL P e, srcOf H x with
    | some sz, some zs, some (c, ys) => (zs.length = sz ∧ 0 < sz ∧ c ∧ Good sz ys) ∧ vAppTo (bytesT P e) e sz ys a H K
    | _, _, _ => False
  | none => False
/-- An append. -/
def AppendTo (P : Program) (t t' : TypeId) (a x : AV) (H : Hp) (K : AV → Hp → Prop) : Prop :=
  ∀ (w : NW) va vx ty, RelW w H → RelV w a va → RelV w x vx → ∃ (w' : NW) (H' : Hp) (r : AV) (v : Value), (Builtin.append_ #[t, t'] ty #[va, vx]).run P w.toWorld = .ok v w'.toWorld ∧ K r H' ∧ RelW w' H' ∧ RelV w' r v ∧ Ext w H w' H'
/-- Any other builtin with an effect: told by laws of its own. -/
def BuiltinVC (P : Program) (b : Builtin) (ts : List TypeId) (args : List AV) (H : Hp) (K : AV → Hp → Prop) : Prop :=
  ∀ (w : NW) vs ty cs, RelW w H → RelL w args vs → ∃ (w' : NW) (H' : Hp) (r : AV) (v : Value), (builtin b ts.toArray ty cs vs.toArray).run P w.toWorld = .ok (.value v) w'.toWorld ∧ K r H' ∧ RelW w' H' ∧ RelV w' r v ∧ Ext w H w' H'
def OpVC (P : Program) (o : Op) (ty : TypeId) (ev : Operand → AV) (H : Hp) (K : AV → Hp → Prop) : Prop :=
  ∀ (w : NW) ρ dst pos after guard, RelW w H → (∀ x ∈ o.operands.toList, RelV w (ev x) (ρ x)) → ∃ (w' : NW) (H' : Hp) (r : AV), K r H' ∧ RelW w' H' ∧ Ext w H w' H' ∧
    ((∃ v, (execOp ρ ⟨dst, o, ty, pos, after, guard⟩).run P w.toWorld = .ok (.value v) w'.toWorld ∧ RelV w' r v) ∨ ((execOp ρ ⟨dst, o, ty, pos, after, guard⟩).run P w.toWorld = .ok .skip w'.toWorld ∧ r = .any))

/-- A call of a function without a body. -/
def ExtVC (P : Program) (f : FuncId) (args : List AV) (H : Hp) (K : AV → Hp → Prop) : Prop :=
  ∀ (w : NW) vs, RelW w H → RelF w args vs → ∃ (v : Value) (w' : NW) (r : AV) (H' : Hp), (callFunc f vs).run P w.toWorld = .ok (.value v) w'.toWorld ∧ K r H' ∧ RelW w' H' ∧ RelV w' r v ∧ Ext w H w' H'
/-- A call of a value. -/
def vCall (P : Program) (f : AV) (args : List AV) (H : Hp) (K : AV → Hp → Prop) : Prop := match fnOf f with
  | some (f, first, captured) => (callable P f = true ∧ HCalls P f (first ++ args ++ captured) H K) ∨ ExtVC P f (first ++ args ++ captured) H K
  | none => False

def quietOp : Op → Bool
  | .box .. | .alloc _ | .store .. | .buildSlice .. | .makeMap .. | .makeSlice .. | .mapUpdate .. | .insert .. | .lookup .. | .range .. | .next .. | .entry .. | .typeAssert .. => false
  | .binOp .eql .. | .binOp .neq .. => false
  | .call { callee := .builtin b, .. } => match b with
    | .len | .cap | .max | .min => true
    | _ => false
  | .call _ => false
  | _ => true

def vc (P : Program) (ev : Operand → AV) (H : Hp) (ty : TypeId) (K : AV → Hp → Prop) : Op → Prop
  | .box t x => vBox H t (ev x) K
  | .alloc t => vAlloc P H t K
  | .store t a x => vStore P H t (ev a) (ev x) K
  | .buildSlice t n parts => vLit P H t n (parts.toList.map fun p => (p.1, ev p.2)) K
  | .binOp .eql t x y _ => vNilEq P false t (ev x) (ev y) H K
  | .binOp .neq t x y _ => vNilEq P true t (ev x) (ev y) H K
  | .call { callee := .value f, args, .. } => vCall P (ev f) (args.toList.map ev) H K
  | .call { callee := .builtin .append, args, argTypes } => match argTypes.toList, args.toList with
    | [t, t'], [a, x] => AppendTo P t t' (ev a) (ev x) H K
    | _, _ => False
  | .call { callee := .builtin b, args, argTypes } => if quietOp (.call ⟨.builtin b, args, argTypes⟩) then (vq P ev H (.call ⟨.builtin b, args, argTypes⟩)).1 ∧ K (vq P ev H (.call ⟨.builtin b, args, argTypes⟩)).2 H else BuiltinVC P b argTypes.toList (args.toList.map ev) H K
  | o => if quietOp o then (vq P ev H o).1 ∧ K (vq P ev H o).2 H else OpVC P o ty ev H K

section
variable {P : Program} {ops : Array Oper} {F : List AV} {H : Hp}

theorem aval_vq {o : Oper} {K : AV → Hp → Prop} (hq : (vq P (evA F) H o.op).1) (hk : K (vq P (evA F) H o.op).2 H) : AVal P o F H K := fun w tm h1 h2 => by
  obtain ⟨v, hr, hv⟩ := vq_sound o h1 (fun x => h2.eval [] x) hq
  exact ⟨w, H, _, hk, h1, Ext.refl w H, .inl ⟨v, hr, hv⟩⟩

theorem fillA_range {sz : Nat} : ∀ (parts : List (Nat × AV)) (k : Nat) (pre zs : List AV), parts.map (·.1) = List.range' k parts.length → (∀ p ∈ parts, p.2.cells.length = sz) → pre.length = k * sz → zs.length = parts.length * sz →
    fillA (fun i => some (i * sz, sz)) (pre ++ zs) parts = some (pre ++ (parts.map (·.2.cells)).flatten)
  | [], k, pre, zs, _, _, _, hz => by
    have : zs = [] := by simpa using hz
    simp [fillA, this]
  | (i, a) :: parts, k, pre, zs, hp, hs, hk, hz => by
    simp only [List.map_cons, List.length_cons, List.range'_succ, List.cons.injEq] at hp
    obtain ⟨rfl, hp⟩ := hp
    have ha : a.cells.length = sz := hs (i, a) (by simp)
    have hz' : zs.length = parts.length * sz + sz := by rw [hz, List.length_cons, Nat.add_mul, Nat.one_mul]
    simp only [fillA]
    rw [if_pos ⟨ha, by simp; omega⟩]
    have e : splice (pre ++ zs) (i * sz) a.cells = (pre ++ a.cells) ++ zs.drop sz := by
      unfold splice
      rw [← hk, List.take_left', List.drop_append, ha]
      · simp
      · rfl
    rw [e, fillA_range parts (i + 1) (pre ++ a.cells) (zs.drop sz) hp (fun p hp => hs p (by simp [hp])) (by simp [hk, ha, Nat.add_mul]) (by simp; omega)]
    simp [List.append_assoc]

theorem relL_get {w : NW} {l : List AV} {vs : List Value} (h : RelL w l vs) {k : Nat} {u : AV} (hu : l[k]? = some u) : RelV w u (vs.toArray.getD k undef) := by
  have hk : k < vs.length := by rw [← h.1]; exact (List.getElem?_eq_some_iff.1 hu).1
  refine h.2 k u _ hu ?_
  simp [hk]
theorem vLit_sound {t : TypeId} {n : Nat} {parts : List (Nat × AV)} {vparts : Array (Nat × Value)} {K : AV → Hp → Prop} {w : NW} (hw : RelW w H) (h1 : parts.map (·.1) = vparts.toList.map (·.1)) (h2 : ∀ (i : Nat) a v, parts[i]? = some a → vparts.toList[i]? = some v → RelV w a.2 v.2)
    (hv : vLit P H t n parts K) : ∃ (w' : NW) (H' : Hp) (r : AV) (v : Value), (Instr.buildSlice t n vparts).run P w.toWorld = .ok v w'.toWorld ∧ K r H' ∧ RelW w' H' ∧ RelV w' r v ∧ Ext w H w' H' := by
  unfold vLit at hv
  split at hv
  rotate_left
  · exact hv.elim
  rename_i e he
  split at hv
  rotate_left
  · exact hv.elim
  rename_i sz hse
  obtain ⟨⟨hlen, hok, hn, hz⟩, hk⟩ := hv
  have hu : P.underlying t = some (.slice e) := by unfold elT at he; split at he <;> simp_all
  obtain ⟨hp, hs⟩ := litOK_spec hok
  rw [hlen, ← List.range_eq_range'] at hp
  have hzr : ∃ z : Array Value, (n * sz = 0 ∧ z = #[]) ∨ (n * sz ≠ 0 ∧ ∃ v, (zeroValue e).run P w.toWorld = .ok v w.toWorld ∧ v.cells = z) := by
    by_cases h0 : n * sz = 0
    · exact ⟨#[], .inl ⟨h0, rfl⟩⟩
    · have hz' := hz.resolve_left h0
      obtain ⟨zs, hzs⟩ := Option.isSome_iff_exists.1 hz'
      obtain ⟨z, hz1, _⟩ := zeroL_ones (w := w.toWorld) hzs
      exact ⟨z.cells, .inr ⟨h0, z, hz1, rfl⟩⟩
  obtain ⟨z, hz⟩ := hzr
  generalize hcur : (Array.range (n * sz)).map (z[· % z.size]!) = cur
  have hcs : cur.size = n * sz := by subst hcur; simp
  have hf := fillA_range (sz := sz) parts 0 [] (cur.toList.map .raw) (by rw [hp, hlen, List.range_eq_range']) (fun p hp => (hs p hp).2) (by simp) (by simp [hcs, hlen])
  simp only [List.nil_append] at hf
  obtain ⟨vs, g1, g2⟩ := fill_rel (w := w) (cur := cur) hf h1 (fun i a v ha hv => (h2 i a v ha hv).cells_rel (hs _ (List.mem_of_getElem? ha)).1)
    ⟨by simp, fun i a v ha hv => by
      simp only [List.getElem?_map, Option.map_eq_some_iff] at ha
      obtain ⟨x, hx, rfl⟩ := ha
      rw [hx] at hv; cases hv; exact .raw _⟩
  have hrun : (Instr.buildSlice t n vparts).run P w.toWorld = .ok (.slice (some ⟨w.heap.size, 0, none⟩) n n) (w.alloc (.cells vs e)) := by
    have hbig : ¬ (n * sz > 2 ^ 24) := by omega
    rcases hz with ⟨h0, rfl⟩ | ⟨h0, v, hv, rfl⟩
    · simp only [Instr.buildSlice, Sem.run_bind, run_underlying hu, Result.andThen_ok, run_sizeOf' hse, if_neg hbig, if_pos h0, Sem.run_pure, hcur, g1, newRow, run_newObj]
      rfl
    · simp only [Instr.buildSlice, Sem.run_bind, run_underlying hu, Result.andThen_ok, run_sizeOf' hse, if_neg hbig, if_neg h0, hv, Sem.run_pure, hcur, g1, newRow, run_newObj]
      rfl
  have hln : (litCss parts).length = n := by simp [litCss, hlen]
  have hls : ∀ cs ∈ litCss parts, cs.length = sz := fun cs hcs => by
    obtain ⟨p, hp, rfl⟩ := List.mem_map.1 hcs
    exact (hs p hp).2
  have hfl : (litCss parts).flatten.length = n * sz := by rw [flatten_len hls, hln]
  have hvs : vs.size = n * sz := by have := g2.1; simp only [Array.length_toList] at this; rw [← this]; exact hfl
  rcases hk with ⟨hno, hk⟩ | ⟨h0, i, hi, hk⟩
  · have ex := Ext.alloc_free hw (.cells vs e)
    refine ⟨_, H, _, _, hrun, hk, hw.alloc_free _, ?_, ex⟩
    by_cases h0 : n = 0
    · have : litCss parts = [] := List.length_eq_zero_iff.1 (by omega)
      rw [this, h0]; exact .sl0 true sz _ 0 (fun _ => rfl)
    · have := RelV.sl (w := w.to (w.alloc (.cells vs e))) (d := []) true sz (litCss parts) ⟨w.heap.size, 0, none⟩ n (fun j => vs.getD j undef) (by omega) (by omega) (fun _ => ⟨hln.symm, vs, e, heap_alloc_new w.toWorld _⟩) hls (by simp) (fun h => by have := hw.fin _ h; simp at this) (fun i j hi hj => by
        rw [add_plain, cell_of w.heap.size _ vs e (0, 0) (heap_alloc_new w.toWorld _)]
        have := idx_lt hi hj
        rw [hln] at this
        simp [show i * sz + j < vs.size by omega]) (fun i j u hi hu => by
        have hj : j < sz := by have := (List.getElem?_eq_some_iff.1 hu).1; rwa [getD_len hls hi] at this
        have hx := relL_get g2 (k := i * sz + j) (u := u) (by rw [← hu]; exact flatten_get hls hi hj)
        rw [Array.toArray_toList] at hx
        refine (hx.strip (allL_get hno (i := i * sz + j) (by rw [← hu]; exact flatten_get hls hi hj))).keep ex.toKeep.bare (all_true u))
      rw [hln] at this
      exact this
  · obtain ⟨q1, q2⟩ := own_new (row := .vec e sz (litCss parts)) hw (hw.none hi _) (fun r' hr => by rw [hi] at hr; cases hr) ⟨h0, hls⟩ vs (by show (litCss parts).flatten.length ≤ _; omega) (fun k a v ha hv => g2.2 k a v ha (by simpa using hv))
    refine ⟨_, _, _, _, hrun, hk, q1, ?_, q2⟩
    have := RelV.rs (w := ((w.to (w.alloc (.cells vs (Row.vec e sz (litCss parts)).elem))).seize w.heap.size).name i (Row.vec e sz (litCss parts)).ver (.at w.heap.size vs.size (Row.vec e sz (litCss parts)).stride)) i (litCss parts).length sz (litCss parts).length w.heap.size vs.size n (NW.name_same _ _ _ _) hvs.symm (by omega) h0
    rw [hln] at this ⊢
    exact this

theorem vNilEq_sound (ne : Bool) (t : TypeId) {a b : AV} {va vb : Value} {K : AV → Hp → Prop} {w : NW} (x y : Operand) (ha : RelV w a va) (hb : RelV w b vb) (hv : vNilEq P ne t a b H K) :
    ∃ r v, (do eqGuard (if ne then .neq else .eql) t x y va vb; binOp (if ne then .neq else .eql) t va vb : Sem Value).run P w.toWorld = .ok v w.toWorld ∧ K r H ∧ RelV w r v := by
  have key : ∀ {n : Nat}, isSliceT P t = true → (∀ b : Bool, (b = true → n = 0) → K (.raw (.bool (ne ^^ b))) H) → (∃ A c, va = .slice A n c ∧ (A = none → n = 0)) → vb = .slice none 0 0 →
      ∃ r v, (do eqGuard (if ne then .neq else .eql) t x y va vb; binOp (if ne then .neq else .eql) t va vb : Sem Value).run P w.toWorld = .ok v w.toWorld ∧ K r H ∧ RelV w r v := fun {n} h1 h2 h3 h4 => by
    obtain ⟨e, hu⟩ := sliceT h1
    obtain ⟨A, c, rfl, hA⟩ := h3
    subst h4
    have he : (Op.equal t (.slice A n c) (.slice none 0 0)).run P w.toWorld = .ok A.isNone w.toWorld := by
      refine equal_of (fun d => ?_)
      cases A <;> simp [Op.equalIn, run_underlying hu]
    obtain ⟨v, h1, h3⟩ := eqne_run (P := P) (w := w) (ne := ne) (t := t) (x := x) (y := y) (fun op => eqGuard_at_slice _ _ _ _ _ _ _ _) rfl rfl he
    exact ⟨_, v, h1, h2 A.isNone (fun h => hA (by simpa using h)), h3⟩
  unfold vNilEq at hv
  split at hv
  · rename_i z sz css _
    refine key (n := css.length) hv.1 (fun b hb => hv.2 b fun h => List.length_eq_zero_iff.1 (hb h)) ?_ (raw_inv hb)
    cases ha with
    | sl0 _ _ A c _ => exact ⟨A, c, rfl, fun _ => rfl⟩
    | sl _ _ _ ad c _ _ _ _ _ _ _ _ _ => exact ⟨some ad, c, rfl, fun h => by cases h⟩
  · rename_i i m sz n
    refine key (n := n) hv.1 hv.2 ?_ (raw_inv hb)
    cases ha with
    | rs0 _ _ _ A _ => exact ⟨A, 0, rfl, fun _ => rfl⟩
    | rs _ _ _ _ b t c _ _ _ _ => exact ⟨some ⟨b, 0, none⟩, c, rfl, fun h => by cases h⟩
  · obtain ⟨v, h1, h2⟩ := qBin_good (P := P) (if ne then .neq else .eql) t x y ha hb hv.1
    exact ⟨_, v, h1, hv.2, h2⟩

-- appends

theorem RelL.append {w : NW} {a b : List AV} {x y : List Value} (h : RelL w a x) (k : RelL w b y) : RelL w (a ++ b) (x ++ y) := by
  refine ⟨by simp [h.1, k.1], fun i u v hu hv => ?_⟩
  rcases Nat.lt_or_ge i a.length with h1 | h1
  · rw [List.getElem?_append_left h1] at hu
    rw [List.getElem?_append_left (by rw [← h.1]; exact h1)] at hv
    exact h.2 i u v hu hv
  · rw [List.getElem?_append_right h1] at hu
    rw [List.getElem?_append_right (by rw [← h.1]; exact h1), ← h.1] at hv
    exact k.2 _ u v hu hv

/-- The elements that are read out of memory: where they lie, and what is there. -/
def Reads (w : NW) (sz : Nat) (v : Value) (ys : List (List AV)) : Prop := ∃ A c news, v = .slice A ys.length c ∧ RelL w ys.flatten news ∧ (0 < ys.length → ∃ ad, A = some ad ∧ ∀ (j : Nat) v, news[j]? = some v → w.cell? (ad.add j) = some v)
theorem reads_nil {w : NW} {sz : Nat} (A : Option Addr) (c : Nat) : Reads w sz (.slice A 0 c) [] := ⟨A, c, [], rfl, ⟨rfl, fun i a v h => by simp at h⟩, fun h => by simp at h⟩
theorem reads_of {w : NW} {sz c : Nat} {ys : List (List AV)} {ad : Addr} (hl : ∀ y ∈ ys, y.length = sz) (h : ∀ i j, i < ys.length → j < sz → ∃ v, w.cell? (ad.add (i * sz + j)) = some v ∧ ∀ u, (ys.getD i [])[j]? = some u → RelV w u v) : Reads w sz (.slice (some ad) ys.length c) ys := by
  have hfl := flatten_len hl
  refine ⟨some ad, c, (List.range (ys.length * sz)).map fun k => (w.cell? (ad.add k)).getD undef, rfl, ⟨by simp [hfl], fun k a v ha hv => ?_⟩, fun _ => ⟨ad, rfl, fun k v hv => ?_⟩⟩
  · have hk : k < ys.length * sz := by have := (List.getElem?_eq_some_iff.1 ha).1; omega
    obtain ⟨i, j, hi, hj, rfl⟩ := idx_split hk
    rw [flatten_get hl hi hj] at ha
    obtain ⟨v', h1, h2⟩ := h i j hi hj
    simp only [List.getElem?_map, List.getElem?_range hk, Option.map_some, Option.some.injEq, h1, Option.getD_some] at hv
    subst hv
    exact h2 a ha
  · have hk : k < ys.length * sz := by have := (List.getElem?_eq_some_iff.1 hv).1; simpa using this
    obtain ⟨i, j, hi, hj, rfl⟩ := idx_split hk
    obtain ⟨v', h1, h2⟩ := h i j hi hj
    simp only [List.getElem?_map, List.getElem?_range hk, Option.map_some, Option.some.injEq, h1, Option.getD_some] at hv
    subst hv
    exact h1

/-- An element of a row of one's own, in memory. -/
theorem row_cell {w : NW} (hw : RelW w H) {i : Nat} {e : TypeId} {sz : Nat} {css : List (List AV)} {b t s : Nat} (hi : H.get i = some (.vec e sz css)) (hn : w.nm i css.length = some (.at b t s)) {k j : Nat} (hk : k < css.length) (hj : j < sz) :
    s = sz ∧ (∀ cs ∈ css, cs.length = sz) ∧ css.length * sz ≤ t ∧ ∃ v, w.cell? ⟨b, k * sz + j, none⟩ = some v ∧ ∀ u, (css.getD k [])[j]? = some u → RelV w u v := by
  obtain ⟨hok, z, hz, hrow⟩ := hw.rows i _ hi
  have : z = .at b t s := by have hz : w.nm i css.length = some z := hz; rw [hn] at hz; cases hz; rfl
  subst this
  obtain ⟨hs_, cur, hh, hs, hl, hr⟩ := hrow
  have hs_ : sz = s := hs_.symm
  subst hs_
  have hfl : (Row.vec e sz css).cells.length = css.length * sz := flatten_len hok.2
  have h3 := idx_lt hk hj
  have h4 : k * sz + j < cur.size := by omega
  refine ⟨rfl, hok.2, by omega, cur[k * sz + j], ?_, fun u hu => ?_⟩
  · rw [cell_of b _ cur _ (0, 0) hh]; simp [h4]
  · refine hr (k * sz + j) u _ ?_ (by simp [h4])
    show css.flatten[k * sz + j]? = some u
    rw [flatten_get hok.2 hk hj]; exact hu

theorem srcOf_rel {w : NW} (hw : RelW w H) {x : AV} {vx : Value} (hx : RelV w x vx) {c : Prop} {ys : List (List AV)} {sz : Nat} (h : srcOf H x = some (c, ys)) (hc : c) (hg : Good sz ys) : Reads w sz vx ys := by
  unfold srcOf at h
  split at h
  · rename_i xx sz' css _
    cases h
    cases hx with
    | sl0 => exact reads_nil _ _
    | sl _ _ _ ad c vs hn hc' hx hsz hb hH hcell hr =>
      have hz : sz' = sz := by rw [← hsz (ys[0]) (List.getElem_mem hn), (hg _ (List.getElem_mem hn)).1]
      subst hz
      exact reads_of hsz fun i j hi hj => ⟨_, hcell i j hi hj, fun u hu => (hr i j u hi hu).dress⟩
  · rename_i i m sz' n
    split at h
    · rename_i e sz2 css hi
      cases h
      obtain ⟨rfl, rfl, hn⟩ := hc
      cases hx with
      | rs0 _ _ _ A hnm => rw [List.take_zero]; exact reads_nil _ _
      | rs _ _ _ _ b t c hnm hc' hle hs0 =>
        have hlen : (css.take n).length = n := by simp; omega
        by_cases h0 : n = 0
        · subst h0; rw [List.take_zero]; exact reads_nil _ _
        have hz : sz2 = sz := by
          obtain ⟨_, hall, _⟩ := row_cell hw hi hnm (k := 0) (j := 0) (by omega) hs0
          have h1 : (css.take n)[0]'(by omega) ∈ css.take n := List.getElem_mem _
          rw [← hall _ (List.mem_of_mem_take h1), (hg _ h1).1]
        subst hz
        have := reads_of (w := w) (sz := sz2) (c := c) (ys := css.take n) (ad := ⟨b, 0, none⟩) (fun y hy => (hg y hy).1) fun i' j hi' hj => by
          obtain ⟨_, _, _, v, h1, h2⟩ := row_cell hw hi hnm (k := i') (j := j) (by omega) hj
          refine ⟨v, by rw [add_plain, Nat.zero_add]; exact h1, fun u hu => h2 u ?_⟩
          rw [← hu]; simp [List.getElem?_take, show i' < n by omega]
        rw [hlen] at this
        exact this
    · cases h
  · rename_i i m sz' o n
    split at h
    · rename_i e sz2 css hi
      cases h
      obtain ⟨rfl, rfl, hn⟩ := hc
      have hlen : ((css.drop o).take n).length = n := by simp; omega
      cases hx with
      | rv0 _ _ _ _ A => rw [List.take_zero]; exact reads_nil _ _
      | rv _ _ _ _ _ b t c hnm hle =>
        by_cases h0 : n = 0
        · subst h0; rw [List.take_zero]; exact reads_nil _ _
        have h1 : ((css.drop o).take n)[0]'(by omega) ∈ (css.drop o).take n := List.getElem_mem _
        obtain ⟨hok, _⟩ := hw.rows i _ hi
        have hz : sz2 = sz := by rw [← hok.2 _ (List.mem_of_mem_drop (List.mem_of_mem_take h1)), (hg _ h1).1]
        subst hz
        have := reads_of (w := w) (sz := sz2) (c := c) (ys := (css.drop o).take n) (ad := ⟨b, o * sz2, none⟩) (fun y hy => (hg y hy).1) fun i' j hi' hj => by
          obtain ⟨_, _, _, v, h1, h2⟩ := row_cell hw hi hnm (k := o + i') (j := j) (by omega) hj
          refine ⟨v, by rw [add_plain, ← Nat.add_assoc, ← Nat.add_mul]; exact h1, fun u hu => h2 u ?_⟩
          rw [← hu]; simp [List.getElem?_take, show i' < n by omega]
        rw [hlen] at this
        exact this
    · cases h
  · cases h
    have := raw_inv hx
    subst this
    exact reads_nil _ _
  · cases h

theorem elT_spec {t e : TypeId} (he : elT P t = some e) : P.underlying t = some (.slice e) := by unfold elT at he; split at he <;> simp_all
theorem elem_info {e : TypeId} {sz : Nat} {zs : List Value} (hsz : szOf P e = some sz) (hz : zeroL P e = some zs) (hl : zs.length = sz) : ∃ i z, P.info? e = some i ∧ i.size = sz ∧ i.zero = some z ∧ z.cells.size = sz ∧ bytesT P e = i.bytes := by
  unfold szOf at hsz
  cases hi : P.info? e with
  | none => rw [hi] at hsz; cases hsz
  | some i =>
    rw [hi] at hsz
    unfold zeroL at hz
    rw [hi] at hz
    simp only [Option.bind_some, Option.map_eq_some_iff] at hz
    obtain ⟨z, hz1, hz2⟩ := hz
    refine ⟨i, z, rfl, by simpa using hsz, hz1, ?_, by simp [bytesT, hi]⟩
    rw [← hl, ← hz2]; simp

/-- A row that has grown into a new block. -/
theorem grow_row {w : NW} (hw : RelW w H) {i : Nat} {e : TypeId} {sz cap : Nat} {css : List (List AV)} {vals : List Value} {rest : Array Value} (h0 : 0 < sz) (hlen : ∀ cs ∈ css, cs.length = sz) (hrel : RelL w css.flatten vals) (hcap : css.length ≤ cap) (hrest : rest.size = (cap - css.length) * sz)
    (hfree : w.nm i css.length = none) (hlater : ∀ r, H.get i = some r → r.ver ≤ css.length) :
    ∃ w' : NW, w'.toWorld = w.drew.alloc (.cells (vals.toArray ++ rest) e) ∧ RelW w' (H.put i (.vec e sz css)) ∧ Ext w H w' (H.put i (.vec e sz css)) ∧ RelV w' (.rs i css.length sz css.length) (.slice (some ⟨w.heap.size, 0, none⟩) css.length cap) := by
  have hfl := flatten_len hlen
  have hvl : vals.length = css.length * sz := by rw [← hrel.1, hfl]
  have hsz : (vals.toArray ++ rest).size = cap * sz := by
    simp only [Array.size_append, List.size_toArray, hvl, hrest]
    rw [← Nat.add_mul]; congr 1; omega
  have hle := Nat.mul_le_mul_right sz hcap
  obtain ⟨g1, g2⟩ := own_new (row := .vec e sz css) hw.drew hfree hlater ⟨h0, hlen⟩ (vals.toArray ++ rest) (by show css.flatten.length ≤ _; omega) (fun k a v ha hv => by
    have hi : k < vals.length := by rw [← hrel.1]; exact (List.getElem?_eq_some_iff.1 ha).1
    rw [Array.getElem?_append_left (by simpa using hi)] at hv
    exact (hrel.2 k a v ha (by simpa using hv)).ext (Ext.drew w H))
  refine ⟨_, rfl, g1, (Ext.drew w H).trans g2, ?_⟩
  exact RelV.rs i css.length sz css.length w.heap.size (vals.toArray ++ rest).size cap (NW.name_same _ _ _ _) hsz.symm hcap h0

theorem appendTo_own {t : TypeId} {a x : AV} {K : AV → Hp → Prop} (h : vApp P t a x H K) : AppendTo P t t a x H K := by
  intro w va vx ty hw hra hrx
  unfold vApp at h
  split at h
  rotate_left
  · exact h.elim
  rename_i e he
  split at h
  rotate_left
  · exact h.elim
  rename_i sz zs c ys hse hze hsrc
  obtain ⟨⟨hzl, h0, hc, hg⟩, h⟩ := h
  have hu := elT_spec he
  obtain ⟨i, z, hi, hisz, hiz, hzs, hby⟩ := elem_info hse hze hzl
  obtain ⟨A, cx, news, rfl, hnews, haddr⟩ := srcOf_rel hw hrx hsrc hc hg
  have hfl : ys.flatten.length = ys.length * sz := flatten_len fun y hy => (hg y hy).1
  have hnl : news.length = ys.length * sz := by rw [← hnews.1, hfl]
  have hzc : ∀ m, (Builtin.zeroCells z.cells m).size = m * sz := fun m => by simp [Builtin.zeroCells, hzs]
  have hgc : ∀ need old, need ≤ grownCap w.toWorld need old e := fun need old => by
    unfold grownCap Question.cut; simp
  have hones : ones ys.flatten = true := by
    simp only [ones, List.all_eq_true]
    intro u hu'
    obtain ⟨y, hy, huy⟩ := List.mem_flatten.1 hu'
    have := (hg y hy).2
    simp only [ones, List.all_eq_true] at this
    exact this u huy
  have hf0 : ∀ A : Option Addr, ys.length = 0 → (Builtin.firstCells i.size 0 (.slice A 0 cx)).run P w.toWorld = .ok #[] w.toWorld := fun A _ => by
    cases A <;> simp [Builtin.firstCells, loadCells, loadCellsFrom]
  rw [hby] at h
  unfold vAppTo at h
  split at h
  · -- a row of one's own
    rename_i d m sz' n
    split at h
    rotate_left
    · exact h.elim
    rename_i e' sz2 css hd
    obtain ⟨⟨rfl, rfl, rfl, rfl, hnm', hroom, h63⟩, hk⟩ := h
    have hk := vAppRs_elim hk
    have hok := (hw.rows d _ hd).1
    have hlen' : ∀ cs ∈ over css n ys, cs.length = sz2 := fun cs h => by
      unfold over at h
      rcases List.mem_append.1 h with h | h
      · rcases List.mem_append.1 h with h | h
        · exact hok.2 _ (List.mem_of_mem_take h)
        · exact (hg cs h).1
      · exact hok.2 _ (List.mem_of_mem_drop h)
    have hcfl := flatten_len hok.2
    have hl2 := over_len ys hnm'
    cases hra with
    | rs0 _ _ _ A hnm =>
      -- nowhere yet
      obtain ⟨_, z', hz', hrow⟩ := hw.rows d _ hd
      have : z' = .nil := by have hz' : w.nm d css.length = some z' := hz'; rw [hnm] at hz'; cases hz'; rfl
      subst this
      obtain ⟨e2, sz3, hrow⟩ := hrow
      cases hrow
      simp only [over, List.take_nil, List.drop_nil, List.append_nil, List.nil_append, List.length_nil, Nat.zero_add, Nat.zero_max] at hk hl2
      by_cases hy : ys.length = 0
      · have : ys = [] := List.length_eq_zero_iff.1 hy
        subst this
        refine ⟨w, _, _, .slice A 0 0, ?_, hk, ?_, .rs0 _ _ _ _ hnm, ?_⟩
        · cases A <;> simp [Builtin.append_, run_underlying hu, sizeOf, typeInfo, hi, Builtin.lenOf, hf0, storeCells]
        · refine { hw with rows := fun j r hj => ?_, dom := fun j q z hz => ?_ }
          · rw [Hp.get_put] at hj
            split at hj
            · rename_i e; subst e; exact hw.rows j r (by rw [hd]; exact hj)
            · exact hw.rows j r hj
          · rw [Hp.get_put]
            split
            · rename_i e; subst e; obtain ⟨r, g1, g2⟩ := hw.dom j q z hz; rw [hd] at g1; cases g1; exact ⟨_, rfl, g2⟩
            · exact hw.dom j q z hz
        · exact { Ext.refl w H with base := rfl }
      · obtain ⟨ad, rfl, hcell⟩ := haddr (by omega)
        obtain ⟨w', e1, g1, g2, g3⟩ := grow_row (i := d) (e := e') (cap := grownCap w.toWorld ys.length 0 e') (css := ys) (rest := Builtin.zeroCells z.cells (grownCap w.toWorld ys.length 0 e' - ys.length)) hw h0 (fun y hy => (hg y hy).1) hnews (hgc _ _) (hzc _) (hw.later hd (by show ([] : List (List AV)).length < _; simp; omega)) (fun r hr => by rw [hd] at hr; cases hr; exact Nat.zero_le _)
        refine ⟨w', _, _, _, ?_, hk, by simpa using g1, by simpa using g3, by simpa using g2⟩
        rw [e1]
        cases A with
        | none =>
          have := run_append_nil w.toWorld t ty e' i z hu hi hiz ad ys.length cx news (by rw [hisz]; exact hnl) hcell (by omega) (by simp at h63; omega) (by simp at hroom; omega)
          exact this
        | some b =>
          have := run_append_grow (P := P) w.toWorld t ty e' i z hu hi hiz b 0 0 [] (by simp) (fun j v h => by simp at h) ad ys.length cx news (by rw [hisz]; exact hnl) hcell (by omega) (by simp at h63; simp; omega) (by
            rw [Nat.zero_add, nextslicecap_zero (by omega)]; simp at hroom; omega)
          simpa using this
    | rs _ _ _ _ b t' cap hnm hct hle hs0 =>
      obtain ⟨_, z', hz', hrow⟩ := hw.rows d _ hd
      have : z' = .at b t' sz2 := by have hz' : w.nm d css.length = some z' := hz'; rw [hnm] at hz'; cases hz'; rfl
      subst this
      obtain ⟨_, cur, hh, hcs, hcl, hcr⟩ := hrow
      have hh : w.heap[b]? = some (.cells cur e' (0, 0)) := hh
      have hcl : css.flatten.length ≤ t' := hcl
      have hcap : css.length ≤ cap := by
        rw [hcfl, ← hct] at hcl
        exact Nat.le_of_mul_le_mul_right hcl h0
      have htk : (css.take n).flatten.length = n * sz2 := by rw [flatten_len fun c hc => hok.2 c (List.mem_of_mem_take hc), List.length_take, Nat.min_eq_left hnm']
      have htke : (css.take n).flatten = css.flatten.take (n * sz2) := by
        have : css.flatten = (css.take n).flatten ++ (css.drop n).flatten := by rw [← List.flatten_append, List.take_append_drop]
        rw [this, ← htk, List.take_left']
        rfl
      by_cases hfit : n + ys.length ≤ cap
      · -- in place
        have hfit' : n * sz2 + ys.flatten.length ≤ t' := by
          rw [hfl, ← Nat.add_mul, ← hct]; exact Nat.mul_le_mul_right _ hfit
        obtain ⟨w', hrun, g1, g2, g3⟩ := storeCells_sound (P := P) (off := n * sz2) (r' := .vec e' sz2 (over css n ys)) hw hd hnm hnews hones hfit' rfl rfl (by show css.length ≤ (over css n ys).length; rw [hl2]; omega) ⟨h0, hlen'⟩ (by show (over css n ys).flatten.length ≤ t'; rw [flatten_len hlen', hl2, ← hct]; exact Nat.mul_le_mul_right _ (Nat.max_le.2 ⟨hcap, hfit⟩)) (fun p u hp => by
          have hp : (over css n ys).flatten[p]? = some u := hp
          unfold over at hp
          rw [List.flatten_append, List.flatten_append] at hp
          show if _ then _ else css.flatten[p]? = some u
          rcases Nat.lt_or_ge p (n * sz2) with h | h
          · rw [if_neg (by omega)]
            rw [List.getElem?_append_left (by simp only [List.length_append]; omega), List.getElem?_append_left (by omega), htke, List.getElem?_take, if_pos h] at hp
            exact hp
          · rcases Nat.lt_or_ge p (n * sz2 + ys.flatten.length) with h' | h'
            · rw [if_pos ⟨h, h'⟩]
              rw [List.getElem?_append_left (by simp only [List.length_append]; omega), List.getElem?_append_right (by omega), htk] at hp
              exact hp
            · rw [if_neg (by omega)]
              rw [List.getElem?_append_right (by simp only [List.length_append]; omega)] at hp
              have e2 : css.flatten = (css.take (n + ys.length)).flatten ++ (css.drop (n + ys.length)).flatten := by rw [← List.flatten_append, List.take_append_drop]
              have hlt := (List.getElem?_eq_some_iff.1 hp).1
              have hnk : n + ys.length ≤ css.length := by
                rcases Nat.lt_or_ge css.length (n + ys.length) with h6 | h6
                · rw [List.drop_eq_nil_of_le (by omega)] at hlt; simp at hlt
                · exact h6
              have e3 : (css.take (n + ys.length)).flatten.length = n * sz2 + ys.flatten.length := by rw [flatten_len fun c hc => hok.2 c (List.mem_of_mem_take hc), List.length_take, Nat.min_eq_left hnk, hfl, Nat.add_mul]
              rw [e2, List.getElem?_append_right (by omega), e3]
              simp only [List.length_append, htk] at hp
              exact hp)
        refine ⟨w', _, _, .slice (some ⟨b, 0, none⟩) (n + ys.length) cap, ?_, hk, g1, ?_, g2⟩
        · have hf : (Builtin.firstCells i.size ys.length (.slice A ys.length cx)).run P w.toWorld = .ok news.toArray w.toWorld := by
            by_cases h0 : ys.length = 0
            · have : news = [] := by have := hnl; rw [h0, Nat.zero_mul] at this; simpa using this
              subst this
              rw [h0]
              cases A <;> simp [Builtin.firstCells, loadCells, loadCellsFrom]
            · obtain ⟨ad, rfl, hcell⟩ := haddr (by omega)
              exact run_firstCells_some (P := P) w.toWorld i.size ys.length ad ys.length cx news (by rw [hisz]; exact hnl) hcell
          have hadd : (⟨b, 0, none⟩ : Addr).add (n * sz2) = ⟨b, n * sz2, none⟩ := by rw [add_plain]; simp
          rw [hisz] at hf
          simp [Builtin.append_, run_underlying hu, sizeOf, typeInfo, hi, Builtin.lenOf, hfit, hf, hisz, hadd, hrun]
        · have g3 : w'.nm d (max css.length (n + ys.length)) = some (.at b t' sz2) := by rw [← hl2]; exact g3
          exact .rs d _ sz2 _ b t' cap g3 hct hfit hs0
      · -- a new row
        have hpos : 0 < ys.length := by omega
        obtain ⟨ad, rfl, hcell⟩ := haddr hpos
        have hov : over css n ys = css.take n ++ ys := by unfold over; rw [List.drop_eq_nil_of_le (by omega), List.append_nil]
        have hmx : max css.length (n + ys.length) = n + ys.length := Nat.max_eq_right (by omega)
        rw [hov] at hk hlen' hl2
        rw [hmx] at hk hl2
        have hold : RelL w (css.take n).flatten (cur.toList.take (n * sz2)) := by
          refine ⟨by simp only [List.length_take, Array.length_toList]; have := Nat.mul_le_mul_right sz2 hle; omega, fun k a v ha' hv => ?_⟩
          rw [List.getElem?_take] at hv
          split at hv
          · rename_i hkn
            rw [htke, List.getElem?_take, if_pos hkn] at ha'
            exact hcr k a v ha' (by simpa using hv)
          · cases hv
        have hall := hold.append hnews
        rw [← List.flatten_append] at hall
        obtain ⟨w', e1, g1, g2, g3⟩ := grow_row (i := d) (e := e') (cap := grownCap w.toWorld (n + ys.length) cap e') (css := css.take n ++ ys) (rest := Builtin.zeroCells z.cells (grownCap w.toWorld (n + ys.length) cap e' - (n + ys.length))) hw h0 hlen' hall (by rw [hl2]; exact hgc _ _) (by rw [hl2]; exact hzc _) (hw.later hd (by show css.length < _; rw [hl2]; omega)) (fun r hr => by rw [hd] at hr; cases hr; show css.length ≤ _; rw [hl2]; omega)
        rw [hl2] at g3
        refine ⟨w', _, _, _, ?_, hk, g1, g3, g2⟩
        rw [e1]
        have := run_append_grow (P := P) w.toWorld t ty e' i z hu hi hiz ⟨b, 0, none⟩ n cap (cur.toList.take (n * sz2)) (by rw [← hold.1, htk, hisz]) (fun k v hv => by
          rw [List.getElem?_take] at hv
          split at hv
          · rw [add_plain, cell_of b _ cur e' (0, 0) hh, Nat.zero_add]; simpa using hv
          · cases hv) ad ys.length cx news (by rw [hisz]; exact hnl) hcell (by omega) (by omega) (growslice_fits (by omega) (by omega))
        rw [this]
        congr 3
        apply Array.ext'
        simp
  · -- nothing
    obtain ⟨⟨hroom, h63⟩, d, hd, hk⟩ := h
    have := raw_inv hra
    subst this
    by_cases hy : ys.length = 0
    · have : ys = [] := List.length_eq_zero_iff.1 hy
      subst this
      obtain ⟨g1, g2⟩ := own_nil hw hd e h0
      refine ⟨_, _, _, .slice none 0 0, ?_, hk, g1, .rs0 _ _ _ _ (NW.name_same _ _ _ _), g2⟩
      have : (Builtin.append_ #[t, t] ty #[.slice none 0 0, .slice A 0 cx]).run P w.toWorld = .ok (.slice none 0 0) w.toWorld := by
        simp [Builtin.append_, run_underlying hu, sizeOf, typeInfo, hi, Builtin.lenOf, hf0, storeCells]
      exact this
    · obtain ⟨ad, rfl, hcell⟩ := haddr (by omega)
      obtain ⟨w', e1, g1, g2, g3⟩ := grow_row (i := d) (e := e) (cap := grownCap w.toWorld ys.length 0 e) (css := ys) (rest := Builtin.zeroCells z.cells (grownCap w.toWorld ys.length 0 e - ys.length)) hw h0 (fun y hy => (hg y hy).1) hnews (hgc _ _) (hzc _) (hw.none hd _) (fun r hr => by rw [hd] at hr; cases hr)
      refine ⟨w', _, _, _, ?_, hk, g1, g3, g2⟩
      rw [e1]
      exact run_append_nil w.toWorld t ty e i z hu hi hiz ad ys.length cx news (by rw [hisz]; exact hnl) hcell (by omega) (by omega) (by omega)
  · -- a literal
    rename_i sz' css _
    obtain ⟨⟨rfl, ⟨hroom, h63⟩, hor⟩, d, hd, hk⟩ := h
    have hl2 : (css ++ ys).length = css.length + ys.length := List.length_append
    cases hra with
    | sl0 _ _ A' c' hx =>
      have hc0 := hx rfl
      subst hc0
      by_cases hy : ys.length = 0
      · have : ys = [] := List.length_eq_zero_iff.1 hy
        subst this
        obtain ⟨g1, g2⟩ := own_nil hw hd e h0
        refine ⟨_, _, _, .slice A' 0 0, ?_, hk, g1, .rs0 _ _ _ _ (NW.name_same _ _ _ _), g2⟩
        have : (Builtin.append_ #[t, t] ty #[.slice A' 0 0, .slice A 0 cx]).run P w.toWorld = .ok (.slice A' 0 0) w.toWorld := by
          cases A' <;> simp [Builtin.append_, run_underlying hu, sizeOf, typeInfo, hi, Builtin.lenOf, hf0, storeCells]
        exact this
      · obtain ⟨ad, rfl, hcell⟩ := haddr (by omega)
        obtain ⟨w', e1, g1, g2, g3⟩ := grow_row (i := d) (e := e) (cap := grownCap w.toWorld ys.length 0 e) (css := ys) (rest := Builtin.zeroCells z.cells (grownCap w.toWorld ys.length 0 e - ys.length)) hw h0 (fun y hy => (hg y hy).1) hnews (hgc _ _) (hzc _) (hw.none hd _) (fun r hr => by rw [hd] at hr; cases hr)
        refine ⟨w', _, _, _, ?_, hk, by simpa using g1, by simpa using g3, by simpa using g2⟩
        rw [e1]
        cases A' with
        | none => exact run_append_nil w.toWorld t ty e i z hu hi hiz ad ys.length cx news (by rw [hisz]; exact hnl) hcell (by omega) (by simp at h63; omega) (by simp at hroom; omega)
        | some b =>
          have := run_append_grow (P := P) w.toWorld t ty e i z hu hi hiz b 0 0 [] (by simp) (fun j v h => by simp at h) ad ys.length cx news (by rw [hisz]; exact hnl) hcell (by omega) (by simp at h63; simp; omega) (by
            rw [Nat.zero_add, nextslicecap_zero (by omega)]; simp at hroom; omega)
          simpa using this
    | sl _ _ _ b c' vs hn hc' hx hsz hb hH hcell' hr =>
      have hlen' : ∀ cs ∈ css ++ ys, cs.length = sz' := fun cs h => by
        rcases List.mem_append.1 h with h | h
        · exact hsz _ h
        · exact (hg cs h).1
      obtain ⟨hcn, cur, el, hpl⟩ := hx rfl
      subst hcn
      have hcfl := flatten_len hsz
      have hold : RelL w css.flatten ((List.range (css.length * sz')).map vs) := by
        refine ⟨by simp [hcfl], fun k a v ha' hv => ?_⟩
        have hk : k < css.length * sz' := by have := (List.getElem?_eq_some_iff.1 ha').1; omega
        obtain ⟨i', j, hi', hj, rfl⟩ := idx_split hk
        rw [flatten_get hsz hi' hj] at ha'
        simp only [List.getElem?_map, List.getElem?_range hk, Option.map_some, Option.some.injEq] at hv
        subst hv
        exact (hr i' j a hi' ha').dress
      by_cases hy : ys.length = 0
      ·
        omega
      · obtain ⟨ad, rfl, hcell⟩ := haddr (by omega)
        have hall := hold.append hnews
        rw [← List.flatten_append] at hall
        obtain ⟨w', e1, g1, g2, g3⟩ := grow_row (i := d) (e := e) (cap := grownCap w.toWorld (css.length + ys.length) css.length e) (css := css ++ ys) (rest := Builtin.zeroCells z.cells (grownCap w.toWorld (css.length + ys.length) css.length e - (css.length + ys.length))) hw h0 hlen' hall (by rw [hl2]; exact hgc _ _) (by rw [hl2]; exact hzc _) (hw.none hd _) (fun r hr => by rw [hd] at hr; cases hr)
        rw [hl2] at g3
        refine ⟨w', _, _, _, ?_, hk, g1, g3, g2⟩
        rw [e1]
        have := run_append_grow (P := P) w.toWorld t ty e i z hu hi hiz b css.length css.length ((List.range (css.length * sz')).map vs) (by rw [← hold.1, hcfl, hisz]) (fun k v hv => by
          have hk : k < css.length * sz' := by have := (List.getElem?_eq_some_iff.1 hv).1; simpa using this
          obtain ⟨i', j, hi', hj, rfl⟩ := idx_split hk
          simp only [List.getElem?_map, List.getElem?_range hk, Option.map_some, Option.some.injEq] at hv
          subst hv
          exact hcell' i' j hi' hj) ad ys.length cx news (by rw [hisz]; exact hnl) hcell (by omega) (by omega) (growslice_fits (by omega) (by omega))
        rw [this]
        congr 3
        apply Array.ext'
        simp
  · exact h.elim
end
end Go.Gd

namespace Go.Gd
open Go

section
variable {P : Program} {H : Hp}
theorem relL_raws {w : NW} (l : List Value) : RelL w (l.map .raw) l := ⟨by simp, fun i a v ha hv => by
  simp only [List.getElem?_map, Option.map_eq_some_iff] at ha
  obtain ⟨x, hx, rfl⟩ := ha
  rw [hx] at hv; cases hv; exact .raw _⟩
theorem fnOf_rel {a : AV} {v : Value} {w : NW} {f : FuncId} {first captured : List AV} (h : RelV w a v) (hf : fnOf a = some (f, first, captured)) : ∃ x y : Array Value, v = .func (.func f) x y ∧ RelL w first x.toList ∧ RelL w captured y.toList := by
  unfold fnOf at hf
  split at hf
  · rename_i f x y
    simp only [Option.some.injEq, Prod.mk.injEq] at hf
    obtain ⟨rfl, rfl, rfl⟩ := hf
    exact ⟨x, y, raw_inv h, relL_raws _, relL_raws _⟩
  · simp only [Option.some.injEq, Prod.mk.injEq] at hf
    obtain ⟨rfl, rfl, rfl⟩ := hf
    cases h with
    | clo _ _ vs hl hr => exact ⟨#[], vs, rfl, ⟨rfl, fun i a v h => by simp at h⟩, ⟨by simpa using hl, fun i a v h1 h2 => hr i a v h1 (by simpa using h2)⟩⟩
  · cases hf

theorem relF_of_relL {w : NW} {l : List AV} {vs : List Value} (h : RelL w l vs) : RelF w l vs.toArray := ⟨by simpa using h.1, fun i a v ha hv => h.2 i a v ha (by simpa using hv)⟩
theorem callable_spec {f : FuncId} (h : callable P f = true) : ∃ fn, P.funcs[f]? = some fn ∧ fn.body.isSome = true ∧ (fn.name == "runtime.NumGoroutine") = false := by
  unfold callable at h
  split at h
  · rename_i fn hf
    simp only [Bool.and_eq_true, Bool.not_eq_true'] at h
    exact ⟨fn, hf, h.1, h.2⟩
  · cases h

/-- A call stands for the function's own contract. -/
theorem call_sound {f : AV} {args : List AV} {R : AV → Hp → Prop} {fo : Operand} {as : Array Operand} {ts : Array TypeId} {dst : Option Tmp} {ty : TypeId} {pos : String} {after : Array Edge} {guard : Option (Nat × Bool)} {ev : Operand → AV} (he1 : ev fo = f) (he2 : as.toList.map ev = args)
    (h : vCall P f args H R) {w : NW} {a : Act} {next : Act → World → Prop} {Q : Exit → Act → World → Prop} (hw : RelW w H) (hr : ∀ x, RelV w (ev x) (a.eval x))
    (hn : ∀ (v : Value) (r : AV) (w' : NW) (H' : Hp), R r H' → RelW w' H' → RelV w' r v → Ext w H w' H' → next (a.put dst v) w'.toWorld) : Oper.wp P ⟨dst, .call ⟨.value fo, as, ts⟩, ty, pos, after, guard⟩ a w.toWorld next Q := by
  unfold vCall at h
  split at h
  · rename_i f first captured hf
    obtain ⟨x, y, hv, hx, hy⟩ := fnOf_rel (he1 ▸ hr fo) hf
    have hrel : RelF w (first ++ args ++ captured) (x.toList ++ as.toList.map a.eval ++ y.toList).toArray :=
      relF_of_relL ((hx.append (he2 ▸ relL_map hr as.toList)).append hy)
    have hargs : as.map a.eval = (as.toList.map a.eval).toArray := by rw [← Array.toList_map, Array.toArray_toList]
    have hcf : (execOp a.eval ⟨dst, .call ⟨.value fo, as, ts⟩, ty, pos, after, guard⟩).run P w.toWorld = (callFunc f (x.toList ++ as.toList.map a.eval ++ y.toList).toArray).run P w.toWorld := by
      have e : x ++ (as.toList.map a.eval).toArray ++ y = (x.toList ++ as.toList.map a.eval ++ y.toList).toArray := by
        apply Array.ext'
        simp
      simp only [execOp, resolve, hv, Deferred.ofValue, pure_bind, invoke, hargs, e]
    rcases h with ⟨hcall, hc⟩ | hx'
    · obtain ⟨fn, hfn, hb, hname⟩ := callable_spec hcall
      have hrun : (execOp a.eval ⟨dst, .call ⟨.value fo, as, ts⟩, ty, pos, after, guard⟩).run P w.toWorld = .ok (.enter f (x.toList ++ as.toList.map a.eval ++ y.toList).toArray) w.toWorld := by
        have hb' : fn.body.isNone = false := by cases hbb : fn.body <;> simp_all
        rw [hcf]
        simp only [callFunc, Sem.run_bind, run_program, Result.andThen_ok, hfn, hname, hb', Bool.false_eq_true, if_false, Sem.run_pure]
      simp only [Oper.wp, hrun, Oper.upon_enter]
      refine (hc w _ hw hrel).mono ?_
      rintro e W ⟨v, r, H', w', rfl, rfl, hR, g1, g2, g3⟩
      exact hn v r w' H' hR g1 g2 g3
    · obtain ⟨v, w', r, H', hrun, hR, g1, g2, g3⟩ := hx' w _ hw hrel
      rw [← hcf] at hrun
      simp only [Oper.wp, hrun, Oper.upon]
      exact hn v r w' H' hR g1 g2 g3
  · exact h.elim

end

@[congr] theorem vCall_congr {P : Program} {f f' : AV} {args args' : List AV} {H : Hp} {K : AV → Hp → Prop} (h1 : f = f') (h2 : args = args') : vCall P f args H K = vCall P f' args' H K := by rw [h1, h2]
@[congr] theorem vAlloc_congr {P : Program} {H : Hp} {t : TypeId} {K : AV → Hp → Prop} : vAlloc P H t K = vAlloc P H t K := rfl
@[congr] theorem vBox_congr {H : Hp} {t : TypeId} {x x' : AV} {K : AV → Hp → Prop} (h : x = x') : vBox H t x K = vBox H t x' K := by rw [h]
@[congr] theorem AppendTo_congr {P : Program} {t t' : TypeId} {a a' x x' : AV} {H : Hp} {K : AV → Hp → Prop} (h1 : a = a') (h2 : x = x') : AppendTo P t t' a x H K = AppendTo P t t' a' x' H K := by rw [h1, h2]
@[congr] theorem BuiltinVC_congr {P : Program} {b : Builtin} {ts ts' : List TypeId} {as as' : List AV} {H : Hp} {K : AV → Hp → Prop} (h1 : ts = ts') (h2 : as = as') : BuiltinVC P b ts as H K = BuiltinVC P b ts' as' H K := by rw [h1, h2]

/-- Whether an operation under a guard is done; where the guard itself was not reached, it is not. -/
def guardB (ops : Array Oper) (F : List AV) (j : Nat) (want : Bool) : Option Bool := match (ops[j]?).bind (·.dst) with
  | some d => match F[d]? with
    | some (.raw (.bool b)) => some (b == want)
    | some (.gd g (.raw (.bool b))) => some (g && (b == want))
    | _ => none
  | none => none
def evG (F : List AV) (x : Operand) : AV := (unG (evA F x)).2
def okG (F : List AV) (o : Op) : Bool := o.operands.toList.all fun x => (unG (evA F x)).1
def guardQuiet : Op → Bool
  | .binOp .eql .. => true
  | .binOp .neq .. => true
  | o => quietOp o
/-- Operations under a guard that make no memory. -/
def vcG (P : Program) (F : List AV) (H : Hp) (g : Bool) (K : AV → Prop) : Op → Prop
  | .call { callee := .value f, args, argTypes } => ∃ r, (g = true → okG F (.call ⟨.value f, args, argTypes⟩) = true ∧ vCall P (evG F f) (args.toList.map (evG F)) H fun r' H' => r' = r ∧ H' = H) ∧ K (.gd g r)
  | .pick c a b => (g = true → (unG (evA F c)).1 = true ∧ (qPick (evG F c) (evA F a) (evA F b)).1) ∧ K (.gd g (qPick (evG F c) (evA F a) (evA F b)).2)
  | o => if guardQuiet o then (g = true → okG F o = true ∧ (vq P (evG F) H o).1) ∧ K (.gd g (vq P (evG F) H o).2) else False
def isCallV : Op → Bool
  | .call { callee := .value _, .. } => true
  | _ => false

def vcl (P : Program) (ops : Array Oper) (K : List AV → Hp → Prop) : List Oper → List AV → Hp → Prop
  | [], F, H => K F H
  | o :: rest, F, H => match o.guard with
    | none => vc P (evA F) H o.type (fun r H' => vcl P ops K rest (putA F o.dst r) H') o.op
    | some (j, want) => match guardB ops F j want with
      | some b => if isCallV o.op || guardQuiet o.op then vcG P F H b (fun r => vcl P ops K rest (putA F o.dst r) H) o.op
        else (b = true → vc P (evA F) H o.type (fun r H' => vcl P ops K rest (putA F o.dst r) H') o.op) ∧ (b = false → vcl P ops K rest (putA F o.dst .any) H)
      | none => False

section
variable {P : Program} {ops : Array Oper} {F : List AV} {H : Hp}

theorem vc_wp {o : Oper} {K : List AV → Hp → Prop} {ev : Operand → AV} (h : vc P ev H o.type (fun r H' => K (putA F o.dst r) H') o.op) {w : NW} {tm : Array Value} {Q : Exit → Act → World → Prop} {next : Act → World → Prop}
    (h1 : RelW w H) (h2 : RelF w F tm) (hr : ∀ x, RelV w (ev x) ((Act.mk tm []).eval x))
    (hn : ∀ tm' (w' : NW) F' H', K F' H' → RelW w' H' → RelF w' F' tm' → Ext w H w' H' → next ⟨tm', []⟩ w'.toWorld) : o.wp P ⟨tm, []⟩ w.toWorld next Q := by
  have quiet : ((vq P ev H o.op).1 ∧ K (putA F o.dst (vq P ev H o.op).2) H) → o.wp P ⟨tm, []⟩ w.toWorld next Q := fun hq => by
    obtain ⟨v, hrun, hv⟩ := vq_sound o h1 hr hq.1
    simp only [Oper.wp, hrun, Oper.upon]
    rw [Act.put_eq]
    exact hn _ w _ H hq.2 h1 (h2.put o.dst hv []) (Ext.refl w H)
  have val : ∀ {w' : NW} {H' : Hp} {r : AV} {v : Value}, (execOp (Act.mk tm []).eval o).run P w.toWorld = .ok (.value v) w'.toWorld → K (putA F o.dst r) H' → RelW w' H' → RelV w' r v → Ext w H w' H' → o.wp P ⟨tm, []⟩ w.toWorld next Q := fun {w' H' r v} hrun hk g1 g2 g3 => by
    simp only [Oper.wp, hrun, Oper.upon]
    rw [Act.put_eq]
    exact hn _ w' _ H' hk g1 ((h2.ext g3).put o.dst g2 []) g3
  have skip : ∀ {w' : NW} {H' : Hp}, (execOp (Act.mk tm []).eval o).run P w.toWorld = .ok .skip w'.toWorld → K (putA F o.dst .any) H' → RelW w' H' → Ext w H w' H' → o.wp P ⟨tm, []⟩ w.toWorld next Q := fun {w' H'} hrun hk g1 g3 => by
    simp only [Oper.wp, hrun, Oper.upon]
    rw [Act.put_eq]
    exact hn _ w' _ H' hk g1 ((h2.ext g3).put o.dst (.any _) []) g3
  have other : OpVC P o.op o.type ev H (fun r H' => K (putA F o.dst r) H') → o.wp P ⟨tm, []⟩ w.toWorld next Q := fun ho => by
    obtain ⟨w', H', r, hk, g1, g2, g3⟩ := ho w (Act.mk tm []).eval o.dst o.pos o.after o.guard h1 (fun x _ => hr x)
    rcases g3 with ⟨v, hrun, hv⟩ | ⟨hrun, rfl⟩
    · exact val hrun hk g1 hv g2
    · exact skip hrun hk g1 g2
  obtain ⟨dst, op, ty, pos, after, guard⟩ := o
  have vrun : ∀ {s : Sem Value} {v : Value} {W : World}, s.run P w.toWorld = .ok v W → (do pure (Next.value (← s)) : Sem Next).run P w.toWorld = .ok (.value v) W := fun hs => by simp [hs]
  cases op
  case box t x =>
    obtain ⟨ho, i, hi, hk⟩ := h
    obtain ⟨u, w', hrun, g0, g1, g2⟩ := newVar_sound (P := P) (t := t) h1 hi (hr x) ho
    exact val (vrun hrun) hk g1 g0 g2
  case alloc t =>
    simp only [vc, vAlloc] at h
    split at h
    · rename_i zs hz
      obtain ⟨i, hi, hk⟩ := h
      obtain ⟨u, w', hrun, g0, g1, g2⟩ := alloc_sound (P := P) (t := t) h1 hi hz
      exact val (vrun hrun) hk g1 g0 g2
    · exact h.elim
  case store t a x =>
    simp only [vc, vStore] at h
    split at h
    · rename_i i m k j n ha hk
      split at h
      · rename_i r hb
        obtain ⟨⟨s1, s2, s3⟩, hk'⟩ := h
        have hva := hr a
        rw [ha] at hva
        obtain ⟨w', hrun, g1, g2⟩ := storeAt_sound (P := P) h1 hva hb (hr x) s1 hk s2 s3
        refine skip ?_ hk' g1 g2
        simp only [execOp, Sem.run_bind, hrun, Result.andThen_ok, Sem.run_pure]
      · exact h.elim
    · exact h.elim
  case buildSlice t n parts =>
    have h' : vLit P H t n (parts.toList.map fun p => (p.1, ev p.2)) (fun r H' => K (putA F dst r) H') := h
    obtain ⟨w', H', r, v, hrun, hk, g1, g2, g3⟩ := vLit_sound (P := P) (parts := parts.toList.map fun p => (p.1, ev p.2)) (vparts := parts.map fun p => (p.1, (Act.mk tm []).eval p.2)) h1 (by simp) (fun i a v ha hv => by
      simp only [List.getElem?_map, Option.map_eq_some_iff, Array.toList_map, Array.getElem?_toList] at ha hv
      obtain ⟨x, hx, rfl⟩ := ha
      obtain ⟨y, hy, rfl⟩ := hv
      rw [hx] at hy; cases hy; exact hr x.2) h'
    exact val (vrun hrun) hk g1 g2 g3
  case binOp op t x y t' =>
    cases op
    case eql =>
      obtain ⟨r, v, hrun, hk, hv⟩ := vNilEq_sound (P := P) (K := fun r H' => K (putA F dst r) H') false t x y (hr x) (hr y) h
      exact val (vrun hrun) hk h1 hv (Ext.refl w H)
    case neq =>
      obtain ⟨r, v, hrun, hk, hv⟩ := vNilEq_sound (P := P) (K := fun r H' => K (putA F dst r) H') true t x y (hr x) (hr y) h
      exact val (vrun hrun) hk h1 hv (Ext.refl w H)
    all_goals exact quiet h
  case call c =>
    obtain ⟨callee, args, argTypes⟩ := c
    cases callee
    case value f =>
      refine call_sound rfl rfl h h1 hr fun v r w' H' hk g1 g2 g3 => ?_
      rw [Act.put_eq]
      exact hn _ w' _ H' hk g1 ((h2.ext g3).put dst g2 []) g3
    case invoke r m => exact other h
    case builtin b =>
      have hargs : args.map (Act.mk tm []).eval = (args.toList.map (Act.mk tm []).eval).toArray := by rw [← Array.toList_map, Array.toArray_toList]
      have bvc : BuiltinVC P b argTypes.toList (args.toList.map ev) H (fun r H' => K (putA F dst r) H') → Oper.wp P ⟨dst, .call ⟨.builtin b, args, argTypes⟩, ty, pos, after, guard⟩ ⟨tm, []⟩ w next Q := fun hb => by
        obtain ⟨w', H', r, v, hrun, hk, g1, g2, g3⟩ := hb w _ ty (args.map fun | .const _ => true | _ => false) h1 (relL_map hr args.toList)
        refine val (w' := w') (v := v) ?_ hk g1 g2 g3
        simp only [execOp, resolve, pure_bind, invoke, hargs]
        exact hrun
      cases b
      case append =>
        simp only [vc] at h
        split at h
        · rename_i t t' a x ht ha
          obtain ⟨w', H', r, v, hrun, hk, g1, g2, g3⟩ := h w _ _ ty h1 (hr a) (hr x)
          refine val (w' := w') (v := v) ?_ hk g1 g2 g3
          have e1 : argTypes = #[t, t'] := by rw [← Array.toArray_toList (xs := argTypes), ht]
          have e2 : args = #[a, x] := by rw [← Array.toArray_toList (xs := args), ha]
          subst e1 e2
          simp only [execOp, resolve, pure_bind, invoke, builtin, Sem.run_bind]
          have : (#[a, x].map (Act.mk tm []).eval) = #[(Act.mk tm []).eval a, (Act.mk tm []).eval x] := by simp
          rw [this, hrun]
          rfl
        · exact h.elim
      case len => exact quiet h
      case cap => exact quiet h
      case max => exact quiet h
      case min => exact quiet h
      all_goals exact bvc h
  case move => exact quiet h
  case assign => exact quiet h
  case pick => exact quiet h
  case nilCheck => exact quiet h
  case unOp => exact quiet h
  case load => exact quiet h
  case fieldAddr => exact quiet h
  case field => exact quiet h
  case indexAddr => exact quiet h
  case index => exact quiet h
  case extract => exact quiet h
  case slice => exact quiet h
  case makeFunc => exact quiet h
  case makeInterface => exact quiet h
  case convert => exact quiet h
  case build => exact quiet h
  all_goals first | exact other h | exact (quiet h)


theorem aop_vc {o : Oper} {K : List AV → Hp → Prop} (hg : o.guard = none) (h : vc P (evA F) H o.type (fun r H' => K (putA F o.dst r) H') o.op) : AOp P ops o F H K := fun w tm Q next h1 h2 hn => by
  unfold wpOp1
  rw [if_pos (by simp [Region.wanted, hg])]
  exact .inl (vc_wp h h1 h2 (fun x => h2.eval [] x) hn)

theorem guardB_spec {j : Nat} {want b : Bool} (h : guardB ops F j want = some b) {w : NW} {tm : Array Value} (h2 : RelF w F tm) : (yielded ops tm j == some want) = b := by
  unfold guardB at h
  split at h
  · rename_i d hd
    split at h <;> try cases h
    · rename_i b' hF
      have hlt : d < tm.size := by rw [← h2.1]; exact (List.getElem?_eq_some_iff.1 hF).1
      have := raw_inv (h2.2 d _ _ hF (Array.getElem?_eq_getElem hlt))
      unfold yielded
      rw [hd, Option.bind_some, Array.getElem?_eq_getElem hlt, this]
      cases b' <;> cases want <;> rfl
    · rename_i g b' hF
      have hlt : d < tm.size := by rw [← h2.1]; exact (List.getElem?_eq_some_iff.1 hF).1
      have hr := h2.2 d _ _ hF (Array.getElem?_eq_getElem hlt)
      unfold yielded
      rw [hd, Option.bind_some, Array.getElem?_eq_getElem hlt]
      cases hr with
      | gd _ _ _ hh hu => cases g with
        | true =>
          have := raw_inv (hh rfl)
          rw [this]
          cases b' <;> cases want <;> rfl
        | false => rw [hu rfl]; rfl
  · cases h

theorem evG_rel {w : NW} {tm : Array Value} (h2 : RelF w F tm) (x : Operand) (ok : (unG (evA F x)).1 = true) : RelV w (evG F x) ((Act.mk tm []).eval x) := unG_rel (h2.eval [] x) ok

/-- Operands that an operation does not look at may be taken for anything. -/
def evO (F : List AV) (x : Operand) : AV := if (unG (evA F x)).1 = true then evG F x else .any

theorem opt_map_congr {f g : Operand → AV} {o : Option Operand} (h : ∀ x ∈ o.toList, f x = g x) : o.map f = o.map g := by
  cases o with
  | none => rfl
  | some x => simp [h x (by simp)]
theorem vq_congr {ev ev' : Operand → AV} (o : Op) (h : ∀ x ∈ o.operands.toList, ev x = ev' x) : vq P ev H o = vq P ev' H o := by
  cases o
  case call c =>
    obtain ⟨callee, args, ts⟩ := c
    cases callee
    case builtin b =>
      simp only [vq]
      rw [List.map_congr_left (fun x hx => h x (by simpa [Op.operands, Call.operands] using hx))]
    all_goals rfl
  case slice t a lo hi mx =>
    simp only [Op.operands] at h
    simp only [vq]
    rw [h a (by simp), opt_map_congr (o := lo) (fun x hx => h x (by simp at hx ⊢; simp [hx])), opt_map_congr (o := hi) (fun x hx => h x (by simp at hx ⊢; simp [hx])), opt_map_congr (o := mx) (fun x hx => h x (by simp at hx ⊢; simp [hx]))]
  case makeFunc fn a b =>
    simp only [Op.operands] at h
    simp only [vq]
    rw [List.map_congr_left (l := a.toList) (fun x hx => h x (by simp at hx ⊢; simp [hx])), List.map_congr_left (l := b.toList) (fun x hx => h x (by simp at hx ⊢; simp [hx]))]
  case build t ps =>
    simp only [Op.operands] at h
    simp only [vq]
    rw [List.map_congr_left (g := fun p => (p.1, ev' p.2)) (fun x hx => by rw [h x.2 (by simp at hx ⊢; exact ⟨_, hx⟩)])]
  all_goals first
    | rfl
    | (simp only [Op.operands] at h; simp only [vq]; (repeat rw [h _ (by simp)]))


theorem evO_rel {w : NW} {tm : Array Value} (h2 : RelF w F tm) (x : Operand) : RelV w (evO F x) ((Act.mk tm []).eval x) := by
  unfold evO
  split
  · rename_i h; exact evG_rel h2 x h
  · exact .any _
theorem evO_ok {o : Op} (h : okG F o = true) : ∀ x ∈ o.operands.toList, evO F x = evG F x := fun x hx => by
  unfold evO
  rw [if_pos]
  simp only [okG, List.all_eq_true] at h
  exact h x hx

theorem aop_guard {o : Oper} {j : Nat} {want b : Bool} {K : List AV → Hp → Prop} (hg : o.guard = some (j, want)) (hb : guardB ops F j want = some b)
    (ht : b = true → ∀ w tm (Q : Exit → Act → World → Prop) (next : Act → World → Prop), RelW w H → RelF w F tm → (∀ tm' w' F' H', K F' H' → RelW w' H' → RelF w' F' tm' → Ext w H w' H' → next ⟨tm', []⟩ w') → o.wp P ⟨tm, []⟩ w.toWorld next Q)
    (hf : b = false → ∃ r, (∀ w : NW, RelV w r undef) ∧ K (putA F o.dst r) H) : AOp P ops o F H K := fun w tm Q next h1 h2 hn => by
  have hy := guardB_spec hb h2
  unfold wpOp1
  have hw : Region.wanted o (yielded ops (Act.mk tm []).tmps) = b := by
    unfold Region.wanted
    rw [hg]
    exact hy
  cases b with
  | true =>
    rw [if_pos hw]
    exact .inl (ht rfl w tm Q next h1 h2 hn)
  | false =>
    rw [if_neg (by rw [hw]; exact Bool.false_ne_true)]
    obtain ⟨r, hr, hk⟩ := hf rfl
    rw [Act.put_eq]
    exact hn _ w _ H hk h1 (h2.put o.dst (hr w) []) (Ext.refl w H)

theorem gd_rel {r : AV} {g : Bool} (hg : g = false) (w : NW) : RelV w (.gd g r) undef := .gd _ _ _ (fun h => by rw [hg] at h; cases h) (fun _ => rfl)
theorem gd_won {w : NW} {r : AV} {v : Value} {g : Bool} (hg : g = true) (h : RelV w r v) : RelV w (.gd g r) v := .gd _ _ _ (fun _ => h) (fun h => by rw [hg] at h; cases h)

theorem vcl_sound {K : List AV → Hp → Prop} : ∀ (l : List Oper) (F : List AV) (H : Hp), vcl P ops K l F H → AOps P ops K l F H
  | [], F, H, h => aops_nil h
  | o :: rest, F, H, h => by
    refine aops_cons ?_
    simp only [vcl] at h
    split at h
    · rename_i hg
      exact (aop_vc (K := fun F' H' => vcl P ops K rest F' H') hg h).mono fun F' H' hk => vcl_sound rest F' H' hk
    · rename_i j want hg
      split at h
      · rename_i b hb
        split at h
        · refine AOp.mono (K := fun F' H' => vcl P ops K rest F' H') ?_ fun F' H' hk => vcl_sound rest F' H' hk
          obtain ⟨dst, op, ty, pos, after, guard⟩ := o
          unfold vcG at h
          split at h
          · rename_i f args argTypes heq
            cases heq
            obtain ⟨r, hc, hk⟩ := h
            refine aop_guard hg hb (fun hbw w tm Q next h1 h2 hn => ?_) (fun hbw => ⟨_, gd_rel hbw, hk⟩)
            obtain ⟨ok, hcall⟩ := hc hbw
            have hcg := evO_ok ok
            have e1 : evO F f = evG F f := hcg f (by simp [Op.operands, Call.operands])
            have e2 : args.toList.map (evO F) = args.toList.map (evG F) := List.map_congr_left fun x hx => hcg x (by simp [Op.operands, Call.operands] at hx ⊢; exact .inr hx)
            refine call_sound (ev := evO F) e1 e2 hcall h1 (evO_rel h2) fun v r' w' H' hR g1 g2 g3 => ?_
            obtain ⟨rfl, rfl⟩ := hR
            rw [Act.put_eq]
            exact hn _ w' _ H' hk g1 ((h2.ext g3).put dst (gd_won hbw g2) []) g3
          · rename_i c x y heq
            simp only at heq
            subst heq
            obtain ⟨hs, hk⟩ := h
            refine aop_guard hg hb (fun hbw w tm Q next h1 h2 hn => ?_) (fun hbw => ⟨_, gd_rel hbw, hk⟩)
            obtain ⟨ok, hq⟩ := hs hbw
            obtain ⟨v, hrun, hv⟩ := pick_sound (P := P) (ρ := (Act.mk tm []).eval) (dst := dst) (ty := ty) (pos := pos) (after := after) (guard := guard) (evG_rel h2 c ok) (h2.eval [] x) (h2.eval [] y) hq
            simp only [Oper.wp, hrun, Oper.upon]
            rw [Act.put_eq]
            exact hn _ w _ H hk h1 (h2.put dst (gd_won hbw hv) []) (Ext.refl w H)
          · split at h
            · obtain ⟨hs, hk⟩ := h
              refine aop_guard hg hb (fun hbw w tm Q next h1 h2 hn => ?_) (fun hbw => ⟨_, gd_rel hbw, hk⟩)
              obtain ⟨ok, hq⟩ := hs hbw
              rw [← vq_congr _ (evO_ok ok)] at hq
              obtain ⟨v, hrun, hv⟩ := vq_sound (ρ := (Act.mk tm []).eval) ⟨dst, op, ty, pos, after, guard⟩ h1 (evO_rel h2) hq
              simp only [Oper.wp, hrun, Oper.upon]
              rw [Act.put_eq]
              rw [vq_congr _ (evO_ok ok)] at hv
              exact hn _ w _ H hk h1 (h2.put dst (gd_won hbw hv) []) (Ext.refl w H)
            · exact h.elim
        · refine AOp.mono (K := fun F' H' => vcl P ops K rest F' H') ?_ fun F' H' hk => vcl_sound rest F' H' hk
          refine aop_guard hg hb (fun hbw w tm Q next h1 h2 hn => ?_) (fun hbw => ⟨_, fun w => .any _, h.2 hbw⟩)
          exact vc_wp (h.1 hbw) h1 h2 (fun x => h2.eval [] x) hn
      · exact h.elim

theorem awp_region_vcl {id : Nat} {l : List Oper} {Q : Exit → List AV → Hp → Prop} (h : vcl P l.toArray (Q .normal) l F H) : AWP P (.region id l.toArray false) Q F H :=
  awp_region (by simpa using vcl_sound l F H h)

-- the results of a body

/-- The results of a body, of slots or of cells. -/
def ares (P : Program) (H : Hp) (F : List AV) : List ResultVar → Option (List AV)
  | [] => some []
  | .tmp t :: rest => (ares P H F rest).map (F.getD t .any :: ·)
  | .cell a t :: rest => match cellsAt H (F.getD a .any), isAggT P t, szOf P t with
    | some (_, cs), some ag, some k => (ares P H F rest).map (loaded ag k cs :: ·)
    | _, _, _ => none
/-- What reading the results asks. -/
def aresOK (P : Program) (H : Hp) (F : List AV) : List ResultVar → Prop
  | [] => True
  | .tmp _ :: rest => aresOK P H F rest
  | .cell a t :: rest => match cellsAt H (F.getD a .any), szOf P t with
    | some (c, cs), some k => (c ∧ k ≤ cs.length ∧ 1 ≤ cs.length) ∧ aresOK P H F rest
    | _, _ => False
def aresult : List AV → AV
  | [r] => r
  | rs => .tup rs

def resF (tm : Array Value) : ResultVar → Sem Value
  | .tmp t => pure (tm.getD t undef)
  | .cell a t => do loadVar t (← asAddr (tm.getD a undef))
theorem results_eq (fn : Func) (tm : Array Value) : results fn tm = (do let vs ← fn.results.mapM (resF tm); pure (if h : vs.size = 1 then vs[0] else .tuple vs)) := rfl

theorem ares_run {w : NW} {tm : Array Value} (hw : RelW w H) (h2 : RelF w F tm) : ∀ (rs : List ResultVar) (out : List AV), aresOK P H F rs → ares P H F rs = some out →
    ∃ vs : List Value, RelL w out vs ∧ (rs.mapM (resF tm)).run P w.toWorld = .ok vs w.toWorld
  | [], out, _, h => by
    simp [ares] at h
    subst h
    exact ⟨[], ⟨rfl, fun i a v ha => by simp at ha⟩, by simp⟩
  | .tmp t :: rest, out, hok, h => by
    simp only [ares, Option.map_eq_some_iff] at h
    obtain ⟨l, hl, rfl⟩ := h
    obtain ⟨vs, hrel, hrun⟩ := ares_run hw h2 rest l hok hl
    refine ⟨tm.getD t undef :: vs, ⟨by simp [hrel.1], fun i a v ha hv => ?_⟩, ?_⟩
    · cases i with
      | zero =>
        simp only [List.getElem?_cons_zero, Option.some.injEq] at ha hv
        subst ha hv
        exact h2.eval [] (.tmp t)
      | succ i => exact hrel.2 i a v (by simpa using ha) (by simpa using hv)
    · rw [List.mapM_cons]
      simp only [resF, Sem.run_bind, Sem.run_pure, Result.andThen_ok]
      rw [hrun]
      rfl
  | .cell ad t :: rest, out, hok, h => by
    simp only [ares] at h
    simp only [aresOK] at hok
    split at h
    · rename_i c cs ag k e1 e2 e3
      rw [e1, e3] at hok
      obtain ⟨⟨hc, hk1, hk2⟩, hok⟩ := hok
      simp only [Option.map_eq_some_iff] at h
      obtain ⟨l, hl, rfl⟩ := h
      obtain ⟨vs, hrel, hrun⟩ := ares_run hw h2 rest l hok hl
      obtain ⟨addr, us, hv, hcell, hr⟩ := cellsAt_rel (h2.eval [] (.tmp ad)) hw e1 hc
      obtain ⟨v, hload, hvr⟩ := loadVar_sound (P := P) e2 e3 hk1 hk2 hcell hr
      have hv' : tm.getD ad undef = .pointer (some addr) := hv
      refine ⟨v :: vs, ⟨by simp [hrel.1], fun i a u ha hu => ?_⟩, ?_⟩
      · cases i with
        | zero =>
          simp only [List.getElem?_cons_zero, Option.some.injEq] at ha hu
          subst ha hu
          exact hvr
        | succ i => exact hrel.2 i a u (by simpa using ha) (by simpa using hu)
      · rw [List.mapM_cons]
        have ha : (asAddr (tm.getD ad undef)).run P w.toWorld = .ok addr w.toWorld := by rw [hv']; rfl
        have hf : (resF tm (.cell ad t)).run P w.toWorld = .ok v w.toWorld := by simp only [resF, Sem.run_bind, ha, hload, Result.andThen_ok]
        simp only [Sem.run_bind, hf, hrun, Sem.run_pure, Result.andThen_ok]
    · cases h

theorem results_run {fn : Func} {w : NW} {tm : Array Value} {out : List AV} (hw : RelW w H) (h2 : RelF w F tm) (hok : aresOK P H F fn.results.toList) (h : ares P H F fn.results.toList = some out) : ∃ v, (results fn tm).run P w.toWorld = .ok v w.toWorld ∧ RelV w (aresult out) v := by
  obtain ⟨vs, hrel, hrun⟩ := ares_run (P := P) hw h2 _ out hok h
  have hm : (fn.results.mapM (resF tm)).run P w.toWorld = .ok vs.toArray w.toWorld := by
    rw [Array.mapM_eq_mapM_toList]
    simp only [Sem.run_map, hrun, Result.andThen_ok]
  have hr : (results fn tm).run P w.toWorld = .ok (if h : vs.toArray.size = 1 then vs.toArray[0] else .tuple vs.toArray) w.toWorld := by
    rw [results_eq]
    simp only [Sem.run_bind, hm, Result.andThen_ok, Sem.run_pure]
  refine ⟨_, hr, ?_⟩
  match vs, out, hrel with
  | [], [], hrel => exact .tup _ _ rfl fun i a v ha => by simp at ha
  | [v], [a], hrel => exact hrel.2 0 _ _ rfl rfl
  | v :: v' :: vs, a :: a' :: out, hrel => exact .tup _ _ (by have := hrel.1; simpa using this) fun i x y hx hy => hrel.2 i x y hx (by simpa using hy)
  | [], _ :: _, hrel => have := hrel.1; simp at this
  | _ :: _, [], hrel => have := hrel.1; simp at this
  | [_], _ :: _ :: _, hrel => have := hrel.1; simp at this
  | _ :: _ :: _, [_], hrel => have := hrel.1; simp at this

/-- A function entered. -/
def ARet (P : Program) (fn : Func) (R : AV → List (Nat × Row) → Prop) : Exit → List AV → Hp → Prop
  | .normal, F, H | .ret, F, H => ∃ out r H', ares P H F fn.results.toList = some out ∧ aresOK P H F fn.results.toList ∧ RLe (aresult out) H r H' ∧ R r H'.l
  | _, _, _ => False

theorem acalls_of {f : FuncId} {fn : Func} {c : Code} {args : List AV} {l : List (Nat × Row)} {R : AV → List (Nat × Row) → Prop} (hf : P.funcs[f]? = some fn) (hb : fn.body = some c) (h : AWP P c (ARet P fn R) (args ++ List.replicate (fn.ntmps - args.length) .any) (entry l)) :
    ACalls P f args l R := fun w vs h1 h2 => by
  have hlen : args.length = vs.size := h2.1
  refine calls_of_wp hf hb (wp_mono (h w _ h1 ?_) ?_)
  · refine ⟨by simp [hlen], fun i a v ha hv => ?_⟩
    rcases Nat.lt_or_ge i args.length with hi | hi
    · rw [List.getElem?_append_left hi] at ha
      rw [Array.getElem?_append_left (by omega)] at hv
      exact h2.2 i a v ha hv
    · rw [List.getElem?_append_right hi] at ha
      rw [List.getElem?_replicate] at ha
      split at ha <;> cases ha
      exact .any _
  · rintro e a W ⟨tm, F', H', w', rfl, rfl, hq, g1, g2, g3⟩
    have fin : (∃ out r H'', ares P H' F' fn.results.toList = some out ∧ aresOK P H' F' fn.results.toList ∧ RLe (aresult out) H' r H'' ∧ R r H''.l) →
        ∃ v, (results fn tm).run P w'.toWorld = .ok v w'.toWorld ∧ ∃ v' r H'' w'', w'.toWorld = NW.toWorld w'' ∧ Ending.returned v = .returned v' ∧ R r (Hp.l H'') ∧ RelW w'' H'' ∧ RelV w'' r v' ∧ ExtB w (entry l) w'' H'' := by
      rintro ⟨out, r, H'', e1, e0, e2, e3⟩
      obtain ⟨v, hrun, hv⟩ := results_run g1 g2 e0 e1
      obtain ⟨w'', k0, k1, k2, k3⟩ := e2 w' v g1 hv
      exact ⟨v, hrun, v, r, H'', w'', k0.symm, rfl, e3, k1, k2, g3.trans k3⟩
    cases e with
    | normal => exact ⟨rfl, fin hq⟩
    | ret => exact ⟨rfl, fin hq⟩
    | exit id => exact hq.elim
    | goto l => exact hq.elim
    | panic ch => exact hq.elim
    | outgrown => exact hq.elim

end
end Go.Gd
