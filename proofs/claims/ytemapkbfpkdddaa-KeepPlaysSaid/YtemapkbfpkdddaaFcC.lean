/- What single operations make of abstract values: loads, stores, addresses, numbers, texts. No conditions. -/
import Derived.Test.YtemapkbfpkdddaaFcB
set_option linter.all false
namespace Go.Fc
open Go

def szOf (P : Program) (t : TypeId) : Option Nat := (P.info? t).map (·.size)
def isAggT (P : Program) (t : TypeId) : Option Bool := (P.underlying t).map fun | .struct _ | .array _ _ => true | _ => false
def fOff (P : Program) (t : TypeId) (f : Nat) : Option Nat := match P.underlying t with
  | some (.struct fs) => match fs[f]? with
    | some fd => match szOf P fd.type with
      | some (_ + 1) => some fd.offset
      | _ => none
    | none => none
  | _ => none
def elT (P : Program) (t : TypeId) : Option TypeId := match P.underlying t with
  | some (.slice e) => some e
  | _ => none
def zeroL (P : Program) (t : TypeId) : Option (List Value) := ((P.info? t).bind (·.zero)).map fun v => v.cells.toList

def AV.one : AV → Bool
  | .raw v => v.oneCell'
  | .sl .. => true
  | .ip _ => true
  | _ => false
def ones (l : List AV) : Bool := l.all AV.one
/-- The cells of a value: of a struct its fields', else itself. -/
def AV.cells : AV → List AV
  | .agg cs => cs
  | .raw (.agg vs) => vs.toList.map .raw
  | v => [v]

def cellsAt (H : Hp) : AV → Option (List AV)
  | .ip cs => some cs
  | .raw (.pointer (some ⟨b, off, none⟩)) => match H b with
    | some r => if off ≤ r.cells.length then some (r.cells.drop off) else none
    | none => none
  | _ => none

section
variable {P : Program} {w : World} {H : Hp}

theorem RelV.one {a : AV} {v : Value} (h : RelV w H a v) (h1 : a.one = true) : v.oneCell' = true := by
  cases h <;> first | exact h1 | rfl | simp [AV.one] at h1

theorem cell_of (g i : Nat) (cur : Array Value) (t : TypeId) (fr : Nat × Nat) (hg : w.heap[g]? = some (.cells cur t fr)) : w.cell? ⟨g, i, none⟩ = cur[i]? := by simp [World.cell?, hg]

theorem cellsAt_rel {a : AV} {va : Value} {cs : List AV} (h : RelV w H a va) (hw : RelW w H) (hc : cellsAt H a = some cs) :
    ∃ (ad : Addr) (vs : Nat → Value), va = .pointer (some ad) ∧ (∀ j, j < cs.length → w.cell? (ad.add j) = some (vs j)) ∧ ∀ (j : Nat) u, cs[j]? = some u → RelV w H u (vs j) := by
  unfold cellsAt at hc
  split at hc
  · cases hc
    cases h with
    | ip _ ad vs hb hH hcell hr => exact ⟨ad, vs, rfl, hcell, hr⟩
  · rename_i b off
    cases hH : H b with
    | none => rw [hH] at hc; cases hc
    | some r =>
      rw [hH] at hc
      simp only at hc
      split at hc
      · cases hc
        cases h
        obtain ⟨cur, hh, hs, hl, hr⟩ := hw b r hH
        refine ⟨⟨b, off, none⟩, fun j => cur.getD (off + j) undef, rfl, fun j hj => ?_, fun j u hu => ?_⟩
        · rw [add_plain, cell_of b _ cur r.elem (0, 0) hh]
          simp only [List.length_drop] at hj
          have : off + j < cur.size := by omega
          simp [this]
        · rw [List.getElem?_drop] at hu
          have hlt : off + j < r.cells.length := (List.getElem?_eq_some_iff.1 hu).1
          have : off + j < cur.size := by omega
          exact hr _ _ _ hu (by simp [this])
      · cases hc
  · cases hc

theorem run_isAgg' {t : TypeId} {b : Bool} (h : isAggT P t = some b) : (isAgg t).run P w = .ok b w := by
  unfold isAggT at h
  cases hu : P.underlying t with
  | none => rw [hu] at h; cases h
  | some d =>
    rw [hu] at h
    simp only [Option.map_some, Option.some.injEq] at h
    simp only [isAgg, Sem.run_bind, run_underlying hu, Result.andThen_ok]
    subst h
    cases d <;> rfl
theorem run_sizeOf' {t : TypeId} {k : Nat} (h : szOf P t = some k) : (sizeOf t).run P w = .ok k w := by
  unfold szOf at h
  cases hi : P.info? t with
  | none => rw [hi] at h; cases h
  | some i =>
    rw [hi] at h
    simp only [Option.map_some, Option.some.injEq] at h
    simp [sizeOf, typeInfo, hi, h]

/-- What is loaded. -/
def loaded (ag : Bool) (k : Nat) (cs : List AV) : AV := if ag then .agg (cs.take k) else cs.getD 0 .any

theorem loadVar_sound {t : TypeId} {ad : Addr} {cs : List AV} {vs : Nat → Value} {ag : Bool} {k : Nat} (hag : isAggT P t = some ag) (hsz : szOf P t = some k) (hk : k ≤ cs.length) (hk1 : 1 ≤ cs.length)
    (hcell : ∀ j, j < cs.length → w.cell? (ad.add j) = some (vs j)) (hr : ∀ (j : Nat) u, cs[j]? = some u → RelV w H u (vs j)) :
    ∃ v, (loadVar t ad).run P w = .ok v w ∧ RelV w H (loaded ag k cs) v := by
  simp only [loadVar, Sem.run_bind, run_isAgg' hag, Result.andThen_ok]
  cases ag with
  | false =>
    simp only [Bool.false_eq_true, if_false, loaded]
    have h0 := hcell 0 (by omega)
    rw [add_zero_] at h0
    refine ⟨vs 0, by rw [run_load]; simp [h0], ?_⟩
    have : cs[0]? = some (cs.getD 0 .any) := by simp [List.getElem?_eq_getElem (show 0 < cs.length by omega)]
    exact hr 0 _ this
  | true =>
    simp only [if_true, loaded]
    simp only [Sem.run_bind, run_sizeOf' hsz, Result.andThen_ok, run_loadCells w ad k vs (fun j hj => hcell j (by omega)), Sem.run_pure]
    refine ⟨_, rfl, .agg _ _ (by simp; omega) fun i a v ha hv => ?_⟩
    have hi : i < k := by
      have := (List.getElem?_eq_some_iff.1 ha).1
      simp at this; omega
    rw [List.getElem?_take, if_pos hi] at ha
    have hv' : v = vs i := by
      have : (List.map vs (List.range k)).toArray[i]? = some (vs i) := by simp [hi]
      rw [this] at hv
      cases hv; rfl
    subst hv'
    exact hr i a ha

theorem loadAt_sound {t : TypeId} {a : AV} {va : Value} {cs : List AV} {ag : Bool} {k : Nat} (h : RelV w H a va) (hw : RelW w H) (hc : cellsAt H a = some cs) (hag : isAggT P t = some ag) (hsz : szOf P t = some k) (hk : k ≤ cs.length) (hk1 : 1 ≤ cs.length) :
    ∃ v, (Instr.loadAt t va).run P w = .ok v w ∧ RelV w H (loaded ag k cs) v := by
  obtain ⟨ad, vs, rfl, hcell, hr⟩ := cellsAt_rel h hw hc
  obtain ⟨v, h1, h2⟩ := loadVar_sound hag hsz hk hk1 hcell hr
  exact ⟨v, by simpa [Instr.loadAt, Instr.sureAddr] using h1, h2⟩

/-- The cells of a value, as the model has them. -/
theorem RelV.cells_rel {a : AV} {v : Value} (h : RelV w H a v) (h1 : ones a.cells = true) : RelL w H a.cells v.cells.toList := by
  unfold AV.cells at *
  split
  · rename_i cs
    cases h with
    | agg _ vs hl hr => exact ⟨by simpa [Value.cells] using hl, fun i a v ha hv => hr i a v ha (by simpa [Value.cells] using hv)⟩
  · rename_i vs
    cases h
    refine ⟨by simp [Value.cells], fun i a v ha hv => ?_⟩
    simp only [List.getElem?_map, Option.map_eq_some_iff] at ha
    obtain ⟨x, hx, rfl⟩ := ha
    simp only [Value.cells] at hv
    rw [hx] at hv
    cases hv
    exact .raw _
  · rename_i hna hnr
    have h1' : a.one = true := by simpa [ones] using h1
    have ho := h.one h1'
    have hcv : v.cells = #[v] := by
      cases v <;> first | rfl | simp [Value.oneCell'] at ho
    rw [hcv]
    refine ⟨rfl, fun i a' v' ha hv => ?_⟩
    cases i with
    | zero => simp at ha hv; subst ha hv; exact h
    | succ i => simp at ha

theorem RelL.ones {cs : List AV} {vs : List Value} (h : RelL w H cs vs) (h1 : ones cs = true) : ∀ v ∈ vs, v.oneCell' = true := by
  intro v hv
  obtain ⟨i, hi⟩ := List.getElem?_of_mem hv
  have hlt : i < cs.length := by rw [h.1]; exact (List.getElem?_eq_some_iff.1 hi).1
  have := h.2 i cs[i] v (List.getElem?_eq_getElem hlt) hi
  exact this.one (by simp only [Fc.ones, List.all_eq_true] at h1; exact h1 _ (List.getElem_mem hlt))

/-- Cells put in the place of cells. -/
def splice (cells : List AV) (off : Nat) (new : List AV) : List AV := cells.take off ++ new ++ cells.drop (off + new.length)
theorem splice_length {cells new : List AV} {off : Nat} (h : off + new.length ≤ cells.length) : (splice cells off new).length = cells.length := by
  simp [splice]; omega
theorem splice_length' {cells new : List AV} {off : Nat} (h : off ≤ cells.length) : (splice cells off new).length = max cells.length (off + new.length) := by
  simp [splice]; omega

theorem storeCells_sound {b off : Nat} {r : Row} {new : List AV} {vs : List Value} (hw : RelW w H) (hb : H b = some r) (hn : RelL w H new vs) (h1 : Fc.ones new = true) (hoff : off ≤ r.cells.length) (hfit : off + new.length ≤ r.size) :
    ∃ w', (storeCells ⟨b, off, none⟩ vs).run P w = .ok () w' ∧ RelW w' (H.put b ⟨r.elem, splice r.cells off new, r.size⟩) ∧ Ext w H w' (H.put b ⟨r.elem, splice r.cells off new, r.size⟩) := by
  obtain ⟨cur, hh, hs, hl, hr⟩ := hw b r hb
  have hlen := hn.1
  refine ⟨_, run_storeCells_at P b off r.elem vs 0 cur w hh (by omega) (hn.ones h1), ?_⟩
  rw [Nat.add_zero]
  generalize hcur : (cur.toList.take off ++ vs ++ cur.toList.drop (off + vs.length)).toArray = cur'
  have hsz : cur'.size = r.size := by
    subst hcur
    simp
    omega
  have hheap : (w.setRow b cur').heap[b]? = some (.cells cur' r.elem (0, 0)) := setRow_heap w b cur cur' r.elem (0, 0) hh
  have hoth : ∀ c, c ≠ b → (w.setRow b cur').heap[c]? = w.heap[c]? := fun c hc => by
    simp only [World.setRow, Array.getElem?_modify]
    rw [if_neg (by omega)]
  have hsame : (w.setRow b cur').heap.size = w.heap.size := by simp [World.setRow]
  refine ⟨?_, Ext.write hb rfl rfl rfl hsame hoth⟩
  have := RelW.write hw hb (w' := w.setRow b cur') rfl rfl rfl hsame hoth r.elem cur' (splice r.cells off new) hheap (by rw [splice_length' hoff]; omega) (fun i a v ha hv => ?_)
  · rw [hsz] at this; exact this
  · subst hcur
    have hi : i < max r.cells.length (off + new.length) := by
      have := (List.getElem?_eq_some_iff.1 ha).1
      rwa [splice_length' hoff] at this
    simp only [splice] at ha
    simp only [List.getElem?_toArray] at hv
    rcases Nat.lt_or_ge i off with h1 | h1
    · rw [List.append_assoc, List.getElem?_append_left (by simp; omega), List.getElem?_take, if_pos h1] at ha hv
      exact hr i a v ha (by simpa using hv)
    · rcases Nat.lt_or_ge i (off + new.length) with h2 | h2
      · rw [List.append_assoc, List.getElem?_append_right (by simp; omega), List.getElem?_append_left (by simp; omega)] at ha hv
        simp only [List.length_take, Array.length_toList] at ha hv
        rw [show i - min off r.cells.length = i - off by omega] at ha
        rw [show i - min off cur.size = i - off by omega] at hv
        exact hn.2 _ a v ha hv
      · rw [List.getElem?_append_right (by simp; omega)] at ha hv
        simp only [List.length_append, List.length_take, Array.length_toList, List.getElem?_drop] at ha hv
        rw [show off + new.length + (i - (min off r.cells.length + new.length)) = i by omega] at ha
        rw [show off + vs.length + (i - (min off cur.size + vs.length)) = i by omega] at hv
        exact hr i a v ha (by simpa using hv)

theorem storeAt_sound {t : TypeId} {b off k : Nat} {r : Row} {x : AV} {v : Value} (hw : RelW w H) (hb : H b = some r) (hx : RelV w H x v) (h1 : Fc.ones x.cells = true) (hsz : szOf P t = some k) (hk : x.cells.length = k) (hfit : off + k ≤ r.cells.length) :
    ∃ w', (Instr.storeAt t (.pointer (some ⟨b, off, none⟩)) v).run P w = .ok () w' ∧ RelW w' (H.put b ⟨r.elem, splice r.cells off x.cells, r.size⟩) ∧ Ext w H w' (H.put b ⟨r.elem, splice r.cells off x.cells, r.size⟩) := by
  have hc := hx.cells_rel h1
  obtain ⟨w', hrun, h2, h3⟩ := storeCells_sound (P := P) (off := off) hw hb hc h1 (by omega) (by have := (hw b r hb); obtain ⟨_, _, _, hle, _⟩ := this; omega)
  refine ⟨w', ?_, h2, h3⟩
  have hsize : v.cells.size = k := by have := hc.1; simp at this; omega
  simp only [Instr.storeAt, Instr.sureAddr, pure_bind, storeVar, Sem.run_bind, run_sizeOf' hsz, Result.andThen_ok, hsize, ne_eq, not_true_eq_false, if_false]
  simpa using hrun

/-- A new variable. -/
theorem newVar_sound {t : TypeId} {x : AV} {v : Value} (hw : RelW w H) (hx : RelV w H x v) (h1 : Fc.ones x.cells = true) :
    ∃ b w', H b = none ∧ (Instr.box t v).run P w = .ok (.pointer (some ⟨b, 0, none⟩)) w' ∧ RelW w' (H.put b ⟨t, x.cells, x.cells.length⟩) ∧ Ext w H w' (H.put b ⟨t, x.cells, x.cells.length⟩) := by
  have hc := hx.cells_rel h1
  have hlen : x.cells.length = v.cells.size := by have := hc.1; simpa using this
  refine ⟨w.heap.size, w.alloc (.cells v.cells t), hw.ge (Nat.le_refl _), by simp [Instr.box, newVar, newRow], ?_⟩
  rw [show (⟨t, x.cells, x.cells.length⟩ : Row) = ⟨t, x.cells, v.cells.size⟩ by rw [hlen]]
  exact ⟨RelW.alloc_own hw t v.cells x.cells (by omega) (fun i a u ha hu => hc.2 i a u ha (by simpa using hu)), Ext.alloc_own hw _ _⟩

theorem zeroL_ones {t : TypeId} {zs : List Value} (h : zeroL P t = some zs) : ∃ z : Value, (zeroValue t).run P w = .ok z w ∧ z.cells.toList = zs := by
  unfold zeroL at h
  cases hi : P.info? t with
  | none => rw [hi] at h; cases h
  | some i =>
    rw [hi] at h
    simp only [Option.bind_some, Option.map_eq_some_iff] at h
    obtain ⟨z, hz, rfl⟩ := h
    exact ⟨z, by simp [zeroValue, typeInfo, hi, hz], rfl⟩

theorem alloc_sound {t : TypeId} {zs : List Value} (hw : RelW w H) (hz : zeroL P t = some zs) :
    ∃ b w', H b = none ∧ (Instr.alloc t true (.tuple #[])).run P w = .ok (.pointer (some ⟨b, 0, none⟩)) w' ∧ RelW w' (H.put b ⟨t, zs.map .raw, zs.length⟩) ∧ Ext w H w' (H.put b ⟨t, zs.map .raw, zs.length⟩) := by
  obtain ⟨z, hrun, rfl⟩ := zeroL_ones (w := w) hz
  refine ⟨w.heap.size, w.alloc (.cells z.cells t), hw.ge (Nat.le_refl _), by simp [Instr.alloc, hrun, newVar, newRow], ?_⟩
  rw [show (⟨t, z.cells.toList.map .raw, z.cells.toList.length⟩ : Row) = ⟨t, z.cells.toList.map .raw, z.cells.size⟩ by simp]
  refine ⟨RelW.alloc_own hw t z.cells _ (by simp) (fun i a u ha hu => ?_), Ext.alloc_own hw _ _⟩
  simp only [List.getElem?_map, Array.getElem?_toList, hu, Option.map_some, Option.some.injEq] at ha
  subst ha
  exact .raw _
end
end Go.Fc
