/- The abstract states of the walks: abstract values, owned rows, how they read in a world, and that a reading is kept while nothing but owned rows is written. No conditions. -/
import Derived.Tactics
import Derived.Below
import Derived.Laws.AppendOwn
import Derived.Laws.Cells
import Derived.Deep.LoopGhost
set_option linter.all false
namespace Go.Fc
open Go

inductive AV where
  | raw (v : Value)
  | any
  | agg (cs : List AV)
  | tup (vs : List AV)
  | sl (x : Bool) (sz n : Nat) (f : Nat → List AV)
  | ip (cs : List AV)
  | gd (p : Bool) (v : AV)
  | clo (f : FuncId) (cs : List AV)

instance : Inhabited AV := ⟨.any⟩

structure Row where
  elem : TypeId
  cells : List AV
  size : Nat

abbrev Hp := Nat → Option Row
def Hp.put (H : Hp) (b : Nat) (r : Row) : Hp := fun c => if c = b then some r else H c
def Hp.Sub (H H' : Hp) : Prop := ∀ b r, H b = some r → H' b = some r

theorem Hp.put_same (H : Hp) (b : Nat) (r : Row) : H.put b r b = some r := by simp [Hp.put]
theorem Hp.put_ne (H : Hp) {b c : Nat} (r : Row) (h : c ≠ b) : H.put b r c = H c := by simp [Hp.put, h]
theorem Hp.put_none {H : Hp} {b c : Nat} {r : Row} : (H.put b r c = none) ↔ (c ≠ b ∧ H c = none) := by
  unfold Hp.put; by_cases h : c = b <;> simp [h]
theorem Hp.put_put (H : Hp) (b : Nat) (r r' : Row) : (H.put b r).put b r' = H.put b r' := by
  funext c; unfold Hp.put; by_cases h : c = b <;> simp [h]
theorem Hp.Sub.refl (H : Hp) : H.Sub H := fun _ _ h => h
theorem Hp.Sub.trans {A B C : Hp} (h : A.Sub B) (k : B.Sub C) : A.Sub C := fun b r e => k b r (h b r e)
theorem Hp.Sub.put {A B : Hp} (h : A.Sub B) {b : Nat} (r : Row) (hb : A b = none) : A.Sub (B.put b r) := fun c s e => by
  have hne : c ≠ b := fun e' => by rw [e', hb] at e; cases e
  rw [Hp.put_ne _ _ hne]; exact h c s e
theorem Hp.Sub.none {A B : Hp} (h : A.Sub B) {b : Nat} (hb : B b = Option.none) : A b = Option.none := by
  cases e : A b with
  | none => rfl
  | some r => rw [h b r e] at hb; cases hb
theorem Hp.Sub.put2 {A B : Hp} (h : A.Sub B) (b : Nat) (r : Row) : (A.put b r).Sub (B.put b r) := fun c s e => by
  unfold Hp.put at *; by_cases hc : c = b <;> simp [hc] at e ⊢
  · exact e
  · exact h c s e
theorem Hp.ne_of {H : Hp} {b c : Nat} {r : Row} (hb : H b = some r) (hc : H c = none) : b ≠ c := fun e => by rw [e, hc] at hb; cases hb

/-- A block of plain memory. -/
def Plain (w : World) (b : Nat) : Prop := ∃ cur el, w.heap[b]? = some (.cells cur el (0, 0))

inductive RelV (w : World) (H : Hp) : AV → Value → Prop
  | raw (v : Value) : RelV w H (.raw v) v
  | any (v : Value) : RelV w H .any v
  | agg (cs : List AV) (vs : Array Value) (hl : cs.length = vs.size) (h : ∀ (i : Nat) a v, cs[i]? = some a → vs[i]? = some v → RelV w H a v) : RelV w H (.agg cs) (.agg vs)
  | tup (cs : List AV) (vs : Array Value) (hl : cs.length = vs.size) (h : ∀ (i : Nat) a v, cs[i]? = some a → vs[i]? = some v → RelV w H a v) : RelV w H (.tup cs) (.tuple vs)
  | sl0 (x : Bool) (sz : Nat) (f : Nat → List AV) (A : Option Addr) (c : Nat) (hx : x = true → c = 0) : RelV w H (.sl x sz 0 f) (.slice A 0 c)
  | sl (x : Bool) (sz n : Nat) (f : Nat → List AV) (a : Addr) (c : Nat) (vs : Nat → Value) (hn : 0 < n) (hc : n ≤ c) (hx : x = true → c = n ∧ Plain w a.block) (hsz : ∀ i, i < n → (f i).length = sz)
      (hb : a.block < w.heap.size) (hH : H a.block = none) (hcell : ∀ i j, i < n → j < sz → w.cell? (a.add (i * sz + j)) = some (vs (i * sz + j)))
      (h : ∀ i (j : Nat) u, i < n → (f i)[j]? = some u → RelV w H u (vs (i * sz + j))) : RelV w H (.sl x sz n f) (.slice (some a) n c)
  | ip (cs : List AV) (a : Addr) (vs : Nat → Value) (hb : a.block < w.heap.size) (hH : H a.block = none) (hcell : ∀ j, j < cs.length → w.cell? (a.add j) = some (vs j))
      (h : ∀ (j : Nat) u, cs[j]? = some u → RelV w H u (vs j)) : RelV w H (.ip cs) (.pointer (some a))
  | gd (p : Bool) (a : AV) (v : Value) (h : p = true → RelV w H a v) (hu : p = false → v = undef) : RelV w H (.gd p a) v
  | clo (f : FuncId) (cs : List AV) (vs : Array Value) (hl : cs.length = vs.size) (h : ∀ (i : Nat) a v, cs[i]? = some a → vs[i]? = some v → RelV w H a v) : RelV w H (.clo f cs) (.func (.func f) #[] vs)

/-- The cells of a list of abstract values, one by one. -/
def RelL (w : World) (H : Hp) (cs : List AV) (vs : List Value) : Prop := cs.length = vs.length ∧ ∀ (i : Nat) a v, cs[i]? = some a → vs[i]? = some v → RelV w H a v

def RowRel (w : World) (H : Hp) (b : Nat) (r : Row) : Prop :=
  ∃ cur : Array Value, w.heap[b]? = some (.cells cur r.elem (0, 0)) ∧ cur.size = r.size ∧ r.cells.length ≤ r.size ∧ ∀ (i : Nat) a v, r.cells[i]? = some a → cur[i]? = some v → RelV w H a v

def RelW (w : World) (H : Hp) : Prop := ∀ b r, H b = some r → RowRel w H b r

def RelF (w : World) (H : Hp) (F : List AV) (tm : Array Value) : Prop := F.length = tm.size ∧ ∀ (i : Nat) a v, F[i]? = some a → tm[i]? = some v → RelV w H a v

/-- From (w, H) to (w', H'): what was there and is not owned stays, and stays not owned. -/
structure Ext (w : World) (H : Hp) (w' : World) (H' : Hp) : Prop where
  os : w'.os = w.os
  tape : w'.tape = w.tape
  output : w'.output = w.output
  size : w.heap.size ≤ w'.heap.size
  keep : ∀ b, b < w.heap.size → H b = none → w'.heap[b]? = w.heap[b]? ∧ H' b = none

theorem Ext.refl (w : World) (H : Hp) : Ext w H w H := ⟨rfl, rfl, rfl, Nat.le_refl _, fun _ _ h => ⟨rfl, h⟩⟩
theorem Ext.trans {w w' w'' : World} {H H' H'' : Hp} (h : Ext w H w' H') (k : Ext w' H' w'' H'') : Ext w H w'' H'' :=
  ⟨k.os.trans h.os, k.tape.trans h.tape, k.output.trans h.output, Nat.le_trans h.size k.size, fun b hb hn =>
    ⟨(k.keep b (Nat.lt_of_lt_of_le hb h.size) (h.keep b hb hn).2).1.trans (h.keep b hb hn).1, (k.keep b (Nat.lt_of_lt_of_le hb h.size) (h.keep b hb hn).2).2⟩⟩

theorem block_of_add (a : Addr) (n : Nat) : (a.add n).block = a.block := by unfold Addr.add; split <;> rfl
theorem add_of_add (a : Addr) (i j : Nat) : (a.add i).add j = a.add (i + j) := by
  unfold Addr.add
  by_cases hi : i = 0 <;> by_cases hj : j = 0 <;> simp [hi, hj, Nat.add_assoc]
theorem add_zero_ (a : Addr) : a.add 0 = a := rfl
theorem add_plain (b o n : Nat) : (⟨b, o, none⟩ : Addr).add n = ⟨b, o + n, none⟩ := by unfold Addr.add; split <;> simp_all

theorem RelV.ext {w w' : World} {H H' : Hp} (e : Ext w H w' H') {a : AV} {v : Value} (h : RelV w H a v) : RelV w' H' a v := by
  induction h with
  | raw v => exact .raw v
  | any v => exact .any v
  | agg cs vs hl _ ih => exact .agg cs vs hl ih
  | tup cs vs hl _ ih => exact .tup cs vs hl ih
  | sl0 x sz f A c hx => exact .sl0 x sz f A c hx
  | sl x sz n f a c vs hn hc hx hsz hb hH hcell _ ih =>
    have hk := e.keep _ hb hH
    refine .sl x sz n f a c vs hn hc (fun h => ⟨(hx h).1, by obtain ⟨cur, el, hp⟩ := (hx h).2; exact ⟨cur, el, hk.1.trans hp⟩⟩) hsz (Nat.lt_of_lt_of_le hb e.size) hk.2 (fun i j hi hj => ?_) ih
    rw [World.cell?_of_block (w := w) (by rw [block_of_add]; exact hk.1)]
    exact hcell i j hi hj
  | ip cs a vs hb hH hcell _ ih =>
    have hk := e.keep _ hb hH
    refine .ip cs a vs (Nat.lt_of_lt_of_le hb e.size) hk.2 (fun j hj => ?_) ih
    rw [World.cell?_of_block (w := w) (by rw [block_of_add]; exact hk.1)]
    exact hcell j hj
  | gd p a v _ hu ih => exact .gd p a v ih hu
  | clo f cs vs hl _ ih => exact .clo f cs vs hl ih

theorem RelL.ext {w w' : World} {H H' : Hp} (e : Ext w H w' H') {cs : List AV} {vs : List Value} (h : RelL w H cs vs) : RelL w' H' cs vs := ⟨h.1, fun i a v ha hv => (h.2 i a v ha hv).ext e⟩
theorem RelF.ext {w w' : World} {H H' : Hp} (e : Ext w H w' H') {F : List AV} {tm : Array Value} (h : RelF w H F tm) : RelF w' H' F tm := ⟨h.1, fun i a v ha hv => (h.2 i a v ha hv).ext e⟩

/-- Rows may be let go of. -/
theorem Ext.drop {w : World} {H H' : Hp} (h : H'.Sub H) : Ext w H w H' := ⟨rfl, rfl, rfl, Nat.le_refl _, fun _ _ hn => ⟨rfl, h.none hn⟩⟩
theorem RowRel.ext_same {w : World} {H H' : Hp} {b : Nat} {r : Row} (e : Ext w H w H') (h : RowRel w H b r) : RowRel w H' b r := by
  obtain ⟨cur, hh, hs, hl, hr⟩ := h
  exact ⟨cur, hh, hs, hl, fun i a v ha hv => (hr i a v ha hv).ext e⟩
theorem RelW.drop {w : World} {H H' : Hp} (h : H'.Sub H) (r : RelW w H) : RelW w H' := fun b row hb => (r b row (h b row hb)).ext_same (Ext.drop h)

theorem RelW.lt {w : World} {H : Hp} (h : RelW w H) {b : Nat} {r : Row} (hb : H b = some r) : b < w.heap.size := by
  obtain ⟨cur, hh, _⟩ := h b r hb
  exact (Array.getElem?_eq_some_iff.1 hh).1
theorem RelW.ge {w : World} {H : Hp} (h : RelW w H) {b : Nat} (hb : w.heap.size ≤ b) : H b = none := by
  cases e : H b with
  | none => rfl
  | some r => have := h.lt e; omega

/-- A new block that is not owned. -/
theorem Ext.alloc_free {w : World} {H : Hp} (r : RelW w H) (o : Obj) : Ext w H (w.alloc o) H := ⟨rfl, rfl, rfl, by simp, fun b hb hn => ⟨RowKit.Below.heap_alloc w o b hb, hn⟩⟩
theorem RelW.alloc_free {w : World} {H : Hp} (r : RelW w H) (o : Obj) : RelW (w.alloc o) H := fun b row hb => by
  have hlt := r.lt hb
  obtain ⟨cur, hh, hs, hl, hr⟩ := r b row hb
  exact ⟨cur, (RowKit.Below.heap_alloc w o b hlt).trans hh, hs, hl, fun i a v ha hv => (hr i a v ha hv).ext (Ext.alloc_free r o)⟩
/-- A new block that is owned. -/
theorem Ext.alloc_own {w : World} {H : Hp} (r : RelW w H) (o : Obj) (row : Row) : Ext w H (w.alloc o) (H.put w.heap.size row) :=
  ⟨rfl, rfl, rfl, by simp, fun b hb hn => ⟨RowKit.Below.heap_alloc w o b hb, Hp.put_none.2 ⟨by omega, hn⟩⟩⟩
theorem RelW.alloc_own {w : World} {H : Hp} (r : RelW w H) (e : TypeId) (cur : Array Value) (cells : List AV) (hle : cells.length ≤ cur.size)
    (hc : ∀ (i : Nat) a v, cells[i]? = some a → cur[i]? = some v → RelV w H a v) : RelW (w.alloc (.cells cur e)) (H.put w.heap.size ⟨e, cells, cur.size⟩) := fun b row hb => by
  have ex := Ext.alloc_own r (.cells cur e) ⟨e, cells, cur.size⟩
  by_cases hbb : b = w.heap.size
  · subst hbb
    rw [Hp.put_same] at hb
    cases hb
    exact ⟨cur, heap_alloc_new w _, rfl, hle, fun i a v ha hv => (hc i a v ha hv).ext ex⟩
  · rw [Hp.put_ne _ _ hbb] at hb
    have hlt := r.lt hb
    obtain ⟨cur', hh, hs, hl, hr⟩ := r b row hb
    exact ⟨cur', (RowKit.Below.heap_alloc w _ b hlt).trans hh, hs, hl, fun i a v ha hv => (hr i a v ha hv).ext ex⟩

theorem Ext.drew (w : World) (H : Hp) : Ext w H w.drew H := ⟨rfl, rfl, rfl, Nat.le_refl _, fun _ _ h => ⟨rfl, h⟩⟩
theorem RowRel.drew {w : World} {H : Hp} {b : Nat} {r : Row} (h : RowRel w H b r) : RowRel w.drew H b r := by
  obtain ⟨cur, hh, hs, hl, hr⟩ := h
  exact ⟨cur, hh, hs, hl, fun i a v ha hv => (hr i a v ha hv).ext (Ext.drew w H)⟩
theorem RelW.drew {w : World} {H : Hp} (h : RelW w H) : RelW w.drew H := fun b r hb => (h b r hb).drew

/-- An owned block written anew. -/
theorem Ext.write {w w' : World} {H : Hp} {b : Nat} {row row' : Row} (hb : H b = some row) (h1 : w'.os = w.os) (h2 : w'.tape = w.tape) (h3 : w'.output = w.output) (hs : w'.heap.size = w.heap.size)
    (hk : ∀ c, c ≠ b → w'.heap[c]? = w.heap[c]?) : Ext w H w' (H.put b row') :=
  ⟨h1, h2, h3, by omega, fun c _ hn => by
    have hne : c ≠ b := fun e => by rw [e, hb] at hn; cases hn
    exact ⟨hk c hne, Hp.put_none.2 ⟨hne, hn⟩⟩⟩
theorem RelW.write {w w' : World} {H : Hp} {b : Nat} {row : Row} (r : RelW w H) (hb : H b = some row) (h1 : w'.os = w.os) (h2 : w'.tape = w.tape) (h3 : w'.output = w.output) (hs : w'.heap.size = w.heap.size)
    (hk : ∀ c, c ≠ b → w'.heap[c]? = w.heap[c]?) (e : TypeId) (cur : Array Value) (cells : List AV) (hnew : w'.heap[b]? = some (.cells cur e (0, 0))) (hle : cells.length ≤ cur.size)
    (hc : ∀ (i : Nat) a v, cells[i]? = some a → cur[i]? = some v → RelV w H a v) : RelW w' (H.put b ⟨e, cells, cur.size⟩) := fun c row' hcr => by
  have ex := Ext.write (row' := ⟨e, cells, cur.size⟩) hb h1 h2 h3 hs hk
  by_cases hbb : c = b
  · subst hbb
    rw [Hp.put_same] at hcr
    cases hcr
    exact ⟨cur, hnew, rfl, hle, fun i a v ha hv => (hc i a v ha hv).ext ex⟩
  · rw [Hp.put_ne _ _ hbb] at hcr
    obtain ⟨cur', hh, hs', hl, hr⟩ := r c row' hcr
    exact ⟨cur', (hk c hbb).trans hh, hs', hl, fun i a v ha hv => (hr i a v ha hv).ext ex⟩

-- abstract frames

def evA (F : List AV) : Operand → AV
  | .tmp t => F.getD t .any
  | .const v => .raw v
  | .global g => .raw (.pointer (some ⟨g, 0, none⟩))
  | .func f => .raw (.func (.func f) #[] #[])
def putA (F : List AV) (d : Option Tmp) (a : AV) : List AV := match d with
  | some d => F.set d a
  | none => F

theorem RelF.eval {w : World} {H : Hp} {F : List AV} {tm : Array Value} (h : RelF w H F tm) (ds : List Deferred) (x : Operand) : RelV w H (evA F x) ((Act.mk tm ds).eval x) := by
  cases x with
  | tmp t =>
    simp only [evA, Act.eval]
    by_cases ht : t < F.length
    · have ht' : t < tm.size := by rw [← h.1]; exact ht
      have h1 : F[t]? = some (F.getD t .any) := by simp [ht]
      have h2 : tm[t]? = some (tm.getD t undef) := by simp [ht']
      exact h.2 t _ _ h1 h2
    · have : F.getD t .any = .any := by simp [List.getElem?_eq_none (Nat.le_of_not_lt ht)]
      rw [this]; exact .any _
  | const v => exact .raw v
  | global g => exact .raw _
  | func f => exact .raw _

theorem RelF.put {w : World} {H : Hp} {F : List AV} {tm : Array Value} (h : RelF w H F tm) (d : Option Tmp) {a : AV} {v : Value} (hv : RelV w H a v) (ds : List Deferred) : RelF w H (putA F d a) ((Act.mk tm ds).put d v).tmps := by
  cases d with
  | none => exact h
  | some d =>
    refine ⟨by simp [putA, Act.put, h.1], fun i a' v' ha hv' => ?_⟩
    simp only [putA, Act.put] at ha hv'
    rw [List.getElem?_set] at ha
    rw [Array.getElem?_setIfInBounds] at hv'
    by_cases hd : d = i
    · subst hd
      simp only [if_true] at ha hv'
      split at ha <;> split at hv' <;> simp_all
    · simp only [if_neg hd] at ha hv'
      exact h.2 i a' v' ha hv'

theorem Act.put_defers_ (tm : Array Value) (ds : List Deferred) (d : Option Tmp) (v : Value) : ((Act.mk tm ds).put d v).defers = ds := by cases d <;> rfl
theorem Act.put_eq (tm : Array Value) (ds : List Deferred) (d : Option Tmp) (v : Value) : (Act.mk tm ds).put d v = ⟨((Act.mk tm ds).put d v).tmps, ds⟩ := by cases d <;> rfl

end Go.Fc
