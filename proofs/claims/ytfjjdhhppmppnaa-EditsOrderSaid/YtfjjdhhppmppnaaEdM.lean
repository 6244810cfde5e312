/- The plain law of edits. No conditions. -/
import Derived.Test.YtfjjdhhppmppnaaFcY
import Derived.Test.YtfjjdhhppmppnaaFcN
set_option linter.all false
namespace Go.Fc
/-- An edit put in its place. -/
def insOne (l : List GEdit) (x : GEdit) : List GEdit := l.takeWhile (fun y => decide (y.at_ ≤ x.at_)) ++ [x] ++ l.dropWhile (fun y => decide (y.at_ ≤ x.at_))
def insAll (l all : List GEdit) : List GEdit := all.foldl insOne l
theorem insAll_succ (l all : List GEdit) {k : Nat} (hk : k < all.length) : insAll l (all.take (k + 1)) = insOne (insAll l (all.take k)) (nth all k) := by
  unfold insAll
  rw [List.take_add_one, List.getElem?_eq_getElem hk, List.foldl_append]
  simp [nth, hk]
theorem insOne_len (l : List GEdit) (x : GEdit) : (insOne l x).length = l.length + 1 := by
  have := congrArg List.length (List.takeWhile_append_dropWhile (p := fun y : GEdit => decide (y.at_ ≤ x.at_)) (l := l))
  rw [List.length_append] at this
  simp only [insOne, List.length_append, List.length_singleton]
  omega
theorem insAll_len (l : List GEdit) : ∀ all : List GEdit, (insAll l all).length = l.length + all.length := by
  intro all
  induction all generalizing l with
  | nil => simp [insAll]
  | cons x all ih =>
    have := ih (insOne l x)
    simp only [insAll, List.foldl_cons] at this ⊢
    rw [this, insOne_len]; simp; omega
theorem take_while {l : List GEdit} {p : GEdit → Bool} : ∀ {i : Nat}, i ≤ l.length → (∀ j, j < i → p (nth l j) = true) → (i < l.length → p (nth l i) = false) → l.take i = l.takeWhile p ∧ l.drop i = l.dropWhile p := by
  induction l with
  | nil => intro i hi _ _; simp
  | cons y l ih =>
    intro i hi h1 h2
    cases i with
    | zero =>
      have := h2 (by simp)
      simp only [nth, List.getElem?_cons_zero] at this
      simp [List.takeWhile, List.dropWhile]
      simp_all [nth]
    | succ i =>
      have h0 := h1 0 (by omega)
      have := ih (i := i) (by simpa using hi) (fun j hj => by have := h1 (j + 1) (by omega); simpa [nth] using this) (fun h => by have := h2 (by simpa using h); simpa [nth] using this)
      have h0' : p y = true := by simpa [nth] using h0
      simp [List.takeWhile, List.dropWhile, h0', this.1, this.2]
theorem insOne_at {l : List GEdit} {x : GEdit} {i : Nat} (hi : i ≤ l.length) (h1 : ∀ j, j < i → (nth l j).at_ ≤ x.at_) (h2 : i < l.length → x.at_ < (nth l i).at_) : l.take i ++ [x] ++ l.drop i = insOne l x := by
  obtain ⟨e1, e2⟩ := take_while (p := fun y => decide (y.at_ ≤ x.at_)) hi (fun j hj => by simpa using h1 j hj) (fun h => by simpa using h2 h)
  rw [insOne, e1, e2]
theorem insOne_cons (b : GEdit) (a : List GEdit) (x : GEdit) : insOne (b :: a) x = if b.at_ ≤ x.at_ then b :: insOne a x else x :: b :: a := by
  unfold insOne
  by_cases h : b.at_ ≤ x.at_ <;> simp [List.takeWhile, List.dropWhile, h]
theorem insOne_snoc {y x : GEdit} : ∀ {a : List GEdit}, (∃ z ∈ a, x.at_ < z.at_) → insOne (a ++ [y]) x = insOne a x ++ [y]
  | [], ⟨z, h, _⟩ => by simp at h
  | b :: a, ⟨z, h, hz⟩ => by
    rw [List.cons_append, insOne_cons, insOne_cons]
    by_cases hb : b.at_ ≤ x.at_
    · rw [if_pos hb, if_pos hb, List.cons_append, insOne_snoc]
      rcases List.mem_cons.1 h with rfl | h
      · omega
      · exact ⟨z, h, hz⟩
    · rw [if_neg hb, if_neg hb]; rfl
theorem insOne_le {x : GEdit} : ∀ {a : List GEdit}, (∀ z ∈ a, z.at_ ≤ x.at_) → insOne a x = a ++ [x]
  | [], _ => rfl
  | b :: a, h => by rw [insOne_cons, if_pos (h b (by simp)), insOne_le fun z hz => h z (by simp [hz])]; rfl
theorem insOne_lt {x y : GEdit} (hy : x.at_ < y.at_) : ∀ {a : List GEdit}, (∀ z ∈ a, z.at_ ≤ x.at_) → insOne (a ++ [y]) x = a ++ [x] ++ [y]
  | [], _ => by rw [List.nil_append, insOne_cons, if_neg (by omega)]; rfl
  | b :: a, h => by rw [List.cons_append, insOne_cons, if_pos (h b (by simp)), insOne_lt hy fun z hz => h z (by simp [hz])]; rfl
/-- What the document's Insert has made of the first k. -/
def insPre (l : List GEdit) (x : GEdit) (k : Nat) (d : Bool) : List GEdit := if d then insOne (l.take k) x else l.take k
def insInv (l : List GEdit) (x : GEdit) (k : Nat) (d : Bool) : Prop := (d = true → ∃ z ∈ l.take k, x.at_ < z.at_) ∧ (d = false → ∀ z ∈ l.take k, z.at_ ≤ x.at_)
theorem insPre_len (l : List GEdit) (x : GEdit) (k : Nat) (d : Bool) : (insPre l x k d).length ≤ l.length + 1 := by
  unfold insPre
  split
  · rw [insOne_len, List.length_take]; omega
  · rw [List.length_take]; omega
/-- A value that may be. -/
def mayV (v : GValue) : Bool :=
  if v.ty = 1 then decide (v.s = ⟨#[]⟩)
  else if v.ty = 2 then decide (v.s = ⟨#[]⟩) && (decide (v.n = 0) || decide (v.n = 1))
  else if v.ty = 3 then decide (v.n = 0) && decide ((v.s.size : Int) ≤ 40)
  else if v.ty = 4 then decide (v.s = ⟨#[]⟩) && decide (0 ≤ v.n)
  else false
def mayE (x : GEdit) : Bool := mayV x.v && decide (x.v.ty ≠ 4) && decide (0 ≤ x.at_) && decide (x.at_ ≤ 200) && decide (1 ≤ (x.name.size : Int)) && decide ((x.name.size : Int) ≤ 8)
def cutStr (k : Nat) (s : ByteArray) : ByteArray := if k < s.size then s.extract 0 k else s
def cutE (e : GEdit) : GEdit := ⟨e.at_, cutStr 20 e.name, ⟨e.v.ty, e.v.n, cutStr 60 e.v.s⟩⟩
/-- At most ten, of short texts. -/
def fewE (l : List GEdit) : List GEdit := (l.take 10).map cutE
def atE (t : Int) : GEdit := ⟨t, ⟨#[]⟩, ⟨0, 0, ⟨#[]⟩⟩⟩
theorem fewE_len (l : List GEdit) : (fewE l).length ≤ 10 := by simp [fewE]; omega
theorem few_step (l : List GEdit) (k : Nat) (h2 : k < l.length) {nm s : ByteArray} (e1 : nm = cutStr 20 (nth l k).name) (e2 : s = cutStr 60 (nth l k).v.s) :
   ((l.take k).map cutE).map eGEdit ++ [[.raw (.int .i64 (nth l k).at_), .raw (.string nm), .raw (.int .i64 (nth l k).v.ty), .raw (.int .i64 (nth l k).v.n), .raw (.string s)]] = ((l.take (k + 1)).map cutE).map eGEdit := by
  subst e1 e2
  rw [take_nth h2]; simp [eGEdit, eGValue, cutE]
/-- Those up to a time. -/
def uptoE (l : List GEdit) (t : Int) : List GEdit := l.filter fun y => decide (y.at_ ≤ t)
theorem uptoE_succ (l : List GEdit) (t : Int) {k : Nat} (hk : k < l.length) : uptoE (l.take (k + 1)) t = uptoE (l.take k) t ++ (if (nth l k).at_ ≤ t then [nth l k] else []) := by
  rw [take_nth hk, uptoE, List.filter_append]
  simp only [uptoE, List.filter_cons, List.filter_nil]
  by_cases h : (nth l k).at_ ≤ t <;> simp [h]
theorem uptoE_len (l : List GEdit) (t : Int) : (uptoE l t).length ≤ l.length := List.length_filter_le _ _
@[go_sem] theorem insAll_nil (l : List GEdit) : insAll l [] = l := rfl
theorem eGEdit_lens (M : List GEdit) : ∀ y ∈ M.map eGEdit, y.length = 5 := fun y hy => by obtain ⟨x, _, rfl⟩ := List.mem_map.1 hy; exact (eGEdit_ok x).1
@[go_sem] theorem eGEdit_flat (M : List GEdit) : (List.map eGEdit M).flatten.length = M.length * 5 := by rw [flatten_len (eGEdit_lens M)]; simp
@[go_sem] theorem eGEdit_row {M : List GEdit} {j : Nat} (h : j < M.length) : List.take 5 (List.drop (j * 5) (List.map eGEdit M).flatten) = eGEdit (nth M j) := by
  rw [drop_flatten _ _ (eGEdit_lens M), ← List.map_drop, List.drop_eq_getElem_cons h, List.map_cons, List.flatten_cons, List.take_append_of_le_length (Nat.le_of_eq (eGEdit_ok _).1.symm), List.take_of_length_le (Nat.le_of_eq (eGEdit_ok _).1)]
  simp [nth, h]
theorem eGEdit_set {M : List GEdit} {i : Nat} {x : GEdit} (h : i < M.length) : splice (List.map eGEdit M).flatten (i * 5) (eGEdit x) = (List.map eGEdit (M.set i x)).flatten := by
  have := splice_flatten (css := M.map eGEdit) (ys := [eGEdit x]) (i := i) (sz := 5) (eGEdit_lens M) (by intro y hy; simp at hy; subst hy; exact (eGEdit_ok x).1)
  simp only [List.flatten_cons, List.flatten_nil, List.append_nil, List.length_cons, List.length_nil, Nat.zero_add] at this
  rw [this, List.set_eq_take_append_cons_drop, if_pos h]
  simp [List.map_take, List.map_drop]
/-- A row of one's own, or one that nobody writes. -/
def Lst (B H : Hp) (t : TypeId) (a : AV) (L : List GEdit) : Prop := B.Sub H ∧ (a = slOf eGEdit 5 L ∨ Own B H t 5 a (L.map eGEdit))
theorem Lst.vto {B H : Hp} {t : TypeId} {a : AV} {L : List GEdit} (h : Lst B H t a L) : VTo H a (slOf eGEdit 5 L) := by
  rcases h.2 with rfl | h
  · exact VTo.refl _ _
  · exact VTo.own h (by simp) (fun i hi => by simp [nth, hi])
theorem Lst.freeze {B H : Hp} {t : TypeId} {a : AV} {L : List GEdit} (h : Lst B H t a L) : RLe a H (slOf eGEdit 5 L) B := by
  rcases h.2 with rfl | h2
  · exact RLe.drop _ h.1
  · exact h2.freeze_list
/-- In order of their times. -/
def sortedE (l : List GEdit) : Bool := (List.range l.length).all fun i => decide (i = 0) || decide ((nth l (i - 1)).at_ ≤ (nth l i).at_)
theorem sortedE_iff (l : List GEdit) : sortedE l = true ↔ ∀ i, i + 1 < l.length → (nth l i).at_ ≤ (nth l (i + 1)).at_ := by
  simp only [sortedE, List.all_eq_true, List.mem_range, Bool.or_eq_true, decide_eq_true_eq]
  constructor
  · intro h i hi
    have := h (i + 1) hi
    simpa using this
  · intro h i hi
    cases i with
    | zero => exact .inl rfl
    | succ i => exact .inr (by simpa using h i hi)
theorem list_nth_ext {a b : List GEdit} (h : a.length = b.length) (h2 : ∀ i, i < a.length → nth a i = nth b i) : a = b := by
  refine List.ext_getElem h fun i h1 h3 => ?_
  have := h2 i h1
  rwa [nth_get h1, nth_get h3] at this
end Go.Fc
