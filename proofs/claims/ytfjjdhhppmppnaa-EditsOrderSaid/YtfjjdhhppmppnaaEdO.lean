/- The plain law of rows in order. No conditions. -/
import Derived.Test.YtfjjdhhppmppnaaEdM
set_option linter.all false
namespace Go.Fc
def SortE (l : List GEdit) : Prop := l.Pairwise fun x y => x.at_ ≤ y.at_
theorem mem_insOne {x z : GEdit} : ∀ {l : List GEdit}, z ∈ insOne l x ↔ z = x ∨ z ∈ l
  | [] => by simp [insOne]
  | b :: a => by
    rw [insOne_cons]
    split
    · rw [List.mem_cons, mem_insOne, List.mem_cons]
      constructor
      · rintro (h | h | h)
        · exact .inr (.inl h)
        · exact .inl h
        · exact .inr (.inr h)
      · rintro (h | h | h)
        · exact .inr (.inl h)
        · exact .inl h
        · exact .inr (.inr h)
    · rw [List.mem_cons]
theorem sort_insOne {x : GEdit} : ∀ {l : List GEdit}, SortE l → SortE (insOne l x)
  | [], _ => by simp [insOne, SortE]
  | b :: a, h => by
    have h' := List.pairwise_cons.1 h
    rw [insOne_cons]
    split
    · rename_i hb
      refine List.pairwise_cons.2 ⟨fun z hz => ?_, sort_insOne h'.2⟩
      rcases mem_insOne.1 hz with rfl | hz
      · exact hb
      · exact h'.1 z hz
    · rename_i hb
      refine List.pairwise_cons.2 ⟨fun z hz => ?_, h⟩
      rcases List.mem_cons.1 hz with rfl | hz
      · omega
      · have := h'.1 z hz; omega
theorem sort_insAll : ∀ (all : List GEdit) {l : List GEdit}, SortE l → SortE (insAll l all)
  | [], _, h => h
  | x :: all, _, h => sort_insAll all (sort_insOne (x := x) h)
theorem sort_srt (l : List GEdit) : SortE (insAll [] l) := sort_insAll l List.Pairwise.nil
theorem sort_E {l : List GEdit} (h : SortE l) : sortedE l = true := by
  rw [sortedE_iff]
  intro i hi
  rw [nth_get (by omega), nth_get hi]
  exact List.pairwise_iff_getElem.1 h i (i + 1) (by omega) hi (by omega)
/-- Two rows as one, the first one's ahead at a time. -/
def mg : List GEdit → List GEdit → List GEdit
  | [], b => b
  | a, [] => a
  | x :: a, y :: b => if x.at_ ≤ y.at_ then x :: mg a (y :: b) else y :: mg (x :: a) b
  termination_by a b => a.length + b.length
theorem mg_nil (b : List GEdit) : mg [] b = b := by simp [mg]
theorem mg_nil' (a : List GEdit) : mg a [] = a := by cases a <;> simp [mg]
theorem mg_le {x y : GEdit} (h : x.at_ ≤ y.at_) (a b : List GEdit) : mg (x :: a) (y :: b) = x :: mg a (y :: b) := by rw [mg, if_pos h]
theorem mg_gt {x y : GEdit} (h : ¬ x.at_ ≤ y.at_) (a b : List GEdit) : mg (x :: a) (y :: b) = y :: mg (x :: a) b := by rw [mg, if_neg h]
theorem mg_insOne {y : GEdit} {b : List GEdit} (hb : ∀ z ∈ b.head?, y.at_ ≤ z.at_) : ∀ a : List GEdit, mg (insOne a y) b = mg a (y :: b)
  | [] => by
    rw [mg_nil]
    cases b with
    | nil => simp [insOne, mg]
    | cons z b =>
      have : insOne [] y = [y] := rfl
      rw [this, mg_le (hb z (by simp)), mg_nil]
  | x :: a => by
    rw [insOne_cons]
    by_cases h : x.at_ ≤ y.at_
    · rw [if_pos h, mg_le h]
      cases b with
      | nil => rw [mg_nil', ← mg_insOne hb a, mg_nil']
      | cons z b =>
        have hz := hb z (by simp)
        rw [mg_le (by omega), mg_insOne hb a]
    · rw [if_neg h, mg_gt h]
      cases b with
      | nil => rw [mg_nil', mg_nil']
      | cons z b => rw [mg_le (hb z (by simp))]
theorem insAll_mg : ∀ (b : List GEdit), SortE b → ∀ a, insAll a b = mg a b
  | [], _, a => by rw [mg_nil']; rfl
  | y :: b, h, a => by
    have h' := List.pairwise_cons.1 h
    have e : insAll a (y :: b) = insAll (insOne a y) b := rfl
    rw [e, insAll_mg b h'.2, mg_insOne]
    intro z hz
    exact h'.1 z (List.mem_of_mem_head? hz)
theorem mg_assoc : ∀ (n : Nat) (a b c : List GEdit), a.length + b.length + c.length ≤ n → mg (mg a b) c = mg a (mg b c)
  | _, [], b, c, _ => by rw [mg_nil, mg_nil]
  | _, x :: a, [], c, _ => by rw [mg_nil', mg_nil]
  | _, x :: a, y :: b, [], _ => by rw [mg_nil', mg_nil']
  | 0, x :: a, y :: b, z :: c, hn => by simp at hn
  | n + 1, x :: a, y :: b, z :: c, hn => by
    simp only [List.length_cons] at hn
    by_cases h1 : x.at_ ≤ y.at_
    · by_cases h2 : x.at_ ≤ z.at_
      · rw [mg_le h1, mg_le h2, mg_assoc n a (y :: b) (z :: c) (by simp; omega)]
        by_cases h3 : y.at_ ≤ z.at_
        · rw [mg_le h3, mg_le h1]
        · rw [mg_gt h3, mg_le h2]
      · have h3 : ¬ y.at_ ≤ z.at_ := by omega
        rw [mg_le h1, mg_gt h2, ← mg_le h1, mg_gt h3, mg_gt h2, mg_assoc n (x :: a) (y :: b) c (by simp; omega)]
    · by_cases h2 : y.at_ ≤ z.at_
      · rw [mg_gt h1, mg_le h2, mg_le h2, mg_gt h1, mg_assoc n (x :: a) b (z :: c) (by simp; omega)]
      · have h3 : ¬ x.at_ ≤ z.at_ := by omega
        rw [mg_gt h1, mg_gt h2, ← mg_gt h1, mg_gt h2, mg_gt h3, mg_assoc n (x :: a) (y :: b) c (by simp; omega)]
theorem insOne_gt {x : GEdit} : ∀ {l : List GEdit}, (∀ z ∈ l, x.at_ < z.at_) → insOne l x = x :: l
  | [], _ => rfl
  | b :: a, h => by rw [insOne_cons, if_neg]; have := h b (by simp); omega
theorem upto_insOne {x : GEdit} {t : Int} : ∀ {l : List GEdit}, SortE l → uptoE (insOne l x) t = if x.at_ ≤ t then insOne (uptoE l t) x else uptoE l t
  | [], _ => by
    by_cases h : x.at_ ≤ t <;> simp [insOne, uptoE, h]
  | b :: a, h => by
    have h' := List.pairwise_cons.1 h
    rw [insOne_cons]
    by_cases hb : b.at_ ≤ x.at_
    · rw [if_pos hb]
      have ih := upto_insOne (x := x) (t := t) h'.2
      by_cases hx : x.at_ ≤ t
      · rw [if_pos hx] at ih ⊢
        have hbt : b.at_ ≤ t := by omega
        have e1 : uptoE (b :: insOne a x) t = b :: uptoE (insOne a x) t := by simp [uptoE, hbt]
        have e2 : uptoE (b :: a) t = b :: uptoE a t := by simp [uptoE, hbt]
        rw [e1, e2, ih, insOne_cons, if_pos hb]
      · rw [if_neg hx] at ih ⊢
        by_cases hbt : b.at_ ≤ t
        · have e1 : uptoE (b :: insOne a x) t = b :: uptoE (insOne a x) t := by simp [uptoE, hbt]
          have e2 : uptoE (b :: a) t = b :: uptoE a t := by simp [uptoE, hbt]
          rw [e1, e2, ih]
        · have e1 : uptoE (b :: insOne a x) t = uptoE (insOne a x) t := by simp [uptoE, hbt]
          have e2 : uptoE (b :: a) t = uptoE a t := by simp [uptoE, hbt]
          rw [e1, e2, ih]
    · rw [if_neg hb]
      by_cases hx : x.at_ ≤ t
      · rw [if_pos hx, insOne_gt fun z hz => ?_]
        · simp [uptoE, hx]
        · have := (List.mem_filter.1 hz).1
          rcases List.mem_cons.1 this with rfl | hz
          · omega
          · have := h'.1 z hz; omega
      · rw [if_neg hx]
        simp [uptoE, hx]
theorem upto_insAll {t : Int} : ∀ (b : List GEdit) {a : List GEdit}, SortE a → uptoE (insAll a b) t = insAll (uptoE a t) (uptoE b t)
  | [], a, _ => rfl
  | x :: b, a, h => by
    have e : insAll a (x :: b) = insAll (insOne a x) b := rfl
    rw [e, upto_insAll b (sort_insOne h), upto_insOne h]
    by_cases hx : x.at_ ≤ t
    · have e2 : uptoE (x :: b) t = x :: uptoE b t := by simp [uptoE, hx]
      rw [if_pos hx, e2]; rfl
    · have e2 : uptoE (x :: b) t = uptoE b t := by simp [uptoE, hx]
      rw [if_neg hx, e2]
/-- The next of two rows as one. -/
theorem mg_left {a b : List GEdit} {i k : Nat} (hi : i < a.length) (h : b.length ≤ k ∨ (nth a i).at_ ≤ (nth b k).at_) : mg (a.drop i) (b.drop k) = nth a i :: mg (a.drop (i + 1)) (b.drop k) := by
  rw [List.drop_eq_getElem_cons hi, ← nth_get hi]
  by_cases hk : k < b.length
  · rw [List.drop_eq_getElem_cons hk, ← nth_get hk, mg_le]
    rcases h with h | h
    · omega
    · exact h
  · rw [List.drop_of_length_le (by omega : b.length ≤ k), mg_nil', mg_nil']
theorem mg_right {a b : List GEdit} {i k : Nat} (hk : k < b.length) (h : a.length ≤ i ∨ (nth b k).at_ < (nth a i).at_) : mg (a.drop i) (b.drop k) = nth b k :: mg (a.drop i) (b.drop (k + 1)) := by
  rw [List.drop_eq_getElem_cons hk, ← nth_get hk]
  by_cases hi : i < a.length
  · rw [List.drop_eq_getElem_cons hi, ← nth_get hi, mg_gt]
    rcases h with h | h <;> omega
  · rw [List.drop_of_length_le (by omega : a.length ≤ i), mg_nil, mg_nil]
theorem drop_nth {m : List GEdit} {j : Nat} {x : GEdit} {l : List GEdit} (h : m.drop j = x :: l) : nth m j = x ∧ m.drop (j + 1) = l ∧ j < m.length := by
  have hj : j < m.length := by
    rcases Nat.lt_or_ge j m.length with h' | h'
    · exact h'
    · rw [List.drop_of_length_le h'] at h; cases h
  rw [List.drop_eq_getElem_cons hj] at h
  injection h with h1 h2
  exact ⟨by rw [nth_get hj, h1], h2, hj⟩
end Go.Fc
