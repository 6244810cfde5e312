/- The plain law of the document's Put. No conditions. -/
import Derived.Test.YtemapkbfpkdddaaKeR
set_option linter.all false
namespace Go.Fc
section
variable {τ : Type} [Inhabited τ] {key : τ → Int}
/-- What the document's Put has made of the first k, and whether the new one is among them. -/
def refOut (key : τ → Int) (L : List τ) (e : τ) (k : Nat) : List τ := if k ≤ fnd key L (key e) then L.take k else L.take (fnd key L (key e)) ++ [e] ++ (L.take k).drop (bestK key L (key e))
def refDone (key : τ → Int) (L : List τ) (e : τ) (k : Nat) : Bool := decide (fnd key L (key e) < k)
theorem refOut_ahead {L : List τ} {e : τ} {k : Nat} (hk : k < L.length) (h : key (nth L k) < key e) (hL : RiseK key L) : refDone key L e k = false ∧ refDone key L e (k + 1) = false ∧ refOut key L e (k + 1) = refOut key L e k ++ [nth L k] := by
  have hki : k < fnd key L (key e) := by
    rcases Nat.lt_or_ge k (fnd key L (key e)) with h' | h'
    · exact h'
    · have h1 := fnd_at (key := key) (L := L) (t := key e) (by omega)
      by_cases e' : fnd key L (key e) = k
      · subst e'; omega
      · have := rise_lt hL (i := fnd key L (key e)) (j := k) (by omega) hk; omega
  refine ⟨by simp [refDone]; omega, by simp [refDone]; omega, ?_⟩
  rw [refOut, refOut, if_pos (by omega), if_pos (by omega), take_nth hk]
theorem refOut_first {L : List τ} {e : τ} {k : Nat} (hk : k < L.length) (h : key e ≤ key (nth L k)) (hd : refDone key L e k = false) : k = fnd key L (key e) := by
  have h1 : k ≤ fnd key L (key e) := by simp [refDone] at hd; exact hd
  rcases Nat.lt_or_ge k (fnd key L (key e)) with h' | h'
  · have := fnd_before (key := key) k h'; omega
  · omega
theorem refOut_put {L : List τ} {e : τ} {k : Nat} (hk : k < L.length) (h : k = fnd key L (key e)) : refDone key L e (k + 1) = true ∧ refOut key L e (k + 1) = if key (nth L k) = key e then refOut key L e k ++ [e] else refOut key L e k ++ [e] ++ [nth L k] := by
  subst h
  refine ⟨by simp [refDone], ?_⟩
  rw [refOut, refOut, if_neg (by omega), if_pos (Nat.le_refl _)]
  by_cases hq : key (nth L (fnd key L (key e))) = key e
  · have hh : hasK key L (key e) = true := by simp [hasK, hk, hq]
    rw [if_pos hq]
    have hb : bestK key L (key e) = fnd key L (key e) + 1 := by simp [bestK, hh]
    rw [hb, List.drop_of_length_le (by rw [List.length_take]; omega), List.append_nil]
  · have hh : hasK key L (key e) = false := by simp [hasK, hq]
    rw [if_neg hq]
    have hb : bestK key L (key e) = fnd key L (key e) := by simp [bestK, hh]
    rw [hb, take_nth hk, List.drop_append_of_le_length (by rw [List.length_take]; omega), List.drop_of_length_le (by rw [List.length_take]; omega)]
    rfl
theorem refOut_behind {L : List τ} {e : τ} {k : Nat} (hk : k < L.length) (hd : refDone key L e k = true) (hL : RiseK key L) : key e < key (nth L k) ∧ refDone key L e (k + 1) = true ∧ refOut key L e (k + 1) = refOut key L e k ++ [nth L k] := by
  have h1 : fnd key L (key e) < k := by simp [refDone] at hd; exact hd
  have h2 := fnd_at (key := key) (L := L) (t := key e) (by omega)
  have h3 := rise_lt hL h1 hk
  have hb : bestK key L (key e) ≤ k := by unfold bestK; split <;> omega
  refine ⟨by omega, by simp [refDone]; omega, ?_⟩
  rw [refOut, refOut, if_neg (by omega), if_neg (by omega), take_nth hk, List.drop_append_of_le_length (by rw [List.length_take]; omega), List.append_assoc _ _ [nth L k]]
theorem refOut_len (L : List τ) (e : τ) (k : Nat) : (refOut key L e k).length ≤ L.length + 1 := by
  have := fnd_le (key := key) L (key e)
  unfold refOut
  split
  · rw [List.length_take]; omega
  · simp only [List.length_append, List.length_take, List.length_drop, List.length_singleton]
    unfold bestK
    split <;> omega
/-- At the end: what Put has made ahead of a cut. -/
theorem refOut_end {L : List τ} {e : τ} (hL : RiseK key L) : (if refDone key L e L.length then refOut key L e L.length else refOut key L e L.length ++ [e]) = if hasK key L (key e) then L.set (fnd key L (key e)) e else insK key L e := by
  have hfl := fnd_le (key := key) L (key e)
  cases hh : hasK key L (key e) with
  | true =>
    obtain ⟨h1, h2⟩ := fnd_lt_has hh
    have hb : bestK key L (key e) = fnd key L (key e) + 1 := by simp [bestK, hh]
    have hd : refDone key L e L.length = true := by simp [refDone]; exact h1
    rw [if_pos hd, refOut, if_neg (by omega), hb, List.take_length, List.set_eq_take_append_cons_drop, if_pos h1]
    simp
  | false =>
    have hb : bestK key L (key e) = fnd key L (key e) := by simp [bestK, hh]
    by_cases h1 : fnd key L (key e) < L.length
    · have hd : refDone key L e L.length = true := by simp [refDone]; exact h1
      rw [if_pos hd, refOut, if_neg (by omega), hb, List.take_length]
      simp [insK]
    · have hd : refDone key L e L.length = false := by simp [refDone]; omega
      simp only [hd, Bool.false_eq_true, if_false]
      rw [refOut, if_pos (by omega), List.take_length]
      simp only [insK]
      rw [List.take_of_length_le (by omega), List.drop_of_length_le (by omega), List.append_nil]
end
theorem gap_ref (a b : Int) : IntKind.u64.wrap (IntKind.i64.wrap (a - b)) = IntKind.u64.wrap (IntKind.u64.wrap a - IntKind.u64.wrap b) := by
  have h1 : (2 : Int) ^ 64 = 18446744073709551616 := by decide
  have h2 : (2 : Int) ^ (64 - 1) = 9223372036854775808 := by decide
  simp only [IntKind.wrap, IntKind.bits, IntKind.signed, Bool.true_and, Bool.false_and, h1, h2, decide_eq_true_eq, Bool.false_eq_true, if_false]
  split <;> omega
end Go.Fc
