/- The plain law of what is told. No conditions. -/
import Derived.Test.YtfjjdhhppmppnaaKgI
import Derived.Test.YtfjjdhhppmppnaaKeR
set_option linter.all false
namespace Go.Fc
section
variable {τ : Type} [Inhabited τ] {key : τ → Int}
theorem nth_set {L : List τ} {e : τ} {i j : Nat} (hi : i < L.length) : nth (L.set i e) j = if i = j then e else nth L j := by
  by_cases h : i = j
  · subst h; simp [nth, hi]
  · simp [nth, List.getElem?_set_ne h, h]
/-- The least stays. -/
theorem put_least {most : Int} {L : List τ} {e : τ} (hL : RiseK key L) (hm : 1 ≤ most) : 0 < (putK key most L e).length ∧ key (nth (putK key most L e) 0) ≤ key e ∧ (0 < L.length → key (nth (putK key most L e) 0) ≤ key (nth L 0)) := by
  have hfl := fnd_le (key := key) L (key e)
  cases hh : hasK key L (key e) with
  | true =>
    obtain ⟨h1, h2⟩ := fnd_lt_has hh
    have e1 : putK key most L e = L.set (fnd key L (key e)) e := by simp [putK, hh]
    have hk : ∀ i, key (nth (L.set (fnd key L (key e)) e) i) = key (nth L i) := fun i => by
      rw [nth_set h1]
      split
      · rename_i h; subst h; exact h2.symm
      · rfl
    rw [e1, hk]
    refine ⟨by simp; omega, ?_, fun _ => Int.le_refl _⟩
    rw [← h2]
    by_cases h0 : fnd key L (key e) = 0
    · rw [h0]; exact Int.le_refl _
    · have := rise_lt hL (i := 0) (j := fnd key L (key e)) (by omega) h1; omega
  | false =>
    have e1 : putK key most L e = cutK key most (insK key L e) := by simp [putK, hh]
    have hil := insK_len (key := key) L e
    have h0 : nth (cutK key most (insK key L e)) 0 = nth (insK key L e) 0 ∧ 0 < (cutK key most (insK key L e)).length := by
      have hc := cutK_len (key := key) most (insK key L e) hm
      unfold cutK at hc ⊢
      split
      · rename_i hmm
        rw [if_pos hmm, if_pos hmm] at hc
        have hn := nearK_le (key := key) (insK key L e) (by omega)
        refine ⟨?_, by omega⟩
        unfold nth
        rw [List.getD_eq_getElem?_getD, List.getD_eq_getElem?_getD, List.getElem?_append_left (by rw [List.length_take]; omega), List.getElem?_take, if_pos (by omega)]
      · exact ⟨rfl, by omega⟩
    rw [e1, h0.1]
    refine ⟨h0.2, ?_, ?_⟩
    · by_cases hf : fnd key L (key e) = 0
      · simp [insK, hf, nth]
      · have h1 : nth (insK key L e) 0 = nth L 0 := by
          unfold insK nth
          rw [List.append_assoc, List.getD_eq_getElem?_getD, List.getD_eq_getElem?_getD, List.getElem?_append_left (by rw [List.length_take]; omega), List.getElem?_take, if_pos (by omega)]
        rw [h1]
        have := fnd_before (key := key) (L := L) (t := key e) 0 (by omega)
        omega
    · intro hl
      by_cases hf : fnd key L (key e) = 0
      · have h2 := fnd_gt hL hh (p := 0) (by omega) hl
        simp only [insK, hf, nth, List.take_zero, List.nil_append, List.drop_zero, List.singleton_append, List.getD_cons_zero]
        unfold nth at h2
        omega
      · have h1 : nth (insK key L e) 0 = nth L 0 := by
          unfold insK nth
          rw [List.append_assoc, List.getD_eq_getElem?_getD, List.getD_eq_getElem?_getD, List.getElem?_append_left (by rw [List.length_take]; omega), List.getElem?_take, if_pos (by omega)]
        rw [h1]; exact Int.le_refl _
theorem mem_put {most : Int} {L : List τ} {e y : τ} (hL : RiseK key L) (hy : y ∈ putK key most L e) : y = e ∨ (y ∈ L ∧ key y ≠ key e) := by
  cases hh : hasK key L (key e) with
  | true =>
    obtain ⟨h1, h2⟩ := fnd_lt_has hh
    have e1 : putK key most L e = L.set (fnd key L (key e)) e := by simp [putK, hh]
    rw [e1] at hy
    obtain ⟨p, hp, rfl⟩ := List.getElem_of_mem hy
    simp only [List.length_set] at hp
    rw [List.getElem_set]
    split
    · exact .inl rfl
    · rename_i hne
      refine .inr ⟨List.getElem_mem _, fun he => ?_⟩
      rw [nth_get h1] at h2
      rcases Nat.lt_or_ge p (fnd key L (key e)) with h | h
      · have := rise_lt hL h h1; rw [nth_get h1, nth_get hp] at this; omega
      · have := rise_lt hL (i := fnd key L (key e)) (j := p) (by omega) hp; rw [nth_get h1, nth_get hp] at this; omega
  | false =>
    have e1 : putK key most L e = cutK key most (insK key L e) := by simp [putK, hh]
    rw [e1] at hy
    rcases mem_insK.1 ((cutK_sub most _).subset hy) with h | h
    · exact .inl h
    · refine .inr ⟨h, fun he => ?_⟩
      have : hasK key L (key e) = true := (has_mem hL _).2 ⟨y, h, he⟩
      rw [hh] at this; cases this
end
/-- What was put last at a time. -/
def lastX (l : List GOp) (t : Int) : Nat → Int
  | 0 => 0
  | j + 1 => if (nth l j).at_ = t then (nth l j).x else lastX l t j
theorem puts_last {m : Int} (l : List GOp) : ∀ k, k ≤ l.length → ∀ y ∈ puts m l k, y.it = lastX l y.at_ k
  | 0, _, y, hy => by simp [puts] at hy
  | k + 1, h, y, hy => by
    rw [puts_succ m l (by omega)] at hy
    rcases mem_put (puts_rise m l k (by omega)) hy with rfl | ⟨hy, hne⟩
    · simp [lastX, thing]
    · have ih := puts_last (m := m) l k (by omega) y hy
      rw [ih]
      have : ¬ (nth l k).at_ = y.at_ := fun e => hne e.symm
      simp [lastX, this]
theorem puts_least {m : Int} (hm : 1 ≤ m) (l : List GOp) : ∀ k, 0 < k → k ≤ l.length → 0 < (puts m l k).length ∧ ∀ j, j < k → (nth (puts m l k) 0).at_ ≤ (nth l j).at_
  | 0, h, _ => by omega
  | k + 1, _, h => by
    rw [puts_succ m l (by omega)]
    have hp := put_least (most := m) (e := thing (nth l k)) (puts_rise m l k (by omega)) hm
    refine ⟨hp.1, fun j hj => ?_⟩
    by_cases hjk : j = k
    · subst hjk; exact hp.2.1
    · have ih := puts_least hm l k (by omega) (by omega)
      have h1 := hp.2.2 ih.1
      have h2 := ih.2 j (by omega)
      omega
theorem best_told {L : List GThingI} (hL : RiseK GThingI.at_ L) {t : Int} (h : bestK GThingI.at_ L t ≠ 0) : (nth L (bestK GThingI.at_ L t - 1)).at_ ≤ t ∧ ∀ p, p < L.length → (nth L p).at_ ≤ t → (nth L p).at_ ≤ (nth L (bestK GThingI.at_ L t - 1)).at_ := by
  have hbl := bestK_le (key := GThingI.at_) L t
  refine ⟨(drop_iff hL t (by omega)).2 (by omega), fun p hp hpt => ?_⟩
  have h1 := (drop_iff hL t hp).1 hpt
  by_cases e : p = bestK GThingI.at_ L t - 1
  · rw [e]; exact Int.le_refl _
  · have := rise_lt hL (i := p) (j := bestK GThingI.at_ L t - 1) (by omega) (by omega); omega
theorem best_none {L : List GThingI} (hL : RiseK GThingI.at_ L) {t : Int} : bestK GThingI.at_ L t ≠ 0 ↔ ∃ p, p < L.length ∧ (nth L p).at_ ≤ t := by
  have hbl := bestK_le (key := GThingI.at_) L t
  constructor
  · intro h
    exact ⟨bestK GThingI.at_ L t - 1, by omega, (best_told hL h).1⟩
  · rintro ⟨p, hp, h⟩
    have := (drop_iff hL t hp).1 h
    omega
end Go.Fc
