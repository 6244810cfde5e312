/- The plain law of what is kept: putting, dropping, looking for. No conditions. -/
import Derived.Test.YtemapkbfpkdddaaKeM
set_option linter.all false
namespace Go.Fc
section
variable {τ : Type} [Inhabited τ] (key : τ → Int)
def gapK (L : List τ) (i : Nat) : Int := IntKind.u64.wrap (IntKind.u64.wrap (key (nth L i)) - IntKind.u64.wrap (key (nth L (i - 1))))
/-- The place of the one that is the least behind the one ahead of it, among the first k. -/
def nearTo (L : List τ) : Nat → Nat
  | 0 => 1
  | k + 1 => if 2 ≤ k ∧ gapK key L k < gapK key L (nearTo L k) then k else nearTo L k
def nearK (L : List τ) : Nat := nearTo key L L.length
def insK (L : List τ) (e : τ) : List τ := L.take (fnd key L (key e)) ++ [e] ++ L.drop (fnd key L (key e))
def cutK (most : Int) (L : List τ) : List τ := if most < L.length then L.take (nearK key L) ++ L.drop (nearK key L + 1) else L
def putK (most : Int) (L : List τ) (e : τ) : List τ := if hasK key L (key e) then L.set (fnd key L (key e)) e else cutK key most (insK key L e)
def dropK (L : List τ) (t : Int) : List τ := L.take (fnd key L t + if hasK key L t then 1 else 0)
/-- The place of the nearest, one more; 0 if there is none. -/
def bestK (L : List τ) (t : Int) : Nat := fnd key L t + if hasK key L t then 1 else 0
variable {key}
theorem nearTo_le (L : List τ) : ∀ k, 1 ≤ nearTo key L k ∧ (nearTo key L k < k ∨ nearTo key L k = 1)
  | 0 => ⟨Nat.le_refl _, .inr rfl⟩
  | k + 1 => by
    have ih := nearTo_le L k
    unfold nearTo
    split
    · rename_i h
      exact ⟨by omega, .inl (by omega)⟩
    · exact ⟨ih.1, by rcases ih.2 with h | h; exact .inl (by omega); exact .inr h⟩
theorem nearK_le (L : List τ) (h : 2 ≤ L.length) : 1 ≤ nearK key L ∧ nearK key L < L.length := by
  have := nearTo_le (key := key) L L.length
  unfold nearK
  omega
theorem insK_len (L : List τ) (e : τ) : (insK key L e).length = L.length + 1 := by
  have := fnd_le (key := key) L (key e)
  simp only [insK, List.length_append, List.length_take, List.length_drop, List.length_singleton]
  omega
theorem cutK_len (most : Int) (L : List τ) (h : 1 ≤ most) : ((cutK key most L).length : Int) = if most < L.length then L.length - 1 else L.length := by
  unfold cutK
  split
  · rename_i hm
    have := nearK_le (key := key) L (by omega)
    simp only [List.length_append, List.length_take, List.length_drop]
    omega
  · rfl
theorem putK_len (most : Int) (L : List τ) (e : τ) (h : 1 ≤ most) (hL : (L.length : Int) ≤ most) : (putK key most L e).length ≤ L.length + 1 ∧ ((putK key most L e).length : Int) ≤ most := by
  unfold putK
  split
  · simp; omega
  · have h1 := cutK_len (key := key) most (insK key L e) h
    rw [insK_len] at h1
    split at h1 <;> omega
theorem sub_rise {L M : List τ} (h : RiseK key L) (hs : M.Sublist L) : RiseK key M := h.sublist hs
theorem rise_iff (L : List τ) : RiseK key L ↔ ∀ i j, i < j → j < L.length → key (nth L i) < key (nth L j) := by
  constructor
  · intro h i j hij hj; exact rise_lt h hij hj
  · intro h
    refine List.pairwise_iff_getElem.2 fun i j hi hj hij => ?_
    have := h i j hij hj
    rwa [nth_get hi, nth_get hj] at this
theorem fnd_lt_has {L : List τ} {t : Int} (h : hasK key L t = true) : fnd key L t < L.length ∧ key (nth L (fnd key L t)) = t := by
  simp only [hasK, Bool.and_eq_true, decide_eq_true_eq] at h; exact h
theorem fnd_gt {L : List τ} {t : Int} (hL : RiseK key L) (h : hasK key L t = false) {p : Nat} (h1 : fnd key L t ≤ p) (h2 : p < L.length) : t < key (nth L p) := by
  have h3 := fnd_at (key := key) (L := L) (t := t) (by omega)
  have hne : ¬ key (nth L (fnd key L t)) = t := fun e => by
    simp only [hasK, Bool.and_eq_false_iff, decide_eq_false_iff_not] at h
    rcases h with h | h
    · omega
    · exact h e
  by_cases e : fnd key L t = p
  · subst e; omega
  · have := rise_lt hL (i := fnd key L t) (j := p) (by omega) h2
    omega
theorem insK_rise {L : List τ} {e : τ} (hL : RiseK key L) (h : hasK key L (key e) = false) : RiseK key (insK key L e) := by
  have hle := fnd_le (key := key) L (key e)
  refine List.pairwise_append.2 ⟨List.pairwise_append.2 ⟨hL.sublist (List.take_sublist _ _), List.pairwise_singleton _ _, fun x hx y hy => ?_⟩, hL.sublist (List.drop_sublist _ _), fun x hx y hy => ?_⟩
  · rw [List.mem_singleton.1 hy]
    obtain ⟨i, hi, rfl⟩ := List.getElem_of_mem hx
    simp only [List.length_take] at hi
    have := fnd_before (key := key) (L := L) (t := key e) i (by omega)
    rw [nth_get (by omega)] at this
    simpa using this
  · obtain ⟨j, hj, rfl⟩ := List.getElem_of_mem hy
    simp only [List.length_drop] at hj
    have h2 := fnd_gt hL h (p := fnd key L (key e) + j) (by omega) (by omega)
    rw [nth_get (by omega)] at h2
    rcases List.mem_append.1 hx with hx | hx
    · obtain ⟨i, hi, rfl⟩ := List.getElem_of_mem hx
      simp only [List.length_take] at hi
      have := fnd_before (key := key) (L := L) (t := key e) i (by omega)
      rw [nth_get (by omega)] at this
      simp only [List.getElem_take, List.getElem_drop]
      omega
    · rw [List.mem_singleton.1 hx]
      simpa using h2
theorem set_rise {L : List τ} {e : τ} (hL : RiseK key L) (h : hasK key L (key e) = true) : RiseK key (L.set (fnd key L (key e)) e) := by
  obtain ⟨h1, h2⟩ := fnd_lt_has h
  rw [rise_iff] at hL ⊢
  have hk : ∀ i, key (nth (L.set (fnd key L (key e)) e) i) = key (nth L i) := fun i => by
    by_cases hi : fnd key L (key e) = i
    · subst hi
      rw [h2]
      simp [nth, h1]
    · simp [nth, List.getElem?_set_ne hi]
  intro i j hij hj
  rw [hk, hk]
  exact hL i j hij (by simpa using hj)
theorem cutK_sub (most : Int) (L : List τ) : (cutK key most L).Sublist L := by
  unfold cutK
  split
  · conv => rhs; rw [← List.take_append_drop (nearK key L) L]
    exact List.Sublist.append (List.Sublist.refl _) (List.drop_sublist_drop_left _ (Nat.le_succ _))
  · exact List.Sublist.refl _
theorem putK_rise {most : Int} {L : List τ} {e : τ} (hL : RiseK key L) : RiseK key (putK key most L e) := by
  unfold putK
  split
  · rename_i h; exact set_rise hL h
  · rename_i h; exact (insK_rise hL (by simpa using h)).sublist (cutK_sub _ _)
theorem dropK_rise {L : List τ} {t : Int} (hL : RiseK key L) : RiseK key (dropK key L t) := hL.sublist (List.take_sublist _ _)
end
end Go.Fc
