/- The plain law of what is kept: what is there behind puts and drops. No conditions. -/
import Derived.Test.YtemapkbfpkdddaaKeP
import Derived.Test.YtemapkbfpkdddaaFcY
set_option linter.all false
namespace Go.Fc
section
variable {τ : Type} [Inhabited τ] {key : τ → Int}
theorem fnd_key {L : List τ} (hL : RiseK key L) {p : Nat} (hp : p < L.length) : fnd key L (key (nth L p)) = p :=
  fnd_is (by omega) (fun q hq => rise_lt hL hq hp) (fun _ => Int.le_refl _)
theorem has_iff {L : List τ} (hL : RiseK key L) (t : Int) : hasK key L t = true ↔ ∃ p, p < L.length ∧ key (nth L p) = t := by
  constructor
  · intro h
    exact ⟨_, fnd_lt_has h⟩
  · rintro ⟨p, hp, rfl⟩
    simp [hasK, fnd_key hL hp, hp]
theorem has_mem {L : List τ} (hL : RiseK key L) (t : Int) : hasK key L t = true ↔ ∃ y ∈ L, key y = t := by
  rw [has_iff hL]
  constructor
  · rintro ⟨p, hp, e⟩
    exact ⟨nth L p, by rw [nth_get hp]; exact List.getElem_mem _, e⟩
  · rintro ⟨y, hy, e⟩
    obtain ⟨p, hp, rfl⟩ := List.getElem_of_mem hy
    exact ⟨p, hp, by rw [nth_get hp]; exact e⟩
theorem put_room {most : Int} {L : List τ} {e : τ} (h : hasK key L (key e) = false) (hr : (L.length : Int) + 1 ≤ most) : putK key most L e = insK key L e := by
  unfold putK
  rw [h]
  simp only [Bool.false_eq_true, if_false, cutK, insK_len]
  rw [if_neg (by omega)]
theorem mem_insK {L : List τ} {e y : τ} : y ∈ insK key L e ↔ y = e ∨ y ∈ L := by
  unfold insK
  rw [List.mem_append, List.mem_append, List.mem_singleton]
  have : y ∈ L ↔ y ∈ L.take (fnd key L (key e)) ∨ y ∈ L.drop (fnd key L (key e)) := by rw [← List.mem_append, List.take_append_drop]
  rw [this]
  constructor
  · rintro ((h | h) | h)
    · exact .inr (.inl h)
    · exact .inl h
    · exact .inr (.inr h)
  · rintro (h | h | h)
    · exact .inl (.inr h)
    · exact .inl (.inl h)
    · exact .inr h
theorem has_put {most : Int} {L : List τ} {e : τ} (hL : RiseK key L) (hr : (L.length : Int) + 1 ≤ most) (t : Int) : hasK key (putK key most L e) t = true ↔ key e = t ∨ hasK key L t = true := by
  have hR := putK_rise (most := most) (e := e) hL
  rw [has_mem hR, has_mem hL]
  cases hh : hasK key L (key e) with
  | false =>
    rw [put_room hh hr]
    constructor
    · rintro ⟨y, hy, rfl⟩
      rcases mem_insK.1 hy with rfl | hy
      · exact .inl rfl
      · exact .inr ⟨y, hy, rfl⟩
    · rintro (rfl | ⟨y, hy, rfl⟩)
      · exact ⟨e, mem_insK.2 (.inl rfl), rfl⟩
      · exact ⟨y, mem_insK.2 (.inr hy), rfl⟩
  | true =>
    obtain ⟨h1, h2⟩ := fnd_lt_has hh
    have e1 : putK key most L e = L.set (fnd key L (key e)) e := by simp [putK, hh]
    rw [e1]
    constructor
    · rintro ⟨y, hy, rfl⟩
      rcases List.mem_or_eq_of_mem_set hy with hy | rfl
      · exact .inr ⟨y, hy, rfl⟩
      · exact .inl rfl
    · rintro (rfl | ⟨y, hy, rfl⟩)
      · exact ⟨e, List.mem_set h1 _, rfl⟩
      · obtain ⟨p, hp, rfl⟩ := List.getElem_of_mem hy
        by_cases hpe : fnd key L (key e) = p
        · subst hpe
          refine ⟨e, List.mem_set h1 _, ?_⟩
          rw [nth_get h1] at h2
          exact h2.symm
        · exact ⟨L[p], List.mem_iff_getElem.2 ⟨p, by simpa using hp, by rw [List.getElem_set_ne hpe]⟩, rfl⟩
theorem drop_has {L : List τ} (hL : RiseK key L) {t u : Int} (h : u ≤ t) (hu : hasK key L u = true) : hasK key (dropK key L t) u = true := by
  obtain ⟨p, hp, rfl⟩ := (has_iff hL u).1 hu
  rw [has_iff (dropK_rise hL)]
  have hpb : p < fnd key L t + if hasK key L t then 1 else 0 := by
    by_cases hlt : key (nth L p) < t
    · rcases Nat.lt_or_ge p (fnd key L t) with h' | h'
      · omega
      · have hfp : fnd key L t < L.length := by omega
        have := fnd_at (key := key) (L := L) (t := t) hfp
        by_cases e : fnd key L t = p
        · subst e; omega
        · have := rise_lt hL (i := fnd key L t) (j := p) (by omega) hp
          omega
    · have e : key (nth L p) = t := by omega
      have : fnd key L t = p := by rw [← e]; exact fnd_key hL hp
      have hh : hasK key L t = true := by rw [has_iff hL]; exact ⟨p, hp, e⟩
      rw [hh, this]; simp
  refine ⟨p, ?_, ?_⟩
  · unfold dropK; rw [List.length_take]; omega
  · unfold dropK
    simp [nth, List.getElem?_take, hpb]
theorem drop_iff {L : List τ} (hL : RiseK key L) (t : Int) {p : Nat} (hp : p < L.length) : key (nth L p) ≤ t ↔ p < bestK key L t := by
  unfold bestK
  constructor
  · intro h
    by_cases hlt : key (nth L p) < t
    · rcases Nat.lt_or_ge p (fnd key L t) with h' | h'
      · omega
      · have := fnd_at (key := key) (L := L) (t := t) (by omega)
        by_cases e : fnd key L t = p
        · subst e; omega
        · have := rise_lt hL (i := fnd key L t) (j := p) (by omega) hp
          omega
    · have e : key (nth L p) = t := by omega
      have : fnd key L t = p := by rw [← e]; exact fnd_key hL hp
      have hh : hasK key L t = true := by rw [has_iff hL]; exact ⟨p, hp, e⟩
      rw [hh, this]; simp
  · intro h
    by_cases h2 : p < fnd key L t
    · have := fnd_before (key := key) p h2; omega
    · cases hh : hasK key L t with
      | false => rw [hh] at h; simp at h; omega
      | true =>
        rw [hh] at h
        simp at h
        have := fnd_lt_has hh
        have e : p = fnd key L t := by omega
        subst e
        omega
theorem tell_has {L : List τ} {t : Int} (h : hasK key L t = true) : bestK key L t ≠ 0 ∧ key (nth L (bestK key L t - 1)) = t := by
  have e : bestK key L t = fnd key L t + 1 := by simp [bestK, h]
  rw [e]
  exact ⟨by omega, (fnd_lt_has h).2⟩
theorem bestK_le (L : List τ) (t : Int) : bestK key L t ≤ L.length := by
  have := fnd_le (key := key) L t
  unfold bestK
  split
  · rename_i h
    have := fnd_lt_has h
    omega
  · omega
theorem dropK_len (L : List τ) (t : Int) : (dropK key L t).length = bestK key L t := by
  have := bestK_le (key := key) L t
  show (L.take (bestK key L t)).length = _
  rw [List.length_take]
  omega
theorem nth_drop {L : List τ} {t : Int} {p : Nat} (h : p < bestK key L t) : nth (dropK key L t) p = nth L p := by
  unfold dropK
  unfold bestK at h
  simp [nth, List.getElem?_take, h]
end
def thing (o : GOp) : GThingI := ⟨o.at_, o.x⟩
def puts (m : Int) (l : List GOp) (k : Nat) : List GThingI := (l.take k).foldl (fun L o => putK GThingI.at_ m L (thing o)) []
theorem puts_succ (m : Int) (l : List GOp) {k : Nat} (hk : k < l.length) : puts m l (k + 1) = putK GThingI.at_ m (puts m l k) (thing (nth l k)) := by
  unfold puts
  rw [take_nth hk, List.foldl_append]
  rfl
theorem puts_rise (m : Int) (l : List GOp) : ∀ k, k ≤ l.length → RiseK GThingI.at_ (puts m l k)
  | 0, _ => List.Pairwise.nil
  | k + 1, h => by
    rw [puts_succ m l (by omega)]
    exact putK_rise (puts_rise m l k (by omega))
theorem puts_len {m : Int} (hm : 1 ≤ m) (l : List GOp) : ∀ k, k ≤ l.length → (puts m l k).length ≤ k ∧ ((puts m l k).length : Int) ≤ m
  | 0, _ => by simp [puts]; omega
  | k + 1, h => by
    rw [puts_succ m l (by omega)]
    have ih := puts_len hm l k (by omega)
    have := putK_len (key := GThingI.at_) m (puts m l k) (thing (nth l k)) hm ih.2
    exact ⟨by omega, this.2⟩
theorem puts_has {m : Int} (l : List GOp) : ∀ k, k ≤ l.length → (k : Int) ≤ m → ∀ t, hasK GThingI.at_ (puts m l k) t = true ↔ ∃ i, i < k ∧ (nth l i).at_ = t
  | 0, _, _, t => by simp [puts, hasK, fnd]
  | k + 1, h, hm, t => by
    have ih := puts_has (m := m) l k (by omega) (by omega) t
    have hl := puts_len (m := m) (by omega) l k (by omega)
    rw [puts_succ m l (by omega), has_put (puts_rise m l k (by omega)) (by omega), ih]
    constructor
    · rintro (h | ⟨i, hi, e⟩)
      · exact ⟨k, by omega, h⟩
      · exact ⟨i, by omega, e⟩
    · rintro ⟨i, hi, e⟩
      by_cases hik : i = k
      · subst hik; exact .inl e
      · exact .inr ⟨i, by omega, e⟩
end Go.Fc
