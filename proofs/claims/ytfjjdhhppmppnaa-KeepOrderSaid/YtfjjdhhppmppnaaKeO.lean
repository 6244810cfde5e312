/- The plain law of things that are put in whatever order. No conditions. -/
import Derived.Test.YtfjjdhhppmppnaaKeR
set_option linter.all false
namespace Go.Fc
section
variable {τ : Type} [Inhabited τ] {key : τ → Int}
theorem rise_ext : ∀ {L M : List τ}, RiseK key L → RiseK key M → (∀ y, y ∈ L ↔ y ∈ M) → L = M
  | [], [], _, _, _ => rfl
  | [], y :: M, _, _, h => by have := (h y).2 (by simp); simp at this
  | x :: L, [], _, _, h => by have := (h x).1 (by simp); simp at this
  | x :: L, y :: M, hL, hM, h => by
    obtain ⟨l1, l2⟩ := List.pairwise_cons.1 hL
    obtain ⟨m1, m2⟩ := List.pairwise_cons.1 hM
    have hxy : x = y := by
      rcases List.mem_cons.1 ((h x).1 (by simp)) with e | hx
      · exact e
      · rcases List.mem_cons.1 ((h y).2 (by simp)) with e | hy
        · exact e.symm
        · have h1 := m1 x hx; have h2 := l1 y hy; omega
    subst hxy
    rw [rise_ext l2 m2]
    intro z
    constructor
    · intro hz
      rcases List.mem_cons.1 ((h z).1 (by simp [hz])) with e | hz'
      · subst e; have := l1 z hz; omega
      · exact hz'
    · intro hz
      rcases List.mem_cons.1 ((h z).2 (by simp [hz])) with e | hz'
      · subst e; have := m1 z hz; omega
      · exact hz'
theorem rise_nth {L : List τ} (hL : RiseK key L) {y : τ} (hy : y ∈ L) : bestK key L (key y) ≠ 0 ∧ nth L (bestK key L (key y) - 1) = y := by
  obtain ⟨p, hp, rfl⟩ := List.getElem_of_mem hy
  have e := fnd_key hL hp
  rw [nth_get hp] at e
  have hh : hasK key L (key L[p]) = true := (has_mem hL _).2 ⟨_, hy, rfl⟩
  have hb : bestK key L (key L[p]) = p + 1 := by simp [bestK, hh, e]
  rw [hb]
  exact ⟨by omega, by rw [Nat.add_sub_cancel, nth_get hp]⟩
end
/-- Things put at times of which none comes twice. -/
def Apart (D : List GOp) (k : Nat) : Prop := ∀ i j, i < j → j < k → (nth D i).at_ ≠ (nth D j).at_
theorem apart_puts {m : Int} (D : List GOp) : ∀ k, k ≤ D.length → (k : Int) ≤ m → Apart D k → (puts m D k).length = k ∧ ∀ y, y ∈ puts m D k ↔ ∃ i, i < k ∧ y = thing (nth D i)
  | 0, _, _, _ => by simp [puts]
  | k + 1, h, hm, ha => by
    have ih := apart_puts (m := m) D k (by omega) (by omega) (fun i j hij hj => ha i j hij (by omega))
    have hR := puts_rise m D k (by omega)
    have hno : hasK GThingI.at_ (puts m D k) (thing (nth D k)).at_ = false := by
      rw [Bool.eq_false_iff]
      intro hh
      obtain ⟨i, hi, e⟩ := (puts_has (m := m) D k (by omega) (by omega) _).1 hh
      exact ha i k hi (by omega) e
    rw [puts_succ m D (by omega), put_room hno (by omega)]
    refine ⟨by rw [insK_len, ih.1], fun y => ?_⟩
    rw [mem_insK, ih.2 y]
    constructor
    · rintro (e | ⟨i, hi, e⟩)
      · exact ⟨k, by omega, e⟩
      · exact ⟨i, by omega, e⟩
    · rintro ⟨i, hi, e⟩
      by_cases hik : i = k
      · subst hik; exact .inl e
      · exact .inr ⟨i, by omega, e⟩
/-- The same from another one on. -/
def rot (D : List GOp) (f : Nat) : List GOp := (List.range D.length).map fun i => nth D ((i + f) % D.length)
theorem rot_len (D : List GOp) (f : Nat) : (rot D f).length = D.length := by simp [rot]
theorem nth_rot {D : List GOp} {f i : Nat} (h : i < D.length) : nth (rot D f) i = nth D ((i + f) % D.length) := by simp [rot, nth, h]
theorem mod_ne {i j f n : Nat} (hij : i < j) (hj : j < n) : (i + f) % n ≠ (j + f) % n := fun e => by
  have h1 : (j + f) - (i + f) = j - i := by omega
  have h2 := (Nat.sub_mod_eq_zero_of_mod_eq e.symm)
  rw [h1] at h2
  have := Nat.le_of_dvd (by omega) (Nat.dvd_of_mod_eq_zero h2)
  omega
theorem apart_rot {D : List GOp} {f : Nat} (h : Apart D D.length) : Apart (rot D f) (rot D f).length := fun i j hij hj => by
  rw [rot_len] at hj
  rw [nth_rot (by omega), nth_rot hj]
  have hn : 0 < D.length := by omega
  have h1 := Nat.mod_lt (i + f) hn
  have h2 := Nat.mod_lt (j + f) hn
  have hne := mod_ne (f := f) hij hj
  rcases Nat.lt_or_gt_of_ne hne with h' | h'
  · exact h _ _ h' h2
  · exact fun e => h _ _ h' h1 e.symm
theorem rot_mem {D : List GOp} {f i : Nat} (h : i < D.length) : ∃ j, j < D.length ∧ nth (rot D f) j = nth D i := by
  refine ⟨(i + (D.length - f % D.length)) % D.length, Nat.mod_lt _ (by omega), ?_⟩
  rw [nth_rot (Nat.mod_lt _ (by omega))]
  congr 1
  have hf := Nat.mod_lt f (show 0 < D.length by omega)
  rw [Nat.add_mod, Nat.mod_mod, ← Nat.add_mod, Nat.add_assoc, Nat.add_mod, Nat.add_mod (D.length - f % D.length) f]
  have e : ((D.length - f % D.length) % D.length + f % D.length) % D.length = 0 := by
    by_cases h0 : f % D.length = 0
    · rw [h0]; simp
    · rw [Nat.mod_eq_of_lt (show D.length - f % D.length < D.length by omega), Nat.sub_add_cancel (by omega), Nat.mod_self]
  rw [e, Nat.add_zero, Nat.mod_mod, Nat.mod_eq_of_lt h]
/-- In whatever order: the same is there. -/
theorem puts_rot {D : List GOp} {f : Nat} {m : Int} (h : Apart D D.length) (hm : (D.length : Int) ≤ m) : puts m (rot D f) D.length = puts m D D.length := by
  have hr := apart_rot (f := f) h
  have p1 := apart_puts (m := m) D D.length (Nat.le_refl _) hm h
  have p2 := apart_puts (m := m) (rot D f) D.length (by rw [rot_len]; exact Nat.le_refl _) hm (by rw [← rot_len D f]; exact hr)
  refine rise_ext (puts_rise m _ _ (by rw [rot_len]; exact Nat.le_refl _)) (puts_rise m _ _ (Nat.le_refl _)) fun y => ?_
  rw [p1.2 y, p2.2 y]
  constructor
  · rintro ⟨i, hi, e⟩
    rw [nth_rot hi] at e
    exact ⟨_, Nat.mod_lt _ (by omega), e⟩
  · rintro ⟨i, hi, e⟩
    obtain ⟨j, hj, ej⟩ := rot_mem (f := f) hi
    exact ⟨j, hj, by rw [ej]; exact e⟩
end Go.Fc
