/- The plain law of what is kept. No conditions. -/
import Derived.Test.YtemapkbfpkdddaaFcP
set_option linter.all false
namespace Go.Fc
section
variable {τ : Type} [Inhabited τ] (key : τ → Int)
/-- How many are ahead of a time. -/
def fnd (L : List τ) (t : Int) : Nat := (L.takeWhile fun y => decide (key y < t)).length
def hasK (L : List τ) (t : Int) : Bool := decide (fnd key L t < L.length) && decide (key (nth L (fnd key L t)) = t)
def RiseK (L : List τ) : Prop := L.Pairwise fun x y => key x < key y
variable {key}
theorem fnd_le (L : List τ) (t : Int) : fnd key L t ≤ L.length := by
  have := congrArg List.length (List.takeWhile_append_dropWhile (p := fun y => decide (key y < t)) (l := L))
  rw [List.length_append] at this
  unfold fnd
  omega
theorem fnd_is : ∀ {L : List τ} {t : Int} {i : Nat}, i ≤ L.length → (∀ p, p < i → key (nth L p) < t) → (i < L.length → t ≤ key (nth L i)) → fnd key L t = i
  | [], t, i, h, _, _ => by simp at h; subst h; rfl
  | y :: L, t, 0, _, _, h2 => by
    have h2 : t ≤ key y := by simpa [nth] using h2 (by simp)
    unfold fnd
    rw [List.takeWhile_cons, if_neg]
    · rfl
    · simpa using h2
  | y :: L, t, i + 1, h, h1, h2 => by
    have h0 : key y < t := by simpa [nth] using h1 0 (by omega)
    have ih : fnd key L t = i := fnd_is (by simpa using h) (fun p hp => by simpa [nth] using h1 (p + 1) (by omega)) (fun hi => by simpa [nth] using h2 (by simpa using hi))
    unfold fnd at ih ⊢
    rw [List.takeWhile_cons, if_pos (by simpa using h0), List.length_cons, ih]
theorem rise_lt {L : List τ} (h : RiseK key L) {i j : Nat} (hij : i < j) (hj : j < L.length) : key (nth L i) < key (nth L j) := by
  rw [nth_get (by omega), nth_get hj]
  exact List.pairwise_iff_getElem.1 h i j (by omega) hj hij
theorem fnd_before {L : List τ} {t : Int} : ∀ p, p < fnd key L t → key (nth L p) < t := by
  induction L with
  | nil => intro p hp; simp [fnd] at hp
  | cons y L ih =>
    intro p hp
    unfold fnd at hp ih
    rw [List.takeWhile_cons] at hp
    split at hp
    · rename_i hy
      cases p with
      | zero => simpa [nth] using hy
      | succ p => simpa [nth] using ih p (by simpa using hp)
    · simp at hp
theorem fnd_at {L : List τ} {t : Int} (h : fnd key L t < L.length) : t ≤ key (nth L (fnd key L t)) := by
  induction L with
  | nil => simp at h
  | cons y L ih =>
    unfold fnd at h ih ⊢
    rw [List.takeWhile_cons] at h ⊢
    split
    · rename_i hy
      rw [if_pos hy] at h
      simpa [nth] using ih (by simpa using h)
    · rename_i hy
      simpa [nth] using hy
theorem uwrap_in {n : Int} (h : 0 ≤ n ∧ n ≤ 18446744073709551615) : IntKind.u64.wrap n = n := by
  simp only [IntKind.wrap, IntKind.bits, IntKind.signed]
  simp
  omega
theorem half_wrap {i j : Nat} (h : i + j ≤ 1000000) : IntKind.i64.wrap ((IntKind.u64.wrap ((i : Int) + (j : Int))).fdiv (2 ^ min 1 64)) = (((i + j) / 2 : Nat) : Int) := by
  rw [uwrap_in (by omega)]
  have e : ((i : Int) + (j : Int)).fdiv (2 ^ min 1 64) = (((i + j) / 2 : Nat) : Int) := by
    have : ((2 : Int) ^ min 1 64) = 2 := by decide
    rw [this, Int.fdiv_eq_ediv_of_nonneg _ (by omega)]
    omega
  rw [e, wrap_in (by omega)]
def cmpI (a b : Int) : Int := if a < b then -1 else if b < a then 1 else 0
theorem cmpI_lt {a b : Int} : cmpI a b < 0 ↔ a < b := by unfold cmpI; split <;> (try split) <;> simp_all
theorem cmpI_zero {a b : Int} : cmpI a b = 0 ↔ a = b := by unfold cmpI; split <;> (try split) <;> simp_all <;> omega
end
end Go.Fc
