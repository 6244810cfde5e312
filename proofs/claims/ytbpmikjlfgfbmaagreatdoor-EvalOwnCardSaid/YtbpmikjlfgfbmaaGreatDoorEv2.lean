/- What expressions tell, as functions. What expressions tell: of which type it is. What expressions tell: variables, lists. What expressions tell: the document's. No conditions. -/
import Derived.Test.YtbpmikjlfgfbmaaGreatDoorVa2
import Derived.Test.YtbpmikjlfgfbmaaGreatDoorCk2
import Derived.Test.YtbpmikjlfgfbmaaGreatDoorTyF
set_option linter.all false
namespace Go.Gd
open Go
def getV (slots : List GValue) (k t : Int) : GValue :=
  if k < 0 ∨ (slots.length : Int) ≤ k then vZ t
  else if mayV (nth slots k.toNat) = true ∧ (nth slots k.toNat).ty = t then nth slots k.toNat else vZ t
def listV (heap : List (List Int)) (v : GValue) : List Int := if v.ty ≠ 4 ∨ v.n < 1 ∨ (heap.length : Int) < v.n then [] else nth heap (v.n - 1).toNat
def isX (n : GNode) : Bool := decide (1 ≤ n.kind) && decide (n.kind ≤ 9)
/-- P6.2. -/
def exprV (p : GProg) (slots : List GValue) (heap : List (List Int)) : Nat → Int → GValue × Int
  | 0, _ => (v0, 0)
  | n + 1, a =>
    let nd := nth p.tree.nodes a.toNat
    let x := exprV p slots heap n (nth nd.l 0)
    let y := exprV p slots heap n (nth nd.l 1)
    if nd.kind = 1 then (vI nd.n, 0)
    else if nd.kind = 2 then (vB (decide (nd.n = 1)), 0)
    else if nd.kind = 3 then (vT nd.name, 0)
    else if nd.kind = 4 then (getV slots (nth p.slots a.toNat) (nth p.types a.toNat), 0)
    else if x.2 ≠ 0 then (v0, x.2)
    else if nd.kind = 5 then
      (if x.1.n < 0 ∨ ((listV heap (getV slots (nth p.slots a.toNat) 4)).length : Int) ≤ x.1.n then (v0, 2) else (vI (nth (listV heap (getV slots (nth p.slots a.toNat) 4)) x.1.n.toNat), 0))
    else if nd.kind = 9 then
      (if (nd.name = (⟨#[124, 124]⟩ : ByteArray) ∧ x.1.n = 1) ∨ (nd.name = (⟨#[38, 38]⟩ : ByteArray) ∧ x.1.n = 0) then (x.1, 0)
      else if y.2 ≠ 0 then (v0, y.2) else binV nd.name x.1 y.1)
    else if nd.kind = 6 then (if x.1.ty = 3 then (vI x.1.s.size, 0) else (vI (listV heap x.1).length, 0))
    else if nd.kind = 7 then (signV (⟨#[45]⟩ : ByteArray) x.1, 0)
    else (signV (⟨#[33]⟩ : ByteArray) x.1, 0)
end Go.Gd

namespace Go.Proofs.YtbpmikjlfgfbmaaGreatDoor
open Go Go.Gd
theorem may_zero {t : Int} (h : 1 ≤ t ∧ t ≤ 4) : mayV (vZ t) = true := by
  have : t = 1 ∨ t = 2 ∨ t = 3 ∨ t = 4 := by omega
  rcases this with rfl | rfl | rfl | rfl <;> decide
theorem get_ty (slots : List GValue) (k : Int) {t : Int} (h : 1 ≤ t ∧ t ≤ 4) : (getV slots k t).ty = t ∧ mayV (getV slots k t) = true := by
  unfold getV
  split
  · exact ⟨rfl, may_zero h⟩
  split
  · rename_i hh; exact ⟨hh.2, hh.1⟩
  · exact ⟨rfl, may_zero h⟩
theorem may_size {v : GValue} (hm : mayV v = true) : v.s.size ≤ 40 := by
  unfold mayV at hm
  split at hm
  · have : v.s = sE := by simpa using hm
    rw [this]; decide
  split at hm
  · simp only [Bool.and_eq_true, decide_eq_true_eq] at hm
    rw [hm.1]; decide
  split at hm
  · simp only [Bool.and_eq_true, decide_eq_true_eq] at hm
    omega
  split at hm
  · simp only [Bool.and_eq_true, decide_eq_true_eq] at hm
    rw [hm.1]; decide
  · cases hm
/-- A value of a type, and no trap; or a trap, and none. -/
def Told (r : GValue × Int) (T : Int) : Prop := (r.2 = 0 ∧ r.1.ty = T ∧ mayV r.1 = true) ∨ ((r.2 = 1 ∨ r.2 = 2 ∨ r.2 = 6) ∧ r.1 = v0)
theorem Told.size {r : GValue × Int} {T : Int} (h : Told r T) : r.1.s.size ≤ 40 := by
  rcases h with ⟨_, _, h⟩ | ⟨_, h⟩
  · exact may_size h
  · rw [h]; decide
theorem told_i (n : Int) : Told (vI n, 0) 1 := .inl ⟨rfl, rfl, rfl⟩
theorem told_b (b : Bool) : Told (vB b, 0) 2 := .inl ⟨rfl, rfl, by cases b <;> decide⟩
theorem told_t {s : ByteArray} (h : s.size ≤ 40) : Told (vT s, 0) 3 := .inl ⟨rfl, rfl, by
  show mayV ⟨3, 0, s⟩ = true
  unfold mayV
  simp only
  rw [if_neg (by decide), if_neg (by decide), if_pos trivial]
  simp; omega⟩
theorem told_x {t T : Int} (h : t = 1 ∨ t = 2 ∨ t = 6) : Told (v0, t) T := .inr ⟨h, rfl⟩
theorem told_if {c : Prop} [Decidable c] {x y : GValue × Int} {T : Int} (h : c → Told x T) (k : ¬ c → Told y T) : Told (if c then x else y) T := by
  split
  · exact h (by assumption)
  · exact k (by assumption)
theorem told_bin {s : ByteArray} (hs : s ∈ signsAll) {a b : GValue} (h : binT s a.ty b.ty ≠ 0) : Told (binV s a b) (binT s a.ty b.ty) := by
  have he : a.ty = b.ty := by
    unfold binT at h
    split at h
    · exact (h rfl).elim
    · omega
  have h1 : 1 ≤ a.ty ∧ a.ty ≤ 4 := by
    unfold binT at h
    rw [if_neg (by omega)] at h
    split at h
    · split at h <;> first | omega | exact (h rfl).elim
    split at h
    · split at h <;> first | omega | exact (h rfl).elim
    split at h
    · split at h <;> first | omega | exact (h rfl).elim
    split at h
    · split at h <;> first | omega | exact (h rfl).elim
    · split at h <;> first | omega | exact (h rfl).elim
  unfold binV
  rw [if_neg (by omega)]
  rcases (by omega : a.ty = 1 ∨ a.ty = 2 ∨ a.ty = 3 ∨ a.ty = 4) with ta | ta | ta | ta <;> rw [← he, ta] at h ⊢ <;> unfold binT at h ⊢ <;> simp only [signsAll, List.mem_cons, List.not_mem_nil, or_false] at hs <;> rcases hs with rfl | rfl | rfl | rfl | rfl | rfl | rfl | rfl | rfl | rfl | rfl
  all_goals first | (exfalso; revert h; decide) | (simp (decide := true) only [if_true, if_false, intsV])
  all_goals first | exact told_i _ | exact told_b _ | exact told_if (fun _ => told_x (by omega)) (fun _ => told_i _) | exact told_if (fun _ => told_x (by omega)) (fun _ => told_t (by rw [ByteArray.size_append]; omega))
theorem binT_logic {s : ByteArray} {a b : Int} (hs : s = (⟨#[124, 124]⟩ : ByteArray) ∨ s = (⟨#[38, 38]⟩ : ByteArray)) (h : binT s a b ≠ 0) : binT s a b = 2 ∧ a = 2 ∧ b = 2 := by
  unfold binT at h ⊢
  by_cases e : a = b
  · rw [if_neg (fun h => h e), if_pos hs] at h ⊢
    by_cases e2 : a = 2
    · rw [if_pos e2]; omega
    · rw [if_neg e2] at h; exact (h rfl).elim
  · rw [if_pos e] at h; exact (h rfl).elim
theorem told_trap {r : GValue × Int} {T U : Int} (h : Told r T) (hr : r.2 ≠ 0) : Told (v0, r.2) U := by
  rcases h with ⟨h, _⟩ | ⟨h, _⟩
  · exact (hr h).elim
  · exact .inr ⟨h, rfl⟩
theorem told_ok {r : GValue × Int} {T : Int} (h : Told r T) (hr : r.2 = 0) : r.1.ty = T ∧ mayV r.1 = true := by
  rcases h with ⟨_, h⟩ | ⟨h, _⟩
  · exact h
  · omega
theorem told_sign1 {v : GValue} (h : v.ty = 1) : Told (signV (⟨#[45]⟩ : ByteArray) v, 0) 1 := by
  unfold signV
  rw [if_pos ⟨rfl, h⟩]
  exact told_i _
theorem told_sign2 {v : GValue} (h : v.ty = 2) : Told (signV (⟨#[33]⟩ : ByteArray) v, 0) 2 := by
  unfold signV
  rw [if_neg (by rintro ⟨h, _⟩; revert h; decide), if_pos ⟨rfl, h⟩]
  exact told_b _
/-- What an expression's node tells. -/
theorem expr_ok {p : GProg} (h : POk p) (slots : List GValue) (heap : List (List Int)) : ∀ (n : Nat) (a : Int), 0 ≤ a → a < p.tree.nodes.length → a.toNat < n → isE (kindAt p.tree.nodes a) → Told (exprV p slots heap n a) (nth p.types a.toNat)
  | 0, a, _, _, hn, _ => by omega
  | n + 1, a, h0, h1, hn, hk => by
    have ih := expr_ok h slots heap n
    have sh := (h.tree.shape a.toNat (by omega))
    have ty := h.ty a.toNat (by omega) (by omega)
    have kid : ∀ i, i < (nth p.tree.nodes a.toNat).l.length → isE (kindAt p.tree.nodes (nth (nth p.tree.nodes a.toNat).l i)) → Told (exprV p slots heap n (nth (nth p.tree.nodes a.toNat).l i)) (nth p.types (nth (nth p.tree.nodes a.toNat).l i).toNat) := fun i hi he => by
      have := sh.2.1 _ (nth_mem hi)
      exact ih _ (by omega) (by omega) (by omega) he
    have hkr : (nth p.tree.nodes a.toNat).kind = 1 ∨ (nth p.tree.nodes a.toNat).kind = 2 ∨ (nth p.tree.nodes a.toNat).kind = 3 ∨ (nth p.tree.nodes a.toNat).kind = 4 ∨ (nth p.tree.nodes a.toNat).kind = 5 ∨ (nth p.tree.nodes a.toNat).kind = 6 ∨ (nth p.tree.nodes a.toNat).kind = 7 ∨ (nth p.tree.nodes a.toNat).kind = 8 ∨ (nth p.tree.nodes a.toNat).kind = 9 := by
      have : isE (nth p.tree.nodes a.toNat).kind := hk
      unfold isE at this
      omega
    unfold exprV
    simp only
    rcases hkr with k | k | k | k | k | k | k | k | k
    · rw [if_pos k, ty.int k]; exact told_i _
    · rw [if_neg (by omega), if_pos k, ty.bool k]; exact told_b _
    · rw [if_neg (by omega), if_neg (by omega), if_pos k, ty.text k]
      exact told_t (by have := sh.1.text k; omega)
    · rw [if_neg (by omega), if_neg (by omega), if_neg (by omega), if_pos k]
      have := get_ty slots (nth p.slots a.toNat) (ty.var k)
      exact .inl ⟨rfl, this⟩
    · obtain ⟨x, hl, hx⟩ := sh.1.one (by omega)
      have hx' : nth (nth p.tree.nodes a.toNat).l 0 = x := by rw [hl]; rfl
      have kx := kid 0 (by rw [hl]; simp) (by rw [hx']; exact hx)
      have t5 := ty.index k
      rw [if_neg (by omega), if_neg (by omega), if_neg (by omega), if_neg (by omega)]
      refine told_if (fun hh => told_trap kx hh) (fun hh => ?_)
      rw [if_pos k, t5.1]
      exact told_if (fun _ => told_x (by omega)) (fun _ => told_i _)
    · obtain ⟨x, hl, hx⟩ := sh.1.one (by omega)
      have hx' : nth (nth p.tree.nodes a.toNat).l 0 = x := by rw [hl]; rfl
      have kx := kid 0 (by rw [hl]; simp) (by rw [hx']; exact hx)
      have t5 := ty.len k
      rw [if_neg (by omega), if_neg (by omega), if_neg (by omega), if_neg (by omega)]
      refine told_if (fun hh => told_trap kx hh) (fun hh => ?_)
      rw [if_neg (by omega), if_neg (by omega), if_pos k, t5.1]
      exact told_if (fun _ => told_i _) (fun _ => told_i _)
    · obtain ⟨x, hl, hx⟩ := sh.1.one (by omega)
      have hx' : nth (nth p.tree.nodes a.toNat).l 0 = x := by rw [hl]; rfl
      have kx := kid 0 (by rw [hl]; simp) (by rw [hx']; exact hx)
      have t5 := ty.neg k
      rw [if_neg (by omega), if_neg (by omega), if_neg (by omega), if_neg (by omega)]
      refine told_if (fun hh => told_trap kx hh) (fun hh => ?_)
      rw [if_neg (by omega), if_neg (by omega), if_neg (by omega), if_pos k, t5.1]
      exact told_sign1 ((told_ok kx (by omega)).1.trans t5.2)
    · obtain ⟨x, hl, hx⟩ := sh.1.one (by omega)
      have hx' : nth (nth p.tree.nodes a.toNat).l 0 = x := by rw [hl]; rfl
      have kx := kid 0 (by rw [hl]; simp) (by rw [hx']; exact hx)
      have t5 := ty.not k
      rw [if_neg (by omega), if_neg (by omega), if_neg (by omega), if_neg (by omega)]
      refine told_if (fun hh => told_trap kx hh) (fun hh => ?_)
      rw [if_neg (by omega), if_neg (by omega), if_neg (by omega), if_neg (by omega), t5.1]
      exact told_sign2 ((told_ok kx (by omega)).1.trans t5.2)
    · obtain ⟨x, y, hl, hx, hy⟩ := sh.1.two (by omega)
      have hx' : nth (nth p.tree.nodes a.toNat).l 0 = x := by rw [hl]; rfl
      have hy' : nth (nth p.tree.nodes a.toNat).l 1 = y := by rw [hl]; rfl
      have kx := kid 0 (by rw [hl]; simp) (by rw [hx']; exact hx)
      have ky := kid 1 (by rw [hl]; simp) (by rw [hy']; exact hy)
      obtain ⟨t5, t6⟩ := ty.bin k
      rw [if_neg (by omega), if_neg (by omega), if_neg (by omega), if_neg (by omega)]
      refine told_if (fun hh => told_trap kx hh) (fun hh => ?_)
      have ox := told_ok kx (by omega)
      rw [if_neg (by omega), if_pos k]
      refine told_if (fun he => ?_) (fun _ => ?_)
      · refine .inl ⟨rfl, ?_, ox.2⟩
        show (exprV p slots heap n _).1.ty = _
        rw [ox.1]
        rw [t5] at t6 ⊢
        have hs : (nth p.tree.nodes a.toNat).name = (⟨#[124, 124]⟩ : ByteArray) ∨ (nth p.tree.nodes a.toNat).name = (⟨#[38, 38]⟩ : ByteArray) := by rcases he with he | he; exact .inl he.1; exact .inr he.1
        obtain ⟨g1, g2, g3⟩ := binT_logic hs t6
        rw [g1, g2]
      refine told_if (fun hh2 => told_trap ky hh2) (fun hh2 => ?_)
      have oy := told_ok ky (by omega)
      rw [t5] at t6 ⊢
      rw [← ox.1, ← oy.1] at t6 ⊢
      exact told_bin (sh.1.sign k) t6
/-- It does not matter how far down is looked at most. -/
theorem expr_fuel {p : GProg} (h : TreeOk p.tree) (slots : List GValue) (heap : List (List Int)) : ∀ (n m : Nat) (a : Int), 0 ≤ a → a < p.tree.nodes.length → a.toNat < n → a.toNat < m → isE (kindAt p.tree.nodes a) → exprV p slots heap n a = exprV p slots heap m a
  | 0, m, a, _, _, hn, _, _ => by omega
  | n + 1, 0, a, _, _, _, hm, _ => by omega
  | n + 1, m + 1, a, h0, h1, hn, hm, hk => by
    have sh := (h.shape a.toNat (by omega))
    have kid : ∀ i, i < (nth p.tree.nodes a.toNat).l.length → isE (kindAt p.tree.nodes (nth (nth p.tree.nodes a.toNat).l i)) → exprV p slots heap n (nth (nth p.tree.nodes a.toNat).l i) = exprV p slots heap m (nth (nth p.tree.nodes a.toNat).l i) := fun i hi he => by
      have := sh.2.1 _ (nth_mem hi)
      exact expr_fuel h slots heap n m _ (by omega) (by omega) (by omega) (by omega) he
    have hkr : (nth p.tree.nodes a.toNat).kind = 1 ∨ (nth p.tree.nodes a.toNat).kind = 2 ∨ (nth p.tree.nodes a.toNat).kind = 3 ∨ (nth p.tree.nodes a.toNat).kind = 4 ∨ ((nth p.tree.nodes a.toNat).kind = 5 ∨ (nth p.tree.nodes a.toNat).kind = 6 ∨ (nth p.tree.nodes a.toNat).kind = 7 ∨ (nth p.tree.nodes a.toNat).kind = 8) ∨ (nth p.tree.nodes a.toNat).kind = 9 := by
      have : isE (nth p.tree.nodes a.toNat).kind := hk
      unfold isE at this
      omega
    unfold exprV
    simp only
    rcases hkr with k | k | k | k | k | k
    · rw [if_pos k, if_pos k]
    · rw [if_neg (by omega), if_pos k, if_neg (by omega), if_pos k]
    · rw [if_neg (by omega), if_neg (by omega), if_pos k, if_neg (by omega), if_neg (by omega), if_pos k]
    · rw [if_neg (by omega), if_neg (by omega), if_neg (by omega), if_pos k, if_neg (by omega), if_neg (by omega), if_neg (by omega), if_pos k]
    · obtain ⟨x, hl, hx⟩ := sh.1.one (by omega)
      have hx' : nth (nth p.tree.nodes a.toNat).l 0 = x := by rw [hl]; rfl
      rw [kid 0 (by rw [hl]; simp) (by rw [hx']; exact hx)]
      have h9 : ¬ (nth p.tree.nodes a.toNat).kind = 9 := by omega
      simp only [if_neg h9]
    · obtain ⟨x, y, hl, hx, hy⟩ := sh.1.two (by omega)
      have hx' : nth (nth p.tree.nodes a.toNat).l 0 = x := by rw [hl]; rfl
      have hy' : nth (nth p.tree.nodes a.toNat).l 1 = y := by rw [hl]; rfl
      rw [kid 0 (by rw [hl]; simp) (by rw [hx']; exact hx), kid 1 (by rw [hl]; simp) (by rw [hy']; exact hy)]
end Go.Proofs.YtbpmikjlfgfbmaaGreatDoor

namespace Go.Proofs.YtbpmikjlfgfbmaaGreatDoor
open Go Go.Gd
set_option maxHeartbeats 1000000
set_option maxRecDepth 10000
abbrev rSl (l : List GValue) : AV := slOf eGValue 3 l
abbrev rHp (h : List (List Int)) : AV := slOf eLI 1 h
theorem get6_c (slots : List GValue) (k t : Int) : PCall Tryz.prog 26 [rSl slots, rI k, rI t] (rV (getV slots k t)) := by
  refine entP Tryz.func26 Tryz.ntmps26 ?_
  (repeat' (first
    | refine awp_seq_k fun K hK => ?_
    | refine wkA ?_
    | (refine hK _ _ ?_; clear hK K)
    | (refine wcond (fun hc => ?_) (fun hc => ?_) <;> first | contradiction | (exfalso; omega) | skip)
    | refine cp (zero5_c _) ?_
    | refine cp (may5_c _) ?_
    | refine wkB ?_
    | exact True.intro
    | (clear hK K)))
  all_goals (refine retd [.cell 6 44] ?_; try simp only [go_sem])
  all_goals (unfold getV; (repeat' split) <;> first | rfl | (exfalso; omega) | (exfalso; simp_all; done) | (simp_all; done) | skip)
theorem get_c (slots : List GValue) (k t : Int) : PCall Tryz.prog 16 [rSl slots, rI k, rI t] (rV (getV slots k t)) := by
  refine entP Tryz.func16 Tryz.ntmps16 ?_
  (repeat' (first
    | refine awp_seq_k fun K hK => ?_
    | refine wkA ?_
    | (refine hK _ _ ?_; clear hK K)
    | (refine wcond (fun hc => ?_) (fun hc => ?_) <;> first | contradiction | (exfalso; omega) | skip)
    | refine cp (zero_c _) ?_
    | (first | refine cg (may_c _) ?_ | refine cg' (may_c _) ?_)
    | refine cp (may_c _) ?_
    | refine wkB ?_
    | exact True.intro
    | (clear hK K)))
  all_goals (refine retd [.cell 6 44] ?_; try simp only [go_sem])
  all_goals (unfold getV; (repeat' split) <;> first | rfl | (exfalso; omega) | (exfalso; simp_all; done) | (simp_all; done) | skip)
theorem is6_c (n : GNode) : PCall Tryz.prog 12 [.agg (eGNode n)] (rB (isX n)) := by
  refine entP Tryz.func12 Tryz.ntmps12 ?_
  (repeat' (first
    | refine awp_seq_k fun K hK => ?_
    | refine wkA ?_
    | (refine hK _ _ ?_; clear hK K)
    | (refine wcond (fun hc => ?_) (fun hc => ?_) <;> first | contradiction | (exfalso; omega) | skip)
    | refine wkB ?_
    | exact True.intro
    | (clear hK K)))
  (refine retd [.tmp 2] ?_; try simp only [go_sem])
  rfl
theorem list6_c (heap : List (List Int)) (v : GValue) (hh : heap.length ≤ 1000000) : PCall Tryz.prog 29 [rHp heap, rV v] (slOf eI 1 (listV heap v)) := by
  by_cases h : v.ty ≠ 4 ∨ v.n < 1 ∨ (heap.length : Int) < v.n
  · rw [listV, if_pos h]
    refine entP Tryz.func29 Tryz.ntmps29 ?_
    (repeat' (first
    | refine awp_seq_k fun K hK => ?_
    | refine wkA ?_
    | (refine hK _ _ ?_; clear hK K)
    | (refine wcond (fun hc => ?_) (fun hc => ?_) <;> first | contradiction | (exfalso; omega) | skip)
    | refine wkB ?_
    | exact True.intro
    | (clear hK K)))
    all_goals first | (exfalso; omega) | skip
    refine retv [.tmp 4] ?_
    exact VTo.nil _ _
  · rw [listV, if_neg h]
    refine entP Tryz.func29 Tryz.ntmps29 ?_
    (repeat' (first
    | refine awp_seq_k fun K hK => ?_
    | refine wkA ?_
    | (refine hK _ _ ?_; clear hK K)
    | (refine wcond (fun hc => ?_) (fun hc => ?_) <;> first | contradiction | (exfalso; omega) | skip)
    | refine wkB ?_
    | exact True.intro
    | (clear hK K)))
    all_goals first | (exfalso; omega) | skip
    (refine retd [.tmp 4] ?_; try simp only [go_sem])
theorem list_c (heap : List (List Int)) (v : GValue) (hh : heap.length ≤ 1000000) : PCall Tryz.prog 17 [rHp heap, rV v] (slOf eI 1 (listV heap v)) := by
  by_cases h : v.ty ≠ 4 ∨ v.n < 1 ∨ (heap.length : Int) < v.n
  · rw [listV, if_pos h]
    refine entP Tryz.func17 Tryz.ntmps17 ?_
    (repeat' (first
    | refine awp_seq_k fun K hK => ?_
    | refine wkA ?_
    | (refine hK _ _ ?_; clear hK K)
    | (refine wcond (fun hc => ?_) (fun hc => ?_) <;> first | contradiction | (exfalso; omega) | skip)
    | refine wkB ?_
    | exact True.intro
    | (clear hK K)))
    all_goals first | (exfalso; omega) | skip
    refine retv [.tmp 4] ?_
    exact VTo.nil _ _
  · rw [listV, if_neg h]
    refine entP Tryz.func17 Tryz.ntmps17 ?_
    (repeat' (first
    | refine awp_seq_k fun K hK => ?_
    | refine wkA ?_
    | (refine hK _ _ ?_; clear hK K)
    | (refine wcond (fun hc => ?_) (fun hc => ?_) <;> first | contradiction | (exfalso; omega) | skip)
    | refine wkB ?_
    | exact True.intro
    | (clear hK K)))
    all_goals first | (exfalso; omega) | skip
    (refine retd [.tmp 4] ?_; try simp only [go_sem])
end Go.Proofs.YtbpmikjlfgfbmaaGreatDoor

namespace Go.Proofs.YtbpmikjlfgfbmaaGreatDoor
open Go Go.Gd
abbrev rP (p : GProg) : AV := .agg (eGProg p)
def RExprC (p : GProg) (slots : List GValue) (heap : List (List Int)) (n : Nat) : Prop := ∀ (a : Int), 0 ≤ a → a < p.tree.nodes.length → a.toNat < n → isE (kindAt p.tree.nodes a) →
  PCall Tryz.prog 14 [rP p, rI a, rSl slots, rHp heap] (.tup [rV (exprV p slots heap n a).1, rI (exprV p slots heap n a).2])
def indexV (p : GProg) (slots : List GValue) (heap : List (List Int)) (x : GValue × Int) (a : Int) : GValue × Int :=
  if x.2 ≠ 0 then (v0, x.2)
  else if x.1.n < 0 ∨ ((listV heap (getV slots (nth p.slots a.toNat) 4)).length : Int) ≤ x.1.n then (v0, 2)
  else (vI (nth (listV heap (getV slots (nth p.slots a.toNat) 4)) x.1.n.toNat), 0)
def binX (s : ByteArray) (x y : GValue × Int) : GValue × Int :=
  if x.2 ≠ 0 then (v0, x.2)
  else if (s = (⟨#[124, 124]⟩ : ByteArray) ∧ x.1.n = 1) ∨ (s = (⟨#[38, 38]⟩ : ByteArray) ∧ x.1.n = 0) then (x.1, 0)
  else if y.2 ≠ 0 then (v0, y.2)
  else binV s x.1 y.1
theorem no_both {A B C D : Prop} (h : (¬A ∨ ¬B) ∧ (¬C ∨ ¬D)) (k : A ∧ B ∨ C ∧ D) : False := by
  rcases k with ⟨a, b⟩ | ⟨c, d⟩
  · exact h.1.elim (fun h => h a) (fun h => h b)
  · exact h.2.elim (fun h => h c) (fun h => h d)
theorem exprV5 {p : GProg} (slots : List GValue) (heap : List (List Int)) (n : Nat) {a : Int} (k : (nth p.tree.nodes a.toNat).kind = 5) : exprV p slots heap (n + 1) a = indexV p slots heap (exprV p slots heap n (nth (nth p.tree.nodes a.toNat).l 0)) a := by
  conv => lhs; unfold exprV
  unfold indexV
  simp only
  rw [if_neg (by omega), if_neg (by omega), if_neg (by omega), if_neg (by omega), if_pos k]
theorem exprV9 {p : GProg} (slots : List GValue) (heap : List (List Int)) (n : Nat) {a : Int} (k : (nth p.tree.nodes a.toNat).kind = 9) : exprV p slots heap (n + 1) a = binX (nth p.tree.nodes a.toNat).name (exprV p slots heap n (nth (nth p.tree.nodes a.toNat).l 0)) (exprV p slots heap n (nth (nth p.tree.nodes a.toNat).l 1)) := by
  conv => lhs; unfold exprV
  unfold binX
  simp only
  rw [if_neg (by omega), if_neg (by omega), if_neg (by omega), if_neg (by omega), if_neg (c := (nth p.tree.nodes a.toNat).kind = 5) (by omega), if_pos k]
def oneV (heap : List (List Int)) (k : Int) (x : GValue × Int) : GValue × Int :=
  if x.2 ≠ 0 then (v0, x.2)
  else if k = 6 then (if x.1.ty = 3 then (vI x.1.s.size, 0) else (vI (listV heap x.1).length, 0))
  else if k = 7 then (signV (⟨#[45]⟩ : ByteArray) x.1, 0)
  else (signV (⟨#[33]⟩ : ByteArray) x.1, 0)
theorem exprV1 {p : GProg} (slots : List GValue) (heap : List (List Int)) (n : Nat) {a : Int} (k : (nth p.tree.nodes a.toNat).kind = 6 ∨ (nth p.tree.nodes a.toNat).kind = 7 ∨ (nth p.tree.nodes a.toNat).kind = 8) : exprV p slots heap (n + 1) a = oneV heap (nth p.tree.nodes a.toNat).kind (exprV p slots heap n (nth (nth p.tree.nodes a.toNat).l 0)) := by
  conv => lhs; unfold exprV
  unfold oneV
  simp only
  rw [if_neg (by omega), if_neg (by omega), if_neg (by omega), if_neg (by omega), if_neg (c := (nth p.tree.nodes a.toNat).kind = 5) (by omega), if_neg (c := (nth p.tree.nodes a.toNat).kind = 9) (by omega)]
set_option maxHeartbeats 4000000 in
set_option maxRecDepth 10000 in
theorem index6_c {p : GProg} (h : POk p) (slots : List GValue) (heap : List (List Int)) (hh : heap.length ≤ 1000000) (n : Nat) (ih : RExprC p slots heap n) (a : Int) (h0 : 0 ≤ a) (h1 : a < p.tree.nodes.length) (hn : a.toNat ≤ n) (hk : (nth p.tree.nodes a.toNat).kind = 5) :
    PCall Tryz.prog 27 [rP p, rI a, rSl slots, rHp heap] (.tup [rV (indexV p slots heap (exprV p slots heap n (nth (nth p.tree.nodes a.toNat).l 0)) a).1, rI (indexV p slots heap (exprV p slots heap n (nth (nth p.tree.nodes a.toNat).l 0)) a).2]) := by
  have sh := h.tree.shape a.toNat (by omega)
  have hsl := h.slots
  obtain ⟨x, hl, hx⟩ := sh.1.one (by omega)
  have hlen : (nth p.tree.nodes a.toNat).l.length = 1 := by rw [hl]; rfl
  have hx' : nth (nth p.tree.nodes a.toNat).l 0 = x := by rw [hl]; rfl
  have hb := sh.2.1 x (by rw [hl]; simp)
  have hc1 := ih x hb.1 (by omega) (by omega) hx
  refine entP Tryz.func27 Tryz.ntmps27 ?_
  (have W := And.intro hlen (hx'); repeat' (first
    | refine awp_seq_k fun K hK => ?_
    | refine wkA ?_
    | refine dL 1 [] [16] [0, 1, 2, 3, 4, 5, 6, 7, 8, 9, 10, 11, 12, 13, 14, 15, 16, 17, 18] mixed ?_
    | (refine hK _ _ ?_; clear hK K)
    | (refine wcond (fun hc => ?_) (fun hc => ?_) <;> first | contradiction | (exfalso; omega) | skip)
    | refine cp (hc1) ?_
    | refine cp (get6_c _ _ _) ?_
    | refine cp (list6_c _ _ hh) ?_
    | refine cp (int5_c _) ?_
    | refine wkB ?_
    | exact True.intro
    | (clear hK K))); all_goals (try clear W)
  all_goals (refine retd [.cell 8 44, .tmp 9] ?_; try simp only [go_sem])
  all_goals (unfold indexV; simp only [hx']; (repeat' split) <;> first | rfl | (exfalso; omega) | (exfalso; simp_all; done) | (simp_all; done) | skip)
set_option maxHeartbeats 4000000 in
set_option maxRecDepth 10000 in
theorem bin6_c {p : GProg} (h : POk p) (slots : List GValue) (heap : List (List Int)) (n : Nat) (ih : RExprC p slots heap n) (a : Int) (h0 : 0 ≤ a) (h1 : a < p.tree.nodes.length) (hn : a.toNat ≤ n) (hk : (nth p.tree.nodes a.toNat).kind = 9) :
    PCall Tryz.prog 28 [rP p, .agg (eGNode (nth p.tree.nodes a.toNat)), rSl slots, rHp heap] (.tup [rV (binX (nth p.tree.nodes a.toNat).name (exprV p slots heap n (nth (nth p.tree.nodes a.toNat).l 0)) (exprV p slots heap n (nth (nth p.tree.nodes a.toNat).l 1))).1, rI (binX (nth p.tree.nodes a.toNat).name (exprV p slots heap n (nth (nth p.tree.nodes a.toNat).l 0)) (exprV p slots heap n (nth (nth p.tree.nodes a.toNat).l 1))).2]) := by
  have sh := h.tree.shape a.toNat (by omega)
  obtain ⟨x, y, hl, hx, hy⟩ := sh.1.two (by omega)
  have hlen : (nth p.tree.nodes a.toNat).l.length = 2 := by rw [hl]; rfl
  have hx' : nth (nth p.tree.nodes a.toNat).l 0 = x := by rw [hl]; rfl
  have hy' : nth (nth p.tree.nodes a.toNat).l 1 = y := by rw [hl]; rfl
  have hb := sh.2.1 x (by rw [hl]; simp)
  have hb2 := sh.2.1 y (by rw [hl]; simp)
  have hc1 := ih x hb.1 (by omega) (by omega) hx
  have hc2 := ih y hb2.1 (by omega) (by omega) hy
  have s1 := (expr_ok h slots heap n x hb.1 (by omega) (by omega) hx).size
  have s2 := (expr_ok h slots heap n y hb2.1 (by omega) (by omega) hy).size
  refine entP Tryz.func28 Tryz.ntmps28 ?_
  (have W := And.intro hlen (And.intro hx' (hy')); repeat' (first
    | refine awp_seq_k fun K hK => ?_
    | refine wkA ?_
    | refine dL 1 [] [11] [0, 1, 2, 3, 4, 5, 6, 7, 8, 9, 10, 11, 12, 13] mixed ?_
    | refine dL 6 [] [11] [0, 1, 2, 3, 4, 5, 6, 7, 8, 9, 10, 11, 12, 13] mixed ?_
    | (refine hK _ _ ?_; clear hK K)
    | (refine wcond (fun hc => ?_) (fun hc => ?_) <;> first | contradiction | (exfalso; omega) | skip)
    | refine cp (hc1) ?_
    | refine cp (hc2) ?_
    | refine cp (bin5_c _ _ _ (by omega) (by omega)) ?_
    | refine wkB ?_
    | exact True.intro
    | (clear hK K))); all_goals (try clear W)
  all_goals (refine retd [.cell 8 44, .tmp 9] ?_; try simp only [go_sem])
  all_goals (unfold binX; simp only [hx', hy']; (repeat' split) <;> first | rfl | exact (no_both (by assumption) (by assumption)).elim | (exfalso; omega) | (exfalso; simp_all; done) | (simp_all; done) | skip)
end Go.Proofs.YtbpmikjlfgfbmaaGreatDoor
