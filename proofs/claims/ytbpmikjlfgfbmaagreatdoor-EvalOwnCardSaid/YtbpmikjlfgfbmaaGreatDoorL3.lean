/- The plain law of the document's lexer. The document's lexer: bytes, words, spans. The document's lexer: tokens. The document's lexer: all. No conditions. -/
import Derived.Test.YtbpmikjlfgfbmaaGreatDoorGdY
import Derived.Test.YtbpmikjlfgfbmaaGreatDoorGdT
set_option linter.all false
namespace Go.Gd
open Go
def isDigit (n : Int) : Bool := decide (48 ≤ n) && decide (n ≤ 57)
def isLetter (n : Int) : Bool := (decide (97 ≤ n) && decide (n ≤ 122)) || (decide (65 ≤ n) && decide (n ≤ 90))
def isNum (s : ByteArray) : Bool := decide ((s.size : Int) < 19) || (decide ((s.size : Int) = 19) && (Op.bytesLess s.toList (⟨#[57, 50, 50, 51, 51, 55, 50, 48, 51, 54, 56, 53, 52, 55, 55, 53, 56, 48, 55]⟩ : ByteArray).toList || decide (s = (⟨#[57, 50, 50, 51, 51, 55, 50, 48, 51, 54, 56, 53, 52, 55, 55, 53, 56, 48, 55]⟩ : ByteArray))))
def lineAt (s : ByteArray) : Nat → Int
  | 0 => 1
  | k + 1 => if byteAt s k = 10 then lineAt s k + 1 else lineAt s k
theorem lineAt_bd (s : ByteArray) : ∀ k, 1 ≤ lineAt s k ∧ lineAt s k ≤ k + 1
  | 0 => by simp [lineAt]
  | k + 1 => by
    have := lineAt_bd s k
    unfold lineAt
    split <;> omega
def kwords : List ByteArray := [(⟨#[102, 110]⟩ : ByteArray), (⟨#[108, 101, 116]⟩ : ByteArray), (⟨#[105, 102]⟩ : ByteArray), (⟨#[101, 108, 115, 101]⟩ : ByteArray), (⟨#[119, 104, 105, 108, 101]⟩ : ByteArray), (⟨#[114, 101, 116, 117, 114, 110]⟩ : ByteArray), (⟨#[112, 114, 105, 110, 116]⟩ : ByteArray), (⟨#[105, 110, 112, 117, 116]⟩ : ByteArray), (⟨#[110, 101, 119]⟩ : ByteArray), (⟨#[108, 101, 110]⟩ : ByteArray), (⟨#[116, 114, 117, 101]⟩ : ByteArray), (⟨#[102, 97, 108, 115, 101]⟩ : ByteArray), (⟨#[105, 110, 116]⟩ : ByteArray), (⟨#[98, 111, 111, 108]⟩ : ByteArray), (⟨#[116, 101, 120, 116]⟩ : ByteArray), (⟨#[108, 105, 115, 116]⟩ : ByteArray)]
theorem kwords_len : kwords.length = 16 := rfl
def isKw (s : ByteArray) : Bool := kwords.any fun t => decide (t = s)
-- the first one
theorem find_first {α : Type} [Inhabited α] {p : α → Bool} : ∀ {l : List α} {k : Nat}, (∀ j, j < k → p (nth l j) = false) → k < l.length → p (nth l k) = true → l.find? p = some (nth l k)
  | [], k, _, h, _ => by simp at h
  | x :: l, 0, _, _, hp => by
    have : p x = true := hp
    rw [List.find?_cons, this]; rfl
  | x :: l, k + 1, h, hk, hp => by
    have h0 : p x = false := h 0 (by omega)
    rw [List.find?_cons, h0]
    exact find_first (fun j hj => h (j + 1) (by omega)) (by simpa using hk) hp
theorem find_none {α : Type} [Inhabited α] {p : α → Bool} {l : List α} (h : ∀ j, j < l.length → p (nth l j) = false) : l.find? p = none := by
  rw [List.find?_eq_none]
  intro x hx
  obtain ⟨j, hj, rfl⟩ := List.getElem_of_mem hx
  have := h j hj
  rw [nth_get hj] at this
  simp [this]
theorem nth_range {n k : Nat} (h : k < n) : nth (List.range n) k = k := by simp [nth, h]
-- bytes of which p holds
def spanF (p : Int → Bool) (s : ByteArray) : Nat → Nat → Nat
  | 0, i => i
  | n + 1, i => if i < s.size ∧ p (byteAt s i) = true then spanF p s n (i + 1) else i
def spanE (p : Int → Bool) (s : ByteArray) (i : Nat) : Nat := spanF p s (s.size + 1) i
theorem spanF_is {p : Int → Bool} {s : ByteArray} {k : Nat} (hstop : ¬ (k < s.size ∧ p (byteAt s k) = true)) : ∀ {n i : Nat}, i ≤ k → k < n + i → (∀ j, i ≤ j → j < k → j < s.size ∧ p (byteAt s j) = true) → spanF p s n i = k
  | 0, i, h1, h2, _ => by omega
  | n + 1, i, h1, h2, h3 => by
    unfold spanF
    by_cases e : i = k
    · subst e; rw [if_neg hstop]
    · rw [if_pos (h3 i (Nat.le_refl _) (by omega))]
      exact spanF_is hstop (by omega) (by omega) fun j hj => h3 j (by omega)
theorem spanE_is {p : Int → Bool} {s : ByteArray} {i k : Nat} (hstop : ¬ (k < s.size ∧ p (byteAt s k) = true)) (h1 : i ≤ k) (hk : k ≤ s.size) (h3 : ∀ j, i ≤ j → j < k → p (byteAt s j) = true) : spanE p s i = k :=
  spanF_is hstop h1 (by omega) fun j hj hjk => ⟨by omega, h3 j hj hjk⟩
theorem spanF_bd {p : Int → Bool} {s : ByteArray} : ∀ {n i : Nat}, i ≤ spanF p s n i ∧ (i ≤ s.size → spanF p s n i ≤ s.size)
  | 0, i => ⟨Nat.le_refl _, id⟩
  | n + 1, i => by
    unfold spanF
    split
    · have := spanF_bd (p := p) (s := s) (n := n) (i := i + 1)
      exact ⟨by omega, fun _ => this.2 (by omega)⟩
    · exact ⟨Nat.le_refl _, id⟩
theorem spanE_bd {p : Int → Bool} {s : ByteArray} {i : Nat} (h : i ≤ s.size) : i ≤ spanE p s i ∧ spanE p s i ≤ s.size := ⟨spanF_bd.1, spanF_bd.2 h⟩
theorem spanE_pos {p : Int → Bool} {s : ByteArray} {i : Nat} (h : i < s.size) (hp : p (byteAt s i) = true) : i < spanE p s i := by
  unfold spanE
  unfold spanF
  rw [if_pos ⟨h, hp⟩]
  have := (spanF_bd (p := p) (s := s) (n := s.size) (i := i + 1)).1
  omega
theorem spanF_all {p : Int → Bool} {s : ByteArray} : ∀ {n i j : Nat}, i ≤ j → j < spanF p s n i → p (byteAt s j) = true
  | 0, i, j, h1, h2 => by unfold spanF at h2; omega
  | n + 1, i, j, h1, h2 => by
    unfold spanF at h2
    split at h2
    · rename_i h
      by_cases e : j = i
      · subst e; exact h.2
      · exact spanF_all (by omega) h2
    · omega
-- places between tokens
def isSp (c : Int) : Bool := decide (c = 32) || decide (c = 9) || decide (c = 13) || decide (c = 10)
def isCom (s : ByteArray) (i : Nat) : Bool := decide (byteAt s i = 47) && decide (i + 1 < s.size) && decide (byteAt s (i + 1 : Nat) = 47)
def noNl (c : Int) : Bool := decide (c ≠ 10)
def skStep (s : ByteArray) (i : Nat) : Option Nat := if i < s.size then (if isSp (byteAt s i) = true then some (i + 1) else if isCom s i = true then some (spanE noNl s i) else none) else none
def skF (s : ByteArray) : Nat → Nat → Nat
  | 0, i => i
  | n + 1, i => match skStep s i with
    | some j => skF s n j
    | none => i
theorem skStep_lt {s : ByteArray} {i j : Nat} (h : skStep s i = some j) : i < j ∧ j ≤ s.size := by
  unfold skStep at h
  split at h
  · rename_i hi
    split at h
    · cases h; omega
    · split at h
      · rename_i hc
        cases h
        have hne : noNl (byteAt s i) = true := by
          simp only [isCom, Bool.and_eq_true, decide_eq_true_eq] at hc
          simp [noNl, hc.1.1]
        exact ⟨spanE_pos hi hne, (spanE_bd (by omega)).2⟩
      · cases h
  · cases h
theorem skF_stable (s : ByteArray) : ∀ (n m i : Nat), s.size < n + i → s.size < m + i → skF s n i = skF s m i
  | 0, 0, i, _, _ => rfl
  | 0, m + 1, i, h, _ => by
    unfold skF
    have : skStep s i = none := by unfold skStep; rw [if_neg (by omega)]
    rw [this]
  | n + 1, 0, i, _, h => by
    unfold skF
    have : skStep s i = none := by unfold skStep; rw [if_neg (by omega)]
    rw [this]
  | n + 1, m + 1, i, h1, h2 => by
    unfold skF
    cases e : skStep s i with
    | none => rfl
    | some j =>
      have := skStep_lt e
      exact skF_stable s n m j (by omega) (by omega)
def skE (s : ByteArray) (i : Nat) : Nat := skF s (s.size + 1) i
theorem skE_some {s : ByteArray} {i j : Nat} (h : skStep s i = some j) : skE s i = skE s j := by
  have := skStep_lt h
  show skF s (s.size + 1) i = skF s (s.size + 1) j
  rw [skF, h]
  exact skF_stable s _ _ j (by omega) (by omega)
theorem skE_none {s : ByteArray} {i : Nat} (h : skStep s i = none) : skE s i = i := by
  show skF s (s.size + 1) i = i
  rw [skF, h]
theorem skF_bd {s : ByteArray} : ∀ {n i : Nat}, i ≤ skF s n i ∧ (i ≤ s.size → skF s n i ≤ s.size)
  | 0, i => ⟨Nat.le_refl _, id⟩
  | n + 1, i => by
    unfold skF
    cases e : skStep s i with
    | none => exact ⟨Nat.le_refl _, id⟩
    | some j =>
      have h1 := skStep_lt e
      have h2 := skF_bd (s := s) (n := n) (i := j)
      exact ⟨by simp only; omega, fun _ => h2.2 h1.2⟩
theorem skE_bd {s : ByteArray} {i : Nat} (h : i ≤ s.size) : i ≤ skE s i ∧ skE s i ≤ s.size := ⟨skF_bd.1, skF_bd.2 h⟩
-- tokens
def isTx (c : Int) : Bool := decide (32 ≤ c) && decide (c ≤ 126) && decide (c ≠ 34)
def textF (s : ByteArray) (a : Nat) : ByteArray × Int × Int :=
  let i := spanE isTx s (a + 1)
  if i < s.size ∧ byteAt s i = 34 then (if (i : Int) - a - 1 > 12 then (⟨#[]⟩, a, 4) else (s.extract (a + 1) i, (i : Int) + 1, 0)) else (⟨#[]⟩, a, 11)
def twos : List ByteArray := [(⟨#[124, 124]⟩ : ByteArray), (⟨#[38, 38]⟩ : ByteArray), (⟨#[60, 61]⟩ : ByteArray), (⟨#[61, 61]⟩ : ByteArray), (⟨#[33, 61]⟩ : ByteArray)]
def onesS : ByteArray := (⟨#[40, 41, 123, 125, 91, 93, 44, 59, 61, 60, 43, 45, 42, 47, 37, 33]⟩ : ByteArray)
def isTwo (s t : ByteArray) : Bool := decide (2 ≤ (s.size : Int)) && decide (s.extract 0 2 = t)
def signF (s : ByteArray) : ByteArray := match twos.find? (isTwo s) with
  | some t => t
  | none => match (List.range 16).find? fun k : Nat => decide (byteAt s 0 = byteAt onesS (k : Nat)) with
    | some k => onesS.extract k (k + 1)
    | none => ⟨#[]⟩
def isWd (c : Int) : Bool := isLetter c || isDigit c || decide (c = 95)
theorem ba_empty {b : ByteArray} (h : b.size = 0) : b = ⟨#[]⟩ := by
  obtain ⟨d⟩ := b
  have : d = #[] := Array.size_eq_zero_iff.1 h
  rw [this]
def tok0 : GToken := ⟨0, ⟨#[]⟩, 0⟩
def tokOne (s : ByteArray) (a : Nat) : GToken × Int × Int :=
  if isDigit (byteAt s a) = true then
    (if isNum (s.extract a (spanE isDigit s a)) = true then (⟨1, s.extract a (spanE isDigit s a), a⟩, (spanE isDigit s a : Nat), 0) else (tok0, a, 12))
  else if isLetter (byteAt s a) = true then
    (if isKw (s.extract a (spanE isWd s a)) = true then (⟨4, s.extract a (spanE isWd s a), a⟩, (spanE isWd s a : Nat), 0)
    else if ((s.extract a (spanE isWd s a)).size : Int) > 8 then (tok0, a, 13) else (⟨3, s.extract a (spanE isWd s a), a⟩, (spanE isWd s a : Nat), 0))
  else if byteAt s a = 34 then (⟨2, (textF s a).1, a⟩, (textF s a).2.1, (textF s a).2.2)
  else if signF (s.extract a s.size) = ⟨#[]⟩ then (tok0, a, 10)
  else (⟨5, signF (s.extract a s.size), a⟩, a + (signF (s.extract a s.size)).size, 0)
theorem signF_size (s : ByteArray) : (signF s).size ≤ 2 := by
  unfold signF
  cases h : twos.find? (isTwo s) with
  | some t =>
    have hm := List.mem_of_find?_eq_some h
    have : ∀ t ∈ twos, t.size ≤ 2 := by decide
    exact this t hm
  | none =>
    cases h2 : (List.range 16).find? fun k : Nat => decide (byteAt s 0 = byteAt onesS (k : Nat)) with
    | some k =>
      simp only
      rw [ByteArray.size_extract]
      omega
    | none => decide
theorem two_size {s t : ByteArray} (h : twos.find? (isTwo s) = some t) : t.size = 2 ∧ 2 ≤ s.size := by
  have hm := List.mem_of_find?_eq_some h
  have hp := List.find?_some h
  have : ∀ t ∈ twos, t.size = 2 := by decide
  simp only [isTwo, Bool.and_eq_true, decide_eq_true_eq] at hp
  exact ⟨this t hm, by omega⟩
theorem signF_le {s : ByteArray} (hs : 0 < s.size) : (signF s).size ≤ s.size := by
  unfold signF
  cases h : twos.find? (isTwo s) with
  | some t => have := two_size h; simp only; omega
  | none =>
    cases h2 : (List.range 16).find? fun k : Nat => decide (byteAt s 0 = byteAt onesS (k : Nat)) with
    | some k =>
      simp only
      rw [ByteArray.size_extract]
      omega
    | none => exact Nat.zero_le _
/-- A token that is one lies ahead. -/
theorem tokOne_end {s : ByteArray} {a : Nat} (ha : a < s.size) (h : (tokOne s a).2.2 = 0) : ∃ e : Nat, (tokOne s a).2.1 = e ∧ a < e ∧ e ≤ s.size := by
  unfold tokOne at h ⊢
  split at h <;> rename_i h1
  · rw [if_pos h1] at *
    split at h <;> rename_i h2
    · rw [if_pos h2]; exact ⟨_, rfl, spanE_pos ha h1, (spanE_bd (by omega)).2⟩
    · cases h
  · rw [if_neg h1] at *
    split at h <;> rename_i h2
    · rw [if_pos h2]
      have hw : isWd (byteAt s a) = true := by simp [isWd, h2]
      split at h <;> rename_i h3
      · rw [if_pos h3]; exact ⟨_, rfl, spanE_pos ha hw, (spanE_bd (by omega)).2⟩
      · rw [if_neg h3]
        split at h <;> rename_i h4
        · cases h
        · rw [if_neg h4]; exact ⟨_, rfl, spanE_pos ha hw, (spanE_bd (by omega)).2⟩
    · rw [if_neg h2]
      split at h <;> rename_i h3
      · rw [if_pos h3]
        have hb := spanE_bd (p := isTx) (s := s) (i := a + 1) (by omega)
        simp only [textF] at h ⊢
        split at h <;> rename_i h4
        · rw [if_pos h4]
          split at h <;> rename_i h5
          · cases h
          · rw [if_neg h5]; exact ⟨spanE isTx s (a + 1) + 1, by simp, by omega, by omega⟩
        · cases h
      · rw [if_neg h3]
        split at h <;> rename_i h4
        · cases h
        · rw [if_neg h4]
          have hsz : (s.extract a s.size).size = s.size - a := by rw [ByteArray.size_extract]; omega
          have hle := signF_le (s := s.extract a s.size) (by omega)
          have hpos : 0 < (signF (s.extract a s.size)).size := by
            rcases Nat.eq_zero_or_pos (signF (s.extract a s.size)).size with e | e
            · exact (h4 (ba_empty e)).elim
            · exact e
          exact ⟨a + (signF (s.extract a s.size)).size, by simp, by omega, by omega⟩
/-- The tokens of a text, from a place on, behind those that there are; or where it fails, and how. -/
def lexF (s : ByteArray) : Nat → Nat → List GToken → List GToken × Int × Int
  | 0, _, out => (out, 0, 0)
  | n + 1, i, out => if i < s.size then
      (if (tokOne s i).2.2 = 0 then lexF s n (skE s (tokOne s i).2.1.toNat) (out ++ [(tokOne s i).1]) else ([], ((i : Nat) : Int), (tokOne s i).2.2))
    else (out ++ [⟨0, ⟨#[]⟩, s.size⟩], 0, 0)
theorem lexF_stable (s : ByteArray) : ∀ (n m i : Nat) (out : List GToken), s.size < n + i → s.size < m + i → i ≤ s.size → lexF s n i out = lexF s m i out
  | 0, _, i, _, h, _, h3 => by omega
  | _, 0, i, _, _, h, h3 => by omega
  | n + 1, m + 1, i, out, h1, h2, h3 => by
    unfold lexF
    split
    · rename_i hi
      split
      · rename_i he
        obtain ⟨e, h4, h5, h6⟩ := tokOne_end hi he
        rw [h4, Int.toNat_natCast]
        have := skE_bd (s := s) (i := e) h6
        exact lexF_stable s n m _ _ (by omega) (by omega) this.2
      · rfl
    · rfl
def lexE (s : ByteArray) (i : Nat) (out : List GToken) : List GToken × Int × Int := lexF s (s.size + 1) i out
theorem lexE_step {s : ByteArray} {i : Nat} {out : List GToken} (hi : i < s.size) (he : (tokOne s i).2.2 = 0) : lexE s i out = lexE s (skE s (tokOne s i).2.1.toNat) (out ++ [(tokOne s i).1]) := by
  show lexF s (s.size + 1) i out = lexF s (s.size + 1) _ _
  rw [lexF, if_pos hi, if_pos he]
  obtain ⟨e, h4, h5, h6⟩ := tokOne_end hi he
  rw [h4, Int.toNat_natCast]
  have := skE_bd (s := s) (i := e) h6
  exact lexF_stable s _ _ _ _ (by omega) (by omega) this.2
theorem lexE_fail {s : ByteArray} {i : Nat} {out : List GToken} (hi : i < s.size) (he : (tokOne s i).2.2 ≠ 0) : lexE s i out = ([], ((i : Nat) : Int), (tokOne s i).2.2) := by
  show lexF s (s.size + 1) i out = _
  rw [lexF, if_pos hi, if_neg he]
theorem lexE_end {s : ByteArray} {i : Nat} {out : List GToken} (hi : ¬ i < s.size) : lexE s i out = (out ++ [⟨0, ⟨#[]⟩, s.size⟩], 0, 0) := by
  show lexF s (s.size + 1) i out = _
  rw [lexF, if_neg hi]
def lexAll (s : ByteArray) : List GToken × Int × Int := if (s.size : Int) > 600 then ([], 0, 4) else lexE s (skE s 0) []
end Go.Gd

namespace Go.Proofs.YtbpmikjlfgfbmaaGreatDoor
open Go Go.Gd
abbrev rI (n : Int) : AV := .raw (.int .i64 n)
abbrev rU (n : Int) : AV := .raw (.int .u8 n)
abbrev rS (s : ByteArray) : AV := .raw (.string s)
abbrev rB (b : Bool) : AV := .raw (.bool b)
set_option maxRecDepth 10000 in
theorem digit_c (n : Int) : PCall Tryz.prog 65 [rU n] (rB (isDigit n)) := by
  refine entP Tryz.func65 Tryz.ntmps65 ?_
  (repeat' (first
    | refine awp_seq_k fun K hK => ?_
    | refine wkA ?_
    | (refine hK _ _ ?_; clear hK K)
    | (refine wcond (fun hc => ?_) (fun hc => ?_) <;> first | contradiction | (exfalso; omega) | skip)
    | refine wkB ?_
    | exact True.intro
    | (clear hK K)))
  (refine retf [.tmp 2] ?_ ?_ <;> (try simp only [go_sem]))
  rfl
set_option maxRecDepth 10000 in
theorem letter_c (n : Int) : PCall Tryz.prog 67 [rU n] (rB (isLetter n)) := by
  refine entP Tryz.func67 Tryz.ntmps67 ?_
  (repeat' (first
    | refine awp_seq_k fun K hK => ?_
    | refine wkA ?_
    | (refine hK _ _ ?_; clear hK K)
    | (refine wcond (fun hc => ?_) (fun hc => ?_) <;> first | contradiction | (exfalso; omega) | skip)
    | refine wkB ?_
    | exact True.intro
    | (clear hK K)))
  (refine retf [.tmp 2] ?_ ?_ <;> (try simp only [go_sem]))
  rfl
set_option maxRecDepth 10000 in
theorem number_c (s : ByteArray) : PCall Tryz.prog 66 [rS s] (rB (isNum s)) := by
  refine entP Tryz.func66 Tryz.ntmps66 ?_
  (repeat' (first
    | refine awp_seq_k fun K hK => ?_
    | refine wkA ?_
    | (refine hK _ _ ?_; clear hK K)
    | (refine wcond (fun hc => ?_) (fun hc => ?_) <;> first | contradiction | (exfalso; omega) | skip)
    | refine wkB ?_
    | exact True.intro
    | (clear hK K)))
  (refine retf [.tmp 2] ?_ ?_ <;> (try simp only [go_sem]))
  rfl
set_option maxRecDepth 10000 in
theorem line_c (s : ByteArray) (at_ : Int) (hs : s.size ≤ 1000000) : PCall Tryz.prog 71 [rS s, rI at_] (rI (lineAt s (min s.size at_.toNat))) := by
  refine entP Tryz.func71 Tryz.ntmps71 ?_
  (repeat' (first
    | refine awp_seq_k fun K hK => ?_
    | refine wkA ?_
    | (refine hK _ _ ?_; clear hK K)
    | (refine wcond (fun hc => ?_) (fun hc => ?_) <;> first | contradiction | (exfalso; omega) | skip)
    | refine wkB ?_
    | exact True.intro
    | (clear hK K)))
  have hKo := hK; clear hK
  refine awp_loop_inv (S := Nat) [(5, 19)] (fun k => k ≤ s.size ∧ k ≤ at_.toNat) (fun k => [(5, rI (lineAt s k)), (6, rI k)]) (fun _ => ⟨[], []⟩) (fun k => s.size - k) 0 (by omega) (fle_at rfl (by simp only [go_sem, LLe, Nat.reduceAdd, AV.raw.injEq, Value.int.injEq, Value.slice.injEq, Value.pointer.injEq, AV.rs.injEq, lineAt]; try omega)) ?_
  rintro k ⟨hk1, hk2⟩ Kr hKr
  have hb := lineAt_bd s k
  (refine S ?_; try exact True.intro)
  (repeat' (first
    | refine awp_seq_k fun K hK => ?_
    | refine wkA ?_
    | (refine hK _ _ ?_; clear hK K)
    | (refine wcond (fun hc => ?_) (fun hc => ?_) <;> first | contradiction | (exfalso; omega) | skip)
    | (refine hKo _ _ ?_)
    | refine wkB ?_
    | exact True.intro
    | (clear hK K)))
  · refine hKr _ _ (next_mk (k + 1) (by omega) (by (try simp only); omega) rfl (by simp only [lineAt, if_pos hc]; exact lle))
  · refine hKr _ _ (next_mk (k + 1) (by omega) (by (try simp only); omega) rfl (by simp only [lineAt, if_neg hc]; exact lle))
  · (refine retf [.tmp 4] ?_ ?_ <;> (try simp only [go_sem]))
    rw [show min s.size at_.toNat = k by omega]
theorem kw_no {s : ByteArray} (h : ∀ j, j < kwords.length → nth kwords j ≠ s) : isKw s = false := by
  unfold isKw
  rw [List.any_eq_false]
  intro x hm
  obtain ⟨j, hj, rfl⟩ := List.getElem_of_mem hm
  have := h j hj
  rw [nth_get hj] at this
  simp [this]
theorem kw_yes {s : ByteArray} {k : Nat} (hk : k < kwords.length) (h : nth kwords k = s) : isKw s = true := by
  unfold isKw
  rw [List.any_eq_true]
  exact ⟨kwords[k], List.getElem_mem hk, by rw [nth_get hk] at h; simp [h]⟩
set_option maxRecDepth 10000 in
theorem word_c (s : ByteArray) : PCall Tryz.prog 68 [rS s] (rB (isKw s)) := by
  refine entP Tryz.func68 Tryz.ntmps68 ?_
  (repeat' (first
    | refine awp_seq_k fun K hK => ?_
    | refine wkA ?_
    | (refine hK _ _ ?_; clear hK K)
    | (refine wcond (fun hc => ?_) (fun hc => ?_) <;> first | contradiction | (exfalso; omega) | skip)
    | refine wkB ?_
    | exact True.intro
    | (clear hK K)))
  have hKo := hK; clear hK
  refine awp_loop_inv (S := Nat) [(2, 1), (4, 1), (6, 12)] (fun k => k ≤ 16 ∧ ∀ j, j < k → nth kwords j ≠ s) (fun k => [(3, .sl true 1 (kwords.map eS) []), (4, rI k)]) (fun _ => ⟨[], []⟩) (fun k => 16 - k) 0 ⟨by omega, fun j h => by omega⟩ (fle_at rfl (by (repeat' (first | exact True.intro | exact Or.inr rfl | exact Or.inl rfl | refine And.intro ?_ ?_)))) ?_
  rintro k ⟨hk1, hk2⟩ Kr hKr
  have hl := kwords_len
  (refine S ?_; try exact True.intro)
  (repeat' (first
    | refine awp_seq_k fun K hK => ?_
    | refine wkA ?_
    | (refine hK _ _ ?_; clear hK K)
    | (refine wcond (fun hc => ?_) (fun hc => ?_) <;> first | contradiction | (exfalso; omega) | skip)
    | (refine hKo _ _ ?_)
    | refine wkB ?_
    | exact True.intro
    | (clear hK K)))
  · (refine retf [.tmp 2] ?_ ?_ <;> (try simp only [go_sem]))
    rw [kw_yes (by omega) hc]
  · refine hKr _ _ (next_mk (k + 1) ⟨by omega, fun j hj => ?_⟩ (by (try simp only); omega) rfl lle)
    by_cases e : j = k
    · subst e; exact hc
    · exact hk2 j (by omega)
  · (refine retf [.tmp 2] ?_ ?_ <;> (try simp only [go_sem]))
    rw [kw_no fun j hj => hk2 j (by omega)]
set_option maxRecDepth 10000 in
theorem skip_c (s : ByteArray) (i : Nat) (hs : s.size ≤ 1000000) (hi : i ≤ s.size) : PCall Tryz.prog 50 [rS s, rI i] (rI (skE s i : Nat)) := by
  refine entP Tryz.func50 Tryz.ntmps50 ?_
  (repeat' (first
    | refine awp_seq_k fun K hK => ?_
    | refine wkA ?_
    | (refine hK _ _ ?_; clear hK K)
    | (refine wcond (fun hc => ?_) (fun hc => ?_) <;> first | contradiction | (exfalso; omega) | skip)
    | refine wkB ?_
    | exact True.intro
    | (clear hK K)))
  have hKo := hK; clear hK
  refine awp_loop_inv (S := Nat) [(1, 1), (4, 54)] (fun k => k ≤ s.size ∧ skE s k = skE s i) (fun k => [(1, rI k)]) (fun _ => ⟨[], []⟩) (fun k => s.size - k) i ⟨hi, rfl⟩ (fle_at rfl lle) ?_
  rintro k ⟨hk1, hk2⟩ Kr hKr
  (refine S ?_; try exact True.intro)
  (repeat' (first
    | refine awp_seq_k fun K hK => ?_
    | refine wkA ?_
    | (refine hK _ _ ?_; clear hK K)
    | (refine wcond (fun hc => ?_) (fun hc => ?_) <;> first | contradiction | (exfalso; omega) | skip)
    | (refine hKo _ _ ?_)
    | refine wkB ?_
    | exact True.intro
    | (clear hK K)))
  · have hst : skStep s k = some (k + 1) := by
      unfold skStep
      rw [if_pos (by omega), if_pos]
      simp [isSp]; omega
    refine hKr _ _ (next_mk (k + 1) ⟨by omega, by rw [← hk2, skE_some hst]⟩ (by (try simp only); omega) rfl lle)
  · have hst : skStep s k = some (spanE noNl s k) := by
      unfold skStep
      rw [if_pos (by omega), if_neg (by simp [isSp]; omega), if_pos]
      simp [isCom]; exact ⟨⟨hc.1.1, by omega⟩, hc.2⟩
    have hlt := skStep_lt hst
    have hKi := hK; clear hK
    refine awp_loop_inv (S := Nat) [(1, 1), (45, 12)] (fun m => k ≤ m ∧ m ≤ s.size ∧ ∀ j, k ≤ j → j < m → noNl (byteAt s j) = true) (fun m => [(1, rI m)]) (fun _ => ⟨[], []⟩) (fun m => s.size - m) k ⟨by omega, by omega, fun j h1 h2 => by omega⟩ (fle_at rfl lle) ?_
    rintro m ⟨hm1, hm2, hm3⟩ Kj hKj
    (refine S ?_; try exact True.intro)
    (repeat' (first
    | refine awp_seq_k fun K hK => ?_
    | refine wkA ?_
    | (refine hK _ _ ?_; clear hK K)
    | (refine wcond (fun hc => ?_) (fun hc => ?_) <;> first | contradiction | (exfalso; omega) | skip)
    | (refine hKi _ _ ?_)
    | refine wkB ?_
    | exact True.intro
    | (clear hK K)))
    · refine hKj _ _ (next_mk (m + 1) ⟨by omega, by omega, fun j h1 h2 => ?_⟩ (by (try simp only); omega) rfl lle)
      by_cases e : j = m
      · subst e; simp only [noNl, decide_eq_true_eq]; exact hc.2
      · exact hm3 j h1 (by omega)
    · have e : spanE noNl s k = m := spanE_is (by simp only [noNl, decide_eq_true_eq]; omega) hm1 hm2 hm3
      rw [e] at hst hlt
      refine hKr _ _ (next_mk m ⟨by omega, by rw [← hk2, skE_some hst]⟩ (by (try simp only); omega) rfl lle)
  · (refine retf [.tmp 4] ?_ ?_ <;> (try simp only [go_sem]))
    rw [← hk2, skE_none]
    unfold skStep
    rw [if_pos (by omega), if_neg (by simp [isSp]; omega), if_neg]
    simp [isCom]; omega
  · (refine retf [.tmp 4] ?_ ?_ <;> (try simp only [go_sem]))
    rw [← hk2, skE_none]
    unfold skStep
    rw [if_neg (by omega)]
set_option maxRecDepth 10000 in
theorem text_c (s : ByteArray) (a : Nat) (hs : s.size ≤ 1000000) (ha : a < s.size) : PCall Tryz.prog 69 [rS s, rI a] (.tup [rS (textF s a).1, rI (textF s a).2.1, rI (textF s a).2.2]) := by
  refine entP Tryz.func69 Tryz.ntmps69 ?_
  (repeat' (first
    | refine awp_seq_k fun K hK => ?_
    | refine wkA ?_
    | (refine hK _ _ ?_; clear hK K)
    | (refine wcond (fun hc => ?_) (fun hc => ?_) <;> first | contradiction | (exfalso; omega) | skip)
    | refine wkB ?_
    | exact True.intro
    | (clear hK K)))
  have hKo := hK; clear hK
  refine awp_loop_inv (S := Nat) [(7, 1), (10, 24)] (fun m => a + 1 ≤ m ∧ m ≤ s.size ∧ ∀ j, a + 1 ≤ j → j < m → isTx (byteAt s j) = true) (fun m => [(7, rI m)]) (fun _ => ⟨[], []⟩) (fun m => s.size - m) (a + 1) ⟨by omega, by omega, fun j h1 h2 => by omega⟩ (fle_at rfl lle) ?_
  rintro m ⟨hm1, hm2, hm3⟩ Kr hKr
  (refine S ?_; try exact True.intro)
  (repeat' (first
    | refine awp_seq_k fun K hK => ?_
    | refine wkA ?_
    | (refine hK _ _ ?_; clear hK K)
    | (refine wcond (fun hc => ?_) (fun hc => ?_) <;> first | contradiction | (exfalso; omega) | skip)
    | (refine hKo _ _ ?_)
    | refine wkB ?_
    | exact True.intro
    | (clear hK K)))
  · refine hKr _ _ (next_mk (m + 1) ⟨by omega, by omega, fun j h1 h2 => ?_⟩ (by (try simp only); omega) rfl lle)
    by_cases e : j = m
    · subst e; simp only [isTx, Bool.and_eq_true, decide_eq_true_eq]; exact ⟨⟨hc.1.1.2, hc.1.2⟩, hc.2⟩
    · exact hm3 j h1 (by omega)
  all_goals have e : spanE isTx s (a + 1) = m := spanE_is (by simp only [isTx, Bool.and_eq_true, decide_eq_true_eq]; omega) hm1 hm2 hm3
  · (refine retf [.tmp 4, .tmp 5, .tmp 6] ?_ ?_ <;> (try simp only [go_sem]))
    simp only [textF, e]
    rw [if_neg (by omega)]
  · (refine retf [.tmp 4, .tmp 5, .tmp 6] ?_ ?_ <;> (try simp only [go_sem]))
    simp only [textF, e]
    rw [if_pos (by omega), if_pos (by omega)]
  · (refine retf [.tmp 4, .tmp 5, .tmp 6] ?_ ?_ <;> (try simp only [go_sem]))
    simp only [textF, e]
    rw [if_pos (by omega), if_neg (by omega)]
theorem twos_len : twos.length = 5 := rfl
set_option maxRecDepth 10000 in
theorem sign_c (s : ByteArray) (hs : 0 < s.size) (hs2 : s.size ≤ 1000000) : PCall Tryz.prog 70 [rS s] (rS (signF s)) := by
  refine entP Tryz.func70 Tryz.ntmps70 ?_
  (repeat' (first
    | refine awp_seq_k fun K hK => ?_
    | refine wkA ?_
    | refine dE 5 [0, 1, 2, 3, 4, 5, 6, 7, 8, 9, 10, 11] mixed ?_
    | refine dE 11 [0, 1, 2, 3, 4, 5] mixed ?_
    | (refine hK _ _ ?_; clear hK K)
    | (refine wcond (fun hc => ?_) (fun hc => ?_) <;> first | contradiction | (exfalso; omega) | skip)
    | refine wkB ?_
    | exact True.intro
    | (clear hK K)))
  have hKo := hK; clear hK
  refine awp_loop_inv (S := Nat) [(2, 1), (4, 1), (8, 22)] (fun k => k ≤ 5 ∧ ∀ j, j < k → isTwo s (nth twos j) = false) (fun k => [(3, .sl true 1 (twos.map eS) []), (4, rI k)]) (fun _ => ⟨[], []⟩) (fun k => 5 - k) 0 ⟨by omega, fun j h => by omega⟩ (fle_at rfl (by (repeat' (first | exact True.intro | exact Or.inr rfl | exact Or.inl rfl | refine And.intro ?_ ?_)))) ?_
  rintro k ⟨hk1, hk2⟩ Kr hKr
  have hl := twos_len
  (refine S ?_; try exact True.intro)
  (repeat' (first
    | refine awp_seq_k fun K hK => ?_
    | refine wkA ?_
    | refine dE 5 [0, 1, 2, 3, 4, 5, 6, 7, 8, 9, 10, 11] mixed ?_
    | refine dE 11 [0, 1, 2, 3, 4, 5] mixed ?_
    | (refine hK _ _ ?_; clear hK K)
    | (refine wcond (fun hc => ?_) (fun hc => ?_) <;> first | contradiction | (exfalso; omega) | skip)
    | (refine hKo _ _ ?_)
    | refine wkB ?_
    | exact True.intro
    | (clear hK K)))
  · (refine retf [.tmp 2] ?_ ?_ <;> (try simp only [go_sem]))
    have : twos.find? (isTwo s) = some (nth twos k) := find_first hk2 (by omega) (by simp only [isTwo, Bool.and_eq_true, decide_eq_true_eq]; exact hc)
    simp only [signF, this]
  · refine hKr _ _ (next_mk (k + 1) ⟨by omega, fun j hj => ?_⟩ (by (try simp only); omega) rfl lle)
    by_cases e : j = k
    · subst e; simp only [isTwo, Bool.and_eq_false_iff, decide_eq_false_iff_not, Int.not_le]; exact hc
    · exact hk2 j (by omega)
  · have h2 : twos.find? (isTwo s) = none := find_none fun j hj => hk2 j (by omega)
    have hKo := hK; clear hK
    have hos : onesS.size = 16 := rfl
    refine awp_loop_inv (S := Nat) [(2, 1), (6, 1), (30, 17)] (fun k => k ≤ 16 ∧ ∀ j, j < k → decide (byteAt s 0 = byteAt onesS (nth (List.range 16) j : Nat)) = false) (fun k => [(5, rS onesS), (6, rI k)]) (fun _ => ⟨[], []⟩) (fun k => 16 - k) 0 ⟨by omega, fun j h => by omega⟩ (fle_at rfl (by (repeat' (first | exact True.intro | exact Or.inr rfl | exact Or.inl rfl | refine And.intro ?_ ?_)))) ?_
    rintro m ⟨hm1, hm2⟩ Kj hKj
    (refine S ?_; try exact True.intro)
    (repeat' (first
    | refine awp_seq_k fun K hK => ?_
    | refine wkA ?_
    | refine dE 5 [0, 1, 2, 3, 4, 5, 6, 7, 8, 9, 10, 11] mixed ?_
    | refine dE 11 [0, 1, 2, 3, 4, 5] mixed ?_
    | (refine hK _ _ ?_; clear hK K)
    | (refine wcond (fun hc => ?_) (fun hc => ?_) <;> first | contradiction | (exfalso; omega) | skip)
    | (refine hKo _ _ ?_)
    | refine wkB ?_
    | exact True.intro
    | (clear hK K)))
    · (refine retf [.tmp 2] ?_ ?_ <;> (try simp only [go_sem]))
      have h3 : (List.range 16).find? (fun k : Nat => decide (byteAt s 0 = byteAt onesS (k : Nat))) = some (nth (List.range 16) m) := find_first hm2 (by simp; omega) (by rw [nth_range (by omega)]; simpa using hc)
      simp only [signF, h2, h3]
      rw [nth_range (by omega)]
    · refine hKj _ _ (next_mk (m + 1) ⟨by omega, fun j hj => ?_⟩ (by (try simp only); omega) rfl lle)
      by_cases e : j = m
      · subst e; rw [nth_range (by omega)]; simpa using hc
      · exact hm2 j (by omega)
    · (refine retf [.tmp 2] ?_ ?_ <;> (try simp only [go_sem]))
      have h3 : (List.range 16).find? (fun k : Nat => decide (byteAt s 0 = byteAt onesS (k : Nat))) = none := find_none fun j hj => hm2 j (by simp at hj; omega)
      simp only [signF, h2, h3]
end Go.Proofs.YtbpmikjlfgfbmaaGreatDoor

namespace Go.Proofs.YtbpmikjlfgfbmaaGreatDoor
open Go Go.Gd
def tokV (t : GToken × Int × Int) : AV := .tup [.agg (eGToken t.1), rI t.2.1, rI t.2.2]
set_option maxHeartbeats 2000000 in
set_option maxRecDepth 10000 in
theorem one_c (s : ByteArray) (a : Nat) (hs : s.size ≤ 1000000) (ha : a < s.size) : PCall Tryz.prog 51 [rS s, rI a] (tokV (tokOne s a)) := by
  have hex : (s.extract a s.size).size = s.size - a := by rw [ByteArray.size_extract]; omega
  have hsz := signF_size (s.extract a s.size)
  refine entP Tryz.func51 Tryz.ntmps51 ?_
  (repeat' (first
    | refine awp_seq_k fun K hK => ?_
    | refine wkA ?_
    | (refine hK _ _ ?_; clear hK K)
    | (refine wcond (fun hc => ?_) (fun hc => ?_) <;> first | contradiction | (exfalso; omega) | skip)
    | refine cp (digit_c _) ?_
    | refine cp (letter_c _) ?_
    | refine cp (text_c s a hs ha) ?_
    | refine cp (sign_c _ (by omega) (by omega)) ?_
    | refine wkB ?_
    | exact True.intro
    | (clear hK K)))
  · have hKo := hK; clear hK
    refine awp_loop_inv (S := Nat) [(8, 1), (20, 12)] (fun m => a ≤ m ∧ m ≤ s.size ∧ ∀ j, a ≤ j → j < m → isDigit (byteAt s j) = true) (fun m => [(8, rI m)]) (fun _ => ⟨[], [(0, .var 91 (eGToken tok0))]⟩) (fun m => s.size - m) a ⟨by omega, by omega, fun j h1 h2 => by omega⟩ (fle_at rfl lle) ?_
    rintro m ⟨hm1, hm2, hm3⟩ Kr hKr
    (refine S ?_; try exact True.intro)
    (repeat' (first
    | refine awp_seq_k fun K hK => ?_
    | refine wkA ?_
    | (refine hK _ _ ?_; clear hK K)
    | (refine wcond (fun hc => ?_) (fun hc => ?_) <;> first | contradiction | (exfalso; omega) | skip)
    | (first | refine cg (digit_c _) ?_ | refine cg' (digit_c _) ?_)
    | (refine hKo _ _ ?_)
    | refine wkB ?_
    | exact True.intro
    | (clear hK K)))
    · refine hKr _ _ (next_mk (m + 1) ⟨by omega, by omega, fun j h1 h2 => ?_⟩ (by (try simp only); omega) rfl lle)
      by_cases e : j = m
      · subst e; exact hc.2
      · exact hm3 j h1 (by omega)
    · have hd : isDigit (byteAt s a) = true := by assumption
      have e : spanE isDigit s a = m := spanE_is (by rintro ⟨h1, h2⟩; rcases hc with h | h; omega; rw [h2] at h; cases h) hm1 hm2 hm3
      (repeat' (first
    | refine awp_seq_k fun K hK => ?_
    | refine wkA ?_
    | (refine hK _ _ ?_; clear hK K)
    | (refine wcond (fun hc => ?_) (fun hc => ?_) <;> first | contradiction | (exfalso; omega) | skip)
    | refine cp (number_c _) ?_
    | refine wkB ?_
    | exact True.intro
    | (clear hK K)))
      · (refine retd [.cell 4 91, .tmp 5, .tmp 6] ?_; try simp only [go_sem])
        simp only [tokOne, hd, if_true, e, if_neg, hc, Bool.false_eq_true, if_false, tokV, tok0]
        rfl
      · (refine retd [.cell 4 91, .tmp 5, .tmp 6] ?_; try simp only [go_sem])
        simp only [tokOne, hd, if_true, e, hc, tokV]
        rfl
  · have hKo := hK; clear hK
    have hnd : isDigit (byteAt s a) = false := by assumption
    have hle : isLetter (byteAt s a) = true := by assumption
    refine awp_loop_inv (S := Nat) [(8, 1), (49, 24)] (fun m => a ≤ m ∧ m ≤ s.size ∧ ∀ j, a ≤ j → j < m → isWd (byteAt s j) = true) (fun m => [(8, rI m)]) (fun _ => ⟨[], [(0, .var 91 (eGToken tok0))]⟩) (fun m => s.size - m) a ⟨by omega, by omega, fun j h1 h2 => by omega⟩ (fle_at rfl lle) ?_
    rintro m ⟨hm1, hm2, hm3⟩ Kr hKr
    have hexm : (s.extract a m).size = m - a := by rw [ByteArray.size_extract]; omega
    (refine S ?_; try exact True.intro)
    (repeat' (first
    | refine awp_seq_k fun K hK => ?_
    | refine wkA ?_
    | (refine hK _ _ ?_; clear hK K)
    | (refine wcond (fun hc => ?_) (fun hc => ?_) <;> first | contradiction | (exfalso; omega) | skip)
    | (first | refine cg (digit_c _) ?_ | refine cg' (digit_c _) ?_)
    | (first | refine cg (letter_c _) ?_ | refine cg' (letter_c _) ?_)
    | refine cp (word_c _) ?_
    | (refine hKo _ _ ?_)
    | refine wkB ?_
    | exact True.intro
    | (clear hK K)))
    · refine hKr _ _ (next_mk (m + 1) ⟨by omega, by omega, fun j h1 h2 => ?_⟩ (by (try simp only); omega) rfl lle)
      by_cases e : j = m
      · subst e; simp only [isWd, Bool.or_eq_true, decide_eq_true_eq]; exact hc.2
      · exact hm3 j h1 (by omega)
    all_goals
      have hcc : (s.size : Int) ≤ m ∨ (isLetter (byteAt s m) = false ∧ isDigit (byteAt s m) = false) ∧ ¬byteAt s m = 95 := by assumption
      have e : spanE isWd s a = m := spanE_is (by
        simp only [isWd, Bool.or_eq_true, decide_eq_true_eq]
        rintro ⟨h1, h2⟩
        rcases hcc with h | ⟨⟨h3, h4⟩, h5⟩
        · omega
        · rcases h2 with (h | h) | h
          · rw [h] at h3; exact Bool.noConfusion h3
          · rw [h] at h4; exact Bool.noConfusion h4
          · exact h5 h) hm1 hm2 hm3
    · (refine retd [.cell 4 91, .tmp 5, .tmp 6] ?_; try simp only [go_sem])
      simp only [tokOne, hnd, hle, e, hc, Bool.false_eq_true, if_false, if_true, tokV]
      rfl
    · (refine retd [.cell 4 91, .tmp 5, .tmp 6] ?_; try simp only [go_sem])
      simp only [tokOne, hnd, hle, e, *, Bool.false_eq_true, if_false, if_true, tokV]
      rw [if_pos (by omega)]
      rfl
    · (refine retd [.cell 4 91, .tmp 5, .tmp 6] ?_; try simp only [go_sem])
      simp only [tokOne, hnd, hle, e, *, Bool.false_eq_true, if_false, if_true, tokV]
      rw [if_neg (by omega)]
      rfl
  · (refine retd [.cell 4 91, .tmp 5, .tmp 6] ?_; try simp only [go_sem])
    simp only [tokOne, *, Bool.false_eq_true, if_false, if_true, tokV]
    rfl
  · (refine retd [.cell 4 91, .tmp 5, .tmp 6] ?_; try simp only [go_sem])
    simp only [tokOne, *, Bool.false_eq_true, if_false, if_true, tokV]
    rfl
  · (refine retd [.cell 4 91, .tmp 5, .tmp 6] ?_; try simp only [go_sem])
    simp only [tokOne, *, Bool.false_eq_true, if_false, tokV]
    rfl
end Go.Proofs.YtbpmikjlfgfbmaaGreatDoor

namespace Go.Proofs.YtbpmikjlfgfbmaaGreatDoor
open Go Go.Gd
attribute [go_sem] tokV
set_option maxHeartbeats 2000000 in
set_option maxRecDepth 10000 in
theorem lex_c (s : ByteArray) (hs : s.size ≤ 1000000) : PCall Tryz.prog 34 [rS s] (.tup [slOf eGToken 3 (lexAll s).1, rI (lexAll s).2.1, rI (lexAll s).2.2]) := by
  refine entP Tryz.func34 Tryz.ntmps34 ?_
  (repeat' (first
    | refine awp_seq_k fun K hK => ?_
    | refine wkA ?_
    | (refine hK _ _ ?_; clear hK K)
    | (refine wcond (fun hc => ?_) (fun hc => ?_) <;> first | contradiction | (exfalso; omega) | skip)
    | refine cp (skip_c s 0 hs (Nat.zero_le _)) ?_
    | refine wkB ?_
    | exact True.intro
    | (clear hK K)))
  · refine retv [.tmp 2, .tmp 3, .tmp 4] ?_
    simp only [lexAll, if_pos hc]
    refine VToL.tup ?_
    exact vtl
  · have hKo := hK; clear hK
    have h0 := skE_bd (s := s) (i := 0) (Nat.zero_le _)
    refine awp_loop_inv (S := Nat × List GToken) [(2, 8), (16, 22)] (fun p => p.1 ≤ s.size ∧ p.2.length ≤ p.1 ∧ lexE s p.1 p.2 = lexAll s) (fun p => [(5, .rs 0 p.2.length 3 p.2.length), (6, rI p.1)]) (fun p => ⟨[], [(0, .vec 91 3 (p.2.map eGToken))]⟩) (fun p => s.size - p.1) (skE s 0, []) ⟨h0.2, Nat.zero_le _, by simp only [lexAll]; rw [if_neg (by omega)]⟩ (fle_at rfl lle) ?_
    rintro ⟨k, ts⟩ ⟨hk1, hk2, hk3⟩ Kr hKr
    simp only at hk1 hk2 hk3
    (refine S ?_; try exact True.intro)
    by_cases hk : k < s.size
    · have hend := tokOne_end (s := s) (a := k) hk
      (repeat' (first
    | refine awp_seq_k fun K hK => ?_
    | refine wkA ?_
    | (refine hK _ _ ?_; clear hK K)
    | (refine wcond (fun hc => ?_) (fun hc => ?_) <;> first | contradiction | (exfalso; omega) | skip)
    | refine cp (one_c s k hs hk) ?_
    | (refine hKo _ _ ?_)
    | refine wkB ?_
    | exact True.intro
    | (clear hK K)))
      · refine retv [.tmp 2, .tmp 3, .tmp 4] ?_
        rw [← hk3, lexE_fail hk (by assumption)]
        refine VToL.tup ?_
        exact vtl
      · obtain ⟨e, he1, he2, he3⟩ := hend hc
        have h4 := skE_bd he3
        rw [he1]
        (repeat' (first
    | refine awp_seq_k fun K hK => ?_
    | refine wkA ?_
    | (refine hK _ _ ?_; clear hK K)
    | (refine wcond (fun hc => ?_) (fun hc => ?_) <;> first | contradiction | (exfalso; omega) | skip)
    | refine cp (skip_c s e hs he3) ?_
    | refine wkB ?_
    | exact True.intro
    | (clear hK K)))
        refine hKr _ _ (next_drop [1] (skE s e, ts ++ [(tokOne s k).1]) ⟨h4.2, by simp; omega, by rw [← hk3, lexE_step hk hc, he1]; simp⟩ (by (try simp only); omega) rfl Sd Sd vtl)
    · (repeat' (first
    | refine awp_seq_k fun K hK => ?_
    | refine wkA ?_
    | (refine hK _ _ ?_; clear hK K)
    | (refine wcond (fun hc => ?_) (fun hc => ?_) <;> first | contradiction | (exfalso; omega) | skip)
    | (refine hKo _ _ ?_)
    | refine wkB ?_
    | exact True.intro
    | (clear hK K)))
      refine retv [.tmp 2, .tmp 3, .tmp 4] ?_
      rw [← hk3, lexE_end hk]
      simp only [go_sem]
      refine VToL.tup ?_
      refine And.intro ?_ (And.intro (.same _ rfl) (And.intro (.same _ rfl) trivial))
      refine VTo.row (enc := eGToken) (e := 91) (ts ++ [⟨0, ⟨#[]⟩, s.size⟩]) ?_ ?_ ?_
      · rfl
      · (refine S ?_; try exact True.intro)
        rfl
      · (refine S ?_; try exact True.intro)
end Go.Proofs.YtbpmikjlfgfbmaaGreatDoor
