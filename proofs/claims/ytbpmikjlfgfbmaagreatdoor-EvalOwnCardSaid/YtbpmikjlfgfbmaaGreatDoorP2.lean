/- The plain law of the document's parser: what it makes of tokens. The document's parser: its small methods. The document's parser: expressions. No conditions. -/
import Derived.Test.YtbpmikjlfgfbmaaGreatDoorL3
set_option linter.all false
namespace Go.Gd
open Go
/-- Tokens, how far they are read, nodes, how deep, and the first error. -/
structure Rd where
  src : ByteArray
  l : List GToken
  i : Int
  nodes : List GNode
  deep : Int
  e : Int
  at_ : Int
  deriving Inhabited
namespace Rd
def tok (r : Rd) : GToken := nth r.l r.i.toNat
def fails (r : Rd) (e : Int) : Rd := if r.e = 0 then { r with e := e, at_ := r.tok.at_ } else r
def is (r : Rd) (t : ByteArray) : Bool := decide (r.e = 0) && (decide (r.tok.kind = 5) || decide (r.tok.kind = 4)) && decide (r.tok.text = t)
def kind (r : Rd) (k : Int) : Bool := decide (r.e = 0) && decide (r.tok.kind = k)
def inc (r : Rd) : Rd := { r with i := r.i + 1 }
def must (r : Rd) (t : ByteArray) : Rd := if r.is t = true then r.inc else r.fails 20
def name (r : Rd) : Rd × ByteArray := if r.kind 3 = true then (r.inc, r.tok.text) else (r.fails 20, ⟨#[]⟩)
def line (r : Rd) : Int := lineAt r.src (min r.src.size r.tok.at_.toNat)
def node (r : Rd) (n : GNode) : Rd := { r with nodes := r.nodes ++ [n] }
def put (r : Rd) (k ln n : Int) (nm : ByteArray) (L : List Int) : Rd × Int := (r.node ⟨k, ln, n, nm, L⟩, r.nodes.length)
def down (r : Rd) : Rd := { (if 16 ≤ r.deep then r.fails 21 else r) with deep := r.deep + 1 }
def up (r : Rd) : Rd := { r with deep := r.deep - 1 }
end Rd
def signsL (level : Int) : List ByteArray :=
  if level = 0 then [(⟨#[124, 124]⟩ : ByteArray)] else if level = 1 then [(⟨#[38, 38]⟩ : ByteArray)] else if level = 2 then [(⟨#[60]⟩ : ByteArray), (⟨#[60, 61]⟩ : ByteArray), (⟨#[61, 61]⟩ : ByteArray), (⟨#[33, 61]⟩ : ByteArray)] else if level = 3 then [(⟨#[43]⟩ : ByteArray), (⟨#[45]⟩ : ByteArray)] else [(⟨#[42]⟩ : ByteArray), (⟨#[47]⟩ : ByteArray), (⟨#[37]⟩ : ByteArray)]
namespace Rd
section
variable (r : Rd) (e : Int)
@[go_sem] theorem fails_src : (r.fails e).src = r.src := by unfold fails; split <;> rfl
@[go_sem] theorem fails_l : (r.fails e).l = r.l := by unfold fails; split <;> rfl
@[go_sem] theorem fails_i : (r.fails e).i = r.i := by unfold fails; split <;> rfl
@[go_sem] theorem fails_nodes : (r.fails e).nodes = r.nodes := by unfold fails; split <;> rfl
@[go_sem] theorem fails_deep : (r.fails e).deep = r.deep := by unfold fails; split <;> rfl
end
section
variable (r : Rd)
@[go_sem] theorem inc_src : r.inc.src = r.src := (rfl)
@[go_sem] theorem inc_l : r.inc.l = r.l := (rfl)
@[go_sem] theorem inc_i : r.inc.i = r.i + 1 := (rfl)
@[go_sem] theorem inc_nodes : r.inc.nodes = r.nodes := (rfl)
@[go_sem] theorem inc_deep : r.inc.deep = r.deep := (rfl)
@[go_sem] theorem inc_e : r.inc.e = r.e := (rfl)
@[go_sem] theorem inc_at : r.inc.at_ = r.at_ := (rfl)
@[go_sem] theorem up_src : r.up.src = r.src := (rfl)
@[go_sem] theorem up_l : r.up.l = r.l := (rfl)
@[go_sem] theorem up_i : r.up.i = r.i := (rfl)
@[go_sem] theorem up_nodes : r.up.nodes = r.nodes := (rfl)
@[go_sem] theorem up_deep : r.up.deep = r.deep - 1 := (rfl)
@[go_sem] theorem up_e : r.up.e = r.e := (rfl)
@[go_sem] theorem up_at : r.up.at_ = r.at_ := (rfl)
end
def next (r : Rd) (level : Int) : ByteArray := match (signsL level).find? (fun s => r.is s) with
  | some s => s
  | none => ⟨#[]⟩
def nextTok (r : Rd) : GToken := nth r.l (r.i + 1).toNat
def calls (r : Rd) : Bool := r.kind 3 && decide (r.nextTok.kind = 5) && decide (r.nextTok.text = (⟨#[40]⟩ : ByteArray))
def word (r : Rd) : ByteArray := if r.kind 4 = true then r.tok.text else ⟨#[]⟩
end Rd
/-- The number that digits say. -/
def numF (s : ByteArray) : Nat → Int
  | 0 => 0
  | k + 1 => numF s k * 10 + (byteAt s k - 48)
def numOf (s : ByteArray) : Int := numF s s.size
mutual
/-- P2.2's atom. -/
def atomF : Nat → Rd → Rd × Int
  | 0, r => (r, 0)
  | n + 1, r =>
    if r.e ≠ 0 then (r, 0)
    else if r.tok.kind = 1 then r.inc.put 1 r.line (numOf r.tok.text) ⟨#[]⟩ []
    else if r.tok.kind = 2 then r.inc.put 3 r.line 0 r.tok.text []
    else if r.tok.kind = 3 then
      (if r.inc.is (⟨#[91]⟩ : ByteArray) = true then
        (((chainF n 0 (r.inc.down.must (⟨#[91]⟩ : ByteArray))).1.must (⟨#[93]⟩ : ByteArray)).up).put 5 r.line 0 r.tok.text [(chainF n 0 (r.inc.down.must (⟨#[91]⟩ : ByteArray))).2]
      else r.inc.put 4 r.line 0 r.tok.text [])
    else if r.is (⟨#[116, 114, 117, 101]⟩ : ByteArray) = true then r.inc.put 2 r.line 1 ⟨#[]⟩ []
    else if r.is (⟨#[102, 97, 108, 115, 101]⟩ : ByteArray) = true then r.inc.put 2 r.line 0 ⟨#[]⟩ []
    else if r.is (⟨#[108, 101, 110]⟩ : ByteArray) = true then
      (if r.inc.is (⟨#[40]⟩ : ByteArray) = true then
        (((chainF n 0 (r.inc.down.must (⟨#[40]⟩ : ByteArray))).1.must (⟨#[41]⟩ : ByteArray)).up).put 6 r.line 0 ⟨#[]⟩ [(chainF n 0 (r.inc.down.must (⟨#[40]⟩ : ByteArray))).2]
      else (r.inc.fails 20, 0))
    else if r.is (⟨#[40]⟩ : ByteArray) = true then
      (((chainF n 0 (r.down.must (⟨#[40]⟩ : ByteArray))).1.must (⟨#[41]⟩ : ByteArray)).up, (chainF n 0 (r.down.must (⟨#[40]⟩ : ByteArray))).2)
    else (r.fails 20, 0)
/-- P2.2's factor. -/
def factorF : Nat → Rd → Rd × Int
  | 0, r => (r, 0)
  | n + 1, r =>
    if r.is (⟨#[45]⟩ : ByteArray) = true then ((factorF n r.down.inc).1.up).put 7 r.line 0 ⟨#[]⟩ [(factorF n r.down.inc).2]
    else if r.is (⟨#[33]⟩ : ByteArray) = true then ((factorF n r.down.inc).1.up).put 8 r.line 0 ⟨#[]⟩ [(factorF n r.down.inc).2]
    else atomF n r
/-- P2.2's and, cmp, sum and term. -/
def chainF : Nat → Nat → Rd → Rd × Int
  | 0, _, r => (r, 0)
  | n + 1, lv, r => if lv = 5 then factorF n r else loopF n lv r.line (chainF n (lv + 1) r)
def loopF : Nat → Nat → Int → Rd × Int → Rd × Int
  | 0, _, _, p => p
  | n + 1, lv, ln, p =>
    if p.1.next lv = ⟨#[]⟩ then p
    else if lv = 2 then ((chainF n (lv + 1) p.1.inc).1).put 9 ln 0 (p.1.next lv) [p.2, (chainF n (lv + 1) p.1.inc).2]
    else loopF n lv ln (((chainF n (lv + 1) p.1.inc).1).put 9 ln 0 (p.1.next lv) [p.2, (chainF n (lv + 1) p.1.inc).2])
end
-- what is kept
def Rd.rem (r : Rd) : Nat := if r.e = 0 then (r.l.length - r.i).toNat else 0
def Rd.pot (r : Rd) : Int := r.nodes.length + 3 * (r.l.length - r.i) + if r.e = 0 then 1 else 0
/-- A text that is a number. -/
def NumTok (s : ByteArray) : Prop := 0 < s.size ∧ isNum s = true ∧ ∀ j, j < s.size → isDigit (byteAt s j) = true
structure Rd.Inv (r : Rd) : Prop where
  src : r.src.size ≤ 1000
  pos : 0 ≤ r.i
  lt : r.i < r.l.length
  len : r.l.length ≤ 2000
  num : ∀ k, k < r.l.length → (nth r.l k).kind = 1 → NumTok (nth r.l k).text
  tk : ∀ k, k < r.l.length → (nth r.l k).kind ≠ 0 → k + 1 < r.l.length
  dlo : 0 ≤ r.deep
  dhi : r.deep ≤ 17
  dok : r.e = 0 → r.deep ≤ 16
  pot : r.pot ≤ 8000
/-- From one state to a later one. -/
structure Rd.St (r r' : Rd) : Prop where
  src : r'.src = r.src
  l : r'.l = r.l
  deep : r'.deep = r.deep
  i : r.i ≤ r'.i
  lt : r'.i < r.l.length
  pot : r'.pot ≤ r.pot
  err : r.e ≠ 0 → r'.e ≠ 0
theorem Rd.St.inv {r r' : Rd} (s : Rd.St r r') (h : r.Inv) : r'.Inv := by
  obtain ⟨s1, s2, s3, s4, s5, s6, s7⟩ := s
  obtain ⟨h1, h2, h3, h4, hn, h5, h6, h7, h8, h9⟩ := h
  exact ⟨by rw [s1]; exact h1, by omega, by rw [s2]; exact s5, by rw [s2]; exact h4, by rw [s2]; exact hn, by rw [s2]; exact h5, by omega, by omega, fun h => by
    rw [s3]; exact h8 (Classical.byContradiction fun e => s7 e h), by omega⟩
theorem Rd.St.refl {r : Rd} (h : r.Inv) : Rd.St r r := ⟨rfl, rfl, rfl, Int.le_refl _, h.lt, Int.le_refl _, id⟩
theorem Rd.St.trans {a b c : Rd} (h : Rd.St a b) (k : Rd.St b c) : Rd.St a c :=
  ⟨k.src.trans h.src, k.l.trans h.l, k.deep.trans h.deep, Int.le_trans h.i k.i, by have := k.lt; rw [h.l] at this; exact this, Int.le_trans k.pot h.pot, fun e => k.err (h.err e)⟩
theorem Rd.St.rem {r r' : Rd} (s : Rd.St r r') : r'.rem ≤ r.rem := by
  unfold Rd.rem
  have h1 := s.i
  have h2 := s.l
  by_cases e : r.e = 0
  · rw [if_pos e, h2]
    split <;> omega
  · rw [if_neg e, if_neg (s.err e)]; exact Nat.le_refl _
theorem Rd.behind {r : Rd} (h : r.Inv) (hk : r.tok.kind ≠ 0) : r.i + 1 < r.l.length := by
  have := h.tk r.i.toNat (by have := h.lt; have := h.pos; omega) hk
  have := h.pos
  omega
theorem Rd.is_kind {r : Rd} {t : ByteArray} (h : r.is t = true) : r.e = 0 ∧ r.tok.kind ≠ 0 := by
  simp only [Rd.is, Bool.and_eq_true, Bool.or_eq_true, decide_eq_true_eq] at h
  exact ⟨h.1.1, by rcases h.1.2 with h | h <;> omega⟩
theorem Rd.kind_kind {r : Rd} {k : Int} (h : r.kind k = true) (h0 : k ≠ 0) : r.e = 0 ∧ r.tok.kind ≠ 0 := by
  simp only [Rd.kind, Bool.and_eq_true, decide_eq_true_eq] at h
  exact ⟨h.1, by omega⟩
theorem Rd.st_fails {r : Rd} (h : r.Inv) (e : Int) (he : e ≠ 0) : Rd.St r (r.fails e) := by
  refine ⟨fails_src _ _, fails_l _ _, fails_deep _ _, by rw [fails_i]; exact Int.le_refl _, by rw [fails_i]; exact h.lt, ?_, fun h1 => by unfold fails; rw [if_neg h1]; exact h1⟩
  unfold Rd.pot
  rw [fails_nodes, fails_l, fails_i]
  by_cases e0 : r.e = 0
  · have : (r.fails e).e = e := by unfold fails; rw [if_pos e0]
    rw [this, if_pos e0, if_neg he]; omega
  · have : (r.fails e).e = r.e := by unfold fails; rw [if_neg e0]
    rw [this]; omega
/-- One token is read: there is room for a node more. -/
theorem Rd.st_inc {r : Rd} (h : r.Inv) (hk : r.tok.kind ≠ 0) : Rd.St r r.inc ∧ r.inc.pot = r.pot - 3 := by
  have := Rd.behind h hk
  have e : r.inc.pot = r.pot - 3 := by simp only [Rd.pot, Rd.inc]; omega
  exact ⟨⟨rfl, rfl, rfl, by simp only [Rd.inc]; omega, by simp only [Rd.inc]; omega, by omega, id⟩, e⟩
theorem Rd.st_must {r : Rd} (h : r.Inv) (t : ByteArray) : Rd.St r (r.must t) := by
  unfold Rd.must
  split
  · rename_i hs; exact (Rd.st_inc h (Rd.is_kind hs).2).1
  · exact Rd.st_fails h 20 (by decide)
theorem Rd.st_name {r : Rd} (h : r.Inv) : Rd.St r r.name.1 := by
  unfold Rd.name
  split
  · rename_i hs; exact (Rd.st_inc h (Rd.kind_kind hs (by decide)).2).1
  · exact Rd.st_fails h 20 (by decide)
theorem Rd.pot_node (r : Rd) (n : GNode) : (r.node n).pot = r.pot + 1 := by simp only [Rd.pot, Rd.node, List.length_append, List.length_cons, List.length_nil]; omega
theorem Rd.st_put {r r' : Rd} (s : Rd.St r r') (hp : r'.pot + 1 ≤ r.pot) (k ln n : Int) (nm : ByteArray) (L : List Int) : Rd.St r (r'.put k ln n nm L).1 :=
  ⟨s.src, s.l, s.deep, s.i, s.lt, by show (r'.node _).pot ≤ _; rw [Rd.pot_node]; exact hp, s.err⟩
theorem Rd.down_e {r : Rd} : r.down.e = (if 16 ≤ r.deep then r.fails 21 else r).e := rfl
theorem Rd.down_inv {r : Rd} (h : r.Inv) (he : r.e = 0) : r.down.Inv ∧ r.down.pot ≤ r.pot ∧ r.down.i = r.i ∧ r.down.l = r.l ∧ r.down.src = r.src ∧ r.down.deep = r.deep + 1 := by
  have hd := h.dok he
  have hi : r.down.i = r.i := by unfold Rd.down; split <;> simp [fails_i]
  have hl : r.down.l = r.l := by unfold Rd.down; split <;> simp [fails_l]
  have hs : r.down.src = r.src := by unfold Rd.down; split <;> simp [fails_src]
  have hn : r.down.nodes = r.nodes := by unfold Rd.down; split <;> simp [fails_nodes]
  have hdd : r.down.deep = r.deep + 1 := rfl
  have hee : r.down.e = 0 → r.deep < 16 := fun e => by
    rw [Rd.down_e] at e
    split at e
    · unfold fails at e; rw [if_pos he] at e; cases e
    · omega
  have hp : r.down.pot ≤ r.pot := by
    unfold Rd.pot
    rw [hn, hl, hi, if_pos he]
    split <;> omega
  refine ⟨⟨by rw [hs]; exact h.src, by rw [hi]; exact h.pos, by rw [hi, hl]; exact h.lt, by rw [hl]; exact h.len, by rw [hl]; exact h.num, by rw [hl]; exact h.tk, by have := h.dlo; omega, by omega, fun e => by have := hee e; omega, by have := h.pot; omega⟩, hp, hi, hl, hs, hdd⟩
/-- Deeper, and back. -/
theorem Rd.st_deep {r r' : Rd} (h : r.Inv) (he : r.e = 0) (s : Rd.St r.down r') : Rd.St r r'.up := by
  obtain ⟨_, h1, h2, h3, h4, h5⟩ := Rd.down_inv h he
  exact ⟨s.src.trans h4, s.l.trans h3, by show r'.deep - 1 = _; rw [s.deep, h5]; omega, by show r.i ≤ r'.i; rw [← h2]; exact s.i, by show r'.i < _; rw [← h3]; exact s.lt, by show r'.pot ≤ _; have := s.pot; omega, fun e => (e he).elim⟩
theorem Rd.next_is {r : Rd} {lv : Int} (h : r.next lv ≠ ⟨#[]⟩) : r.is (r.next lv) = true := by
  unfold Rd.next at h ⊢
  cases e : (signsL lv).find? (fun s => r.is s) with
  | none => rw [e] at h; exact (h rfl).elim
  | some s => exact List.find?_some e
theorem Rd.rem_inc {r : Rd} (h : r.Inv) (hk : r.e = 0 ∧ r.tok.kind ≠ 0) : r.inc.rem + 1 ≤ r.rem := by
  have := Rd.behind h hk.2
  unfold Rd.rem
  rw [if_pos hk.1, if_pos (show r.inc.e = 0 from hk.1)]
  have : r.inc.i = r.i + 1 := rfl
  have : r.inc.l = r.l := rfl
  simp only [*]
  omega
/-- What expressions leave. -/
theorem expr_st : ∀ n, (∀ r : Rd, r.Inv → Rd.St r (atomF n r).1) ∧ (∀ r : Rd, r.Inv → Rd.St r (factorF n r).1) ∧ (∀ lv (r : Rd), r.Inv → Rd.St r (chainF n lv r).1) ∧ (∀ lv ln (p : Rd × Int), p.1.Inv → Rd.St p.1 (loopF n lv ln p).1)
  | 0 => ⟨fun r h => by unfold atomF; exact .refl h, fun r h => by unfold factorF; exact .refl h, fun lv r h => by unfold chainF; exact .refl h, fun lv ln p h => by unfold loopF; exact .refl h⟩
  | n + 1 => by
    obtain ⟨ia, if_, ic, il⟩ := expr_st n
    -- a token, and what is behind it, deeper
    have deeper : ∀ (r : Rd) (t u : ByteArray), r.Inv → r.e = 0 → Rd.St r ((chainF n 0 (r.down.must t)).1.must u).up := fun r t u h he => by
      have h1 := (Rd.down_inv h he).1
      have s1 := Rd.st_must h1 t
      have s2 := ic 0 _ (s1.inv h1)
      have s12 := s1.trans s2
      have s3 := Rd.st_must (s12.inv h1) u
      exact Rd.st_deep h he (s12.trans s3)
    refine ⟨fun r h => ?_, fun r h => ?_, fun lv r h => ?_, fun lv ln p h => ?_⟩
    · unfold atomF
      split
      · exact .refl h
      rename_i he
      have he : r.e = 0 := by omega
      split
      · rename_i hk
        obtain ⟨s1, e1⟩ := Rd.st_inc h (by omega)
        exact Rd.st_put s1 (by omega) _ _ _ _ _
      split
      · rename_i hk
        obtain ⟨s1, e1⟩ := Rd.st_inc h (by omega)
        exact Rd.st_put s1 (by omega) _ _ _ _ _
      split
      · rename_i hk
        obtain ⟨s1, e1⟩ := Rd.st_inc h (by omega)
        split
        · have s2 := deeper r.inc (⟨#[91]⟩ : ByteArray) (⟨#[93]⟩ : ByteArray) (s1.inv h) he
          exact Rd.st_put (s1.trans s2) (by have := s2.pot; omega) _ _ _ _ _
        · exact Rd.st_put s1 (by omega) _ _ _ _ _
      split
      · rename_i hs
        obtain ⟨s1, e1⟩ := Rd.st_inc h (Rd.is_kind hs).2
        exact Rd.st_put s1 (by omega) _ _ _ _ _
      split
      · rename_i hs
        obtain ⟨s1, e1⟩ := Rd.st_inc h (Rd.is_kind hs).2
        exact Rd.st_put s1 (by omega) _ _ _ _ _
      split
      · rename_i hs
        obtain ⟨s1, e1⟩ := Rd.st_inc h (Rd.is_kind hs).2
        split
        · have s2 := deeper r.inc (⟨#[40]⟩ : ByteArray) (⟨#[41]⟩ : ByteArray) (s1.inv h) he
          exact Rd.st_put (s1.trans s2) (by have := s2.pot; omega) _ _ _ _ _
        · exact s1.trans (Rd.st_fails (s1.inv h) 20 (by decide))
      split
      · exact deeper r (⟨#[40]⟩ : ByteArray) (⟨#[41]⟩ : ByteArray) h he
      · exact Rd.st_fails h 20 (by decide)
    · unfold factorF
      have sg : ∀ t, r.is t = true → ∀ k ln nm, Rd.St r (((factorF n r.down.inc).1.up).put k ln 0 nm [(factorF n r.down.inc).2]).1 := fun t ht k ln nm => by
        obtain ⟨he, hk⟩ := Rd.is_kind ht
        obtain ⟨h1, h2, h3, h4, _⟩ := Rd.down_inv h he
        have htk : r.down.tok = r.tok := by unfold Rd.tok; rw [h3, h4]
        obtain ⟨s1, e1⟩ := Rd.st_inc h1 (by rw [htk]; exact hk)
        have s2 := if_ _ (s1.inv h1)
        exact Rd.st_put (Rd.st_deep h he (s1.trans s2)) (by have := s2.pot; show (factorF n r.down.inc).1.pot + 1 ≤ _; omega) _ _ _ _ _
      split
      · rename_i ht; exact sg _ ht _ _ _
      split
      · rename_i ht; exact sg _ ht _ _ _
      · exact ia r h
    · unfold chainF
      split
      · exact if_ r h
      · have s1 := ic (lv + 1) r h
        exact s1.trans (il _ _ _ (s1.inv h))
    · unfold loopF
      split
      · exact .refl h
      rename_i hn
      obtain ⟨s1, e1⟩ := Rd.st_inc h (Rd.is_kind (Rd.next_is hn)).2
      have s2 := ic (lv + 1) _ (s1.inv h)
      have s3 := fun L => Rd.st_put (s1.trans s2) (by have := s2.pot; omega) 9 ln 0 (p.1.next lv) L
      split
      · exact s3 _
      · exact (s3 _).trans (il _ _ _ ((s3 _).inv h))
end Go.Gd

namespace Go.Proofs.YtbpmikjlfgfbmaaGreatDoor
open Go Go.Gd
def rdCells (r : Rd) : List AV := [rS r.src, slOf eGToken 3 r.l, rI r.i, .rs 1 r.nodes.length 5 r.nodes.length, rI r.deep, rI r.e, rI r.at_]
def encR (r : Rd) : List (Nat × Row) := [(0, .var 74 (rdCells r)), (1, .vec 42 5 (r.nodes.map eGNode))]
attribute [go_sem] encR rdCells
abbrev pR : AV := .pt 0 0 0 0
theorem ids_encR (r : Rd) : ids (encR r) = [0, 1] := rfl
structure ROk (r : Rd) : Prop where
  src : r.src.size ≤ 1000
  pos : 0 ≤ r.i
  lt : r.i < r.l.length
  len : r.l.length ≤ 2000
  dlo : -1000 ≤ r.deep
  dhi : r.deep ≤ 1000
  nodes : r.nodes.length ≤ 100000
theorem rok {r : Rd} (h : r.Inv) : ROk r := by
  have hp := h.pot
  unfold Rd.pot at hp
  have := h.lt
  have := h.dlo
  have := h.dhi
  exact ⟨h.src, h.pos, h.lt, h.len, by omega, by omega, by split at hp <;> omega⟩
set_option maxHeartbeats 1000000 in
set_option maxRecDepth 10000 in
theorem fails_c (r : Rd) (e : Int) (h : ROk r) : ACalls Tryz.prog 72 [pR, rI e] (encR r) (fun v l => v = .tup [] ∧ l = encR (r.fails e)) := by
  obtain ⟨h1, h2, h3, h4, h5, h6, h7⟩ := h
  refine entM Tryz.func72 Tryz.ntmps72 ?_
  simp only [encR, rdCells]
  (repeat' (first
    | refine awp_seq_k fun K hK => ?_
    | refine wkA ?_
    | refine dE 2 [0, 1, 2, 3, 4, 5, 6, 7, 8, 9, 10, 11, 12, 13, 14] mixed ?_
    | (refine hK _ _ ?_; clear hK K)
    | (refine wcond (fun hc => ?_) (fun hc => ?_) <;> first | contradiction | (exfalso; omega) | skip)
    | refine wkB ?_
    | exact True.intro
    | (clear hK K)))
  · (refine retf [] ?_ ?_ <;> (try simp only [go_sem]))
    simp only [Rd.fails, if_pos hc]; rfl
  · (refine retf [] ?_ ?_ <;> (try simp only [go_sem]))
    simp only [Rd.fails, if_neg hc]
set_option maxHeartbeats 1000000 in
set_option maxRecDepth 10000 in
theorem is_c (r : Rd) (t : ByteArray) (h : ROk r) : ACalls Tryz.prog 55 [pR, rS t] (encR r) (fun v l => v = rB (r.is t) ∧ l = encR r) := by
  obtain ⟨h1, h2, h3, h4, h5, h6, h7⟩ := h
  refine entM Tryz.func55 Tryz.ntmps55 ?_
  simp only [encR, rdCells]
  (repeat' (first
    | refine awp_seq_k fun K hK => ?_
    | refine wkA ?_
    | refine dE 1 [0, 1, 2, 3, 4, 5, 6, 7, 8, 9, 10, 11] mixed ?_
    | (refine hK _ _ ?_; clear hK K)
    | (refine wcond (fun hc => ?_) (fun hc => ?_) <;> first | contradiction | (exfalso; omega) | skip)
    | refine wkB ?_
    | exact True.intro
    | (clear hK K)))
  (refine retd [.tmp 4] ?_; try simp only [go_sem])
  rfl
set_option maxHeartbeats 1000000 in
set_option maxRecDepth 10000 in
theorem kind_c (r : Rd) (k : Int) (h : ROk r) : ACalls Tryz.prog 35 [pR, rI k] (encR r) (fun v l => v = rB (r.kind k) ∧ l = encR r) := by
  obtain ⟨h1, h2, h3, h4, h5, h6, h7⟩ := h
  refine entM Tryz.func35 Tryz.ntmps35 ?_
  simp only [encR, rdCells]
  (repeat' (first
    | refine awp_seq_k fun K hK => ?_
    | refine wkA ?_
    | refine dE 1 [0, 1, 2, 3, 4, 5, 6, 7, 8, 9, 10, 11, 12, 13, 14, 15, 16, 17, 18, 19, 20] mixed ?_
    | (refine hK _ _ ?_; clear hK K)
    | (refine wcond (fun hc => ?_) (fun hc => ?_) <;> first | contradiction | (exfalso; omega) | skip)
    | refine wkB ?_
    | exact True.intro
    | (clear hK K)))
  (refine retd [.tmp 4] ?_; try simp only [go_sem])
  rfl
set_option maxHeartbeats 1000000 in
set_option maxRecDepth 10000 in
theorem must_c (r : Rd) (t : ByteArray) (h : ROk r) : ACalls Tryz.prog 53 [pR, rS t] (encR r) (fun v l => v = .tup [] ∧ l = encR (r.must t)) := by
  have his := is_c r t h
  have hf := fails_c r 20 h
  obtain ⟨h1, h2, h3, h4, h5, h6, h7⟩ := h
  simp only [encR, rdCells] at his hf
  refine entM Tryz.func53 Tryz.ntmps53 ?_
  simp only [encR, rdCells]
  (repeat' (first
    | refine awp_seq_k fun K hK => ?_
    | refine wkA ?_
    | (refine hK _ _ ?_; clear hK K)
    | (refine wcond (fun hc => ?_) (fun hc => ?_) <;> first | contradiction | (exfalso; omega) | skip)
    | refine cm (his) ?_
    | refine cm (hf) ?_
    | refine wkB ?_
    | exact True.intro
    | (clear hK K)))
  · (refine retf [] ?_ ?_ <;> (try simp only [go_sem]))
    simp only [Rd.must, hc, Bool.false_eq_true, if_false, go_sem]
  · (refine retf [] ?_ ?_ <;> (try simp only [go_sem]))
    simp only [Rd.must, hc, if_true]; rfl
set_option maxHeartbeats 1000000 in
set_option maxRecDepth 10000 in
theorem name_c (r : Rd) (h : ROk r) : ACalls Tryz.prog 54 [pR] (encR r) (fun v l => v = rS r.name.2 ∧ l = encR r.name.1) := by
  have his := kind_c r 3 h
  have hf := fails_c r 20 h
  obtain ⟨h1, h2, h3, h4, h5, h6, h7⟩ := h
  simp only [encR, rdCells] at his hf
  refine entM Tryz.func54 Tryz.ntmps54 ?_
  simp only [encR, rdCells]
  (repeat' (first
    | refine awp_seq_k fun K hK => ?_
    | refine wkA ?_
    | refine dE 6 [0, 1, 2, 3, 4, 5, 6, 7, 8, 9, 10, 11, 12] mixed ?_
    | (refine hK _ _ ?_; clear hK K)
    | (refine wcond (fun hc => ?_) (fun hc => ?_) <;> first | contradiction | (exfalso; omega) | skip)
    | refine cm (his) ?_
    | refine cm (hf) ?_
    | refine wkB ?_
    | exact True.intro
    | (clear hK K)))
  · (refine retf [.tmp 2] ?_ ?_ <;> (try simp only [go_sem]))
    · simp only [Rd.name, hc, Bool.false_eq_true, if_false]
    · simp only [Rd.name, hc, Bool.false_eq_true, if_false, go_sem]
  · (refine retf [.tmp 2] ?_ ?_ <;> (try simp only [go_sem]))
    · simp only [Rd.name, hc, if_true]
      rw [show r.i + 1 - 1 = r.i by omega]; rfl
    · simp only [Rd.name, hc, if_true]; rfl
set_option maxHeartbeats 1000000 in
set_option maxRecDepth 10000 in
theorem rline_c (r : Rd) (h : ROk r) : ACalls Tryz.prog 52 [pR] (encR r) (fun v l => v = rI r.line ∧ l = encR r) := by
  obtain ⟨h1, h2, h3, h4, h5, h6, h7⟩ := h
  refine entM Tryz.func52 Tryz.ntmps52 ?_
  simp only [encR, rdCells]
  (repeat' (first
    | refine awp_seq_k fun K hK => ?_
    | refine wkA ?_
    | refine dE 1 [0, 1, 2, 3, 4, 5, 6, 7, 8, 9, 10, 11, 12, 13, 14, 15, 16] mixed ?_
    | (refine hK _ _ ?_; clear hK K)
    | (refine wcond (fun hc => ?_) (fun hc => ?_) <;> first | contradiction | (exfalso; omega) | skip)
    | refine cp (line_c _ _ (by omega)) ?_
    | refine wkB ?_
    | exact True.intro
    | (clear hK K)))
  (refine retf [.tmp 2] ?_ ?_ <;> (try simp only [go_sem]))
  rfl
set_option maxHeartbeats 1000000 in
set_option maxRecDepth 10000 in
theorem put_c (r : Rd) (k ln n : Int) (nm : ByteArray) (L : List Int) (h : ROk r) : ACalls Tryz.prog 77 [pR, rI k, rI ln, rI n, rS nm, slOf eI 1 L] (encR r) (fun v l => v = rI (r.put k ln n nm L).2 ∧ l = encR (r.put k ln n nm L).1) := by
  obtain ⟨h1, h2, h3, h4, h5, h6, h7⟩ := h
  refine entM Tryz.func77 Tryz.ntmps77 ?_
  simp only [encR, rdCells]
  (repeat' (first
    | refine awp_seq_k fun K hK => ?_
    | refine wkA ?_
    | (refine hK _ _ ?_; clear hK K)
    | (refine wcond (fun hc => ?_) (fun hc => ?_) <;> first | contradiction | (exfalso; omega) | skip)
    | refine wkB ?_
    | exact True.intro
    | (clear hK K)))
  (refine retf [.tmp 12] ?_ ?_ <;> (try simp only [go_sem]))
  · simp only [Rd.put]; exact rawInt_eq (by omega)
  · simp only [Rd.put, Rd.node, List.map_append, List.length_append, List.length_cons, List.length_nil]; rfl
set_option maxHeartbeats 1000000 in
set_option maxRecDepth 10000 in
theorem down_c (r : Rd) (h : ROk r) : ACalls Tryz.prog 75 [pR] (encR r) (fun v l => v = .tup [] ∧ l = encR r.down) := by
  have hf := fails_c r 21 h
  obtain ⟨h1, h2, h3, h4, h5, h6, h7⟩ := h
  simp only [encR, rdCells] at hf
  refine entM Tryz.func75 Tryz.ntmps75 ?_
  simp only [encR, rdCells]
  (repeat' (first
    | refine awp_seq_k fun K hK => ?_
    | refine wkA ?_
    | (refine hK _ _ ?_; clear hK K)
    | (refine wcond (fun hc => ?_) (fun hc => ?_) <;> first | contradiction | (exfalso; omega) | skip)
    | refine cm (hf) ?_
    | refine wkB ?_
    | exact True.intro
    | (clear hK K)))
  · (refine retf [] ?_ ?_ <;> (try simp only [go_sem]))
    simp only [Rd.down, if_pos hc, go_sem]
  · (refine retf [] ?_ ?_ <;> (try simp only [go_sem]))
    simp only [Rd.down]; rw [if_neg (by omega)]
set_option maxHeartbeats 1000000 in
set_option maxRecDepth 10000 in
theorem rword_c (r : Rd) (h : ROk r) : ACalls Tryz.prog 73 [pR] (encR r) (fun v l => v = rS r.word ∧ l = encR r) := by
  have his := kind_c r 4 h
  obtain ⟨h1, h2, h3, h4, h5, h6, h7⟩ := h
  simp only [encR, rdCells] at his
  refine entM Tryz.func73 Tryz.ntmps73 ?_
  simp only [encR, rdCells]
  (repeat' (first
    | refine awp_seq_k fun K hK => ?_
    | refine wkA ?_
    | refine dE 3 [0, 1, 2, 3, 4, 5, 6, 7, 8, 9, 10, 11] mixed ?_
    | (refine hK _ _ ?_; clear hK K)
    | (refine wcond (fun hc => ?_) (fun hc => ?_) <;> first | contradiction | (exfalso; omega) | skip)
    | refine cm (his) ?_
    | refine wkB ?_
    | exact True.intro
    | (clear hK K)))
  · (refine retf [.tmp 2] ?_ ?_ <;> (try simp only [go_sem]))
    simp only [Rd.word, hc, if_true]; rfl
  · (refine retf [.tmp 2] ?_ ?_ <;> (try simp only [go_sem]))
    simp only [Rd.word, hc, Bool.false_eq_true, if_false]
set_option maxHeartbeats 1000000 in
set_option maxRecDepth 10000 in
theorem rcalls_c (r : Rd) (h : ROk r) (hn : r.kind 3 = true → r.i + 1 < r.l.length) : ACalls Tryz.prog 91 [pR] (encR r) (fun v l => v = rB r.calls ∧ l = encR r) := by
  have his := kind_c r 3 h
  obtain ⟨h1, h2, h3, h4, h5, h6, h7⟩ := h
  simp only [encR, rdCells] at his
  refine entM Tryz.func91 Tryz.ntmps91 ?_
  simp only [encR, rdCells]
  (repeat' (first
    | refine awp_seq_k fun K hK => ?_
    | refine wkA ?_
    | refine dE 2 [0, 1, 2, 3, 4, 5, 6, 7, 8, 9, 10, 11, 12, 13, 14, 15, 16, 17, 18, 19, 20, 21, 22, 23, 24, 25, 26, 27, 28, 29, 30, 31] mixed ?_
    | (refine hK _ _ ?_; clear hK K)
    | (refine wcond (fun hc => ?_) (fun hc => ?_) <;> first | contradiction | (exfalso; omega) | skip)
    | refine cm (his) ?_
    | refine wkB ?_
    | exact True.intro
    | (clear hK K)))
  refine ⟨fun h => ⟨h, by omega, hn h⟩, fun h => ⟨h, by omega, hn (by simp only [Bool.and_eq_true] at h; exact h.1)⟩, ?_⟩
  (repeat' (first
    | refine awp_seq_k fun K hK => ?_
    | refine wkA ?_
    | refine dE 2 [0, 1, 2, 3, 4, 5, 6, 7, 8, 9, 10, 11, 12, 13, 14, 15, 16, 17, 18, 19, 20, 21, 22, 23, 24, 25, 26, 27, 28, 29, 30, 31] mixed ?_
    | (refine hK _ _ ?_; clear hK K)
    | (refine wcond (fun hc => ?_) (fun hc => ?_) <;> first | contradiction | (exfalso; omega) | skip)
    | refine wkB ?_
    | exact True.intro
    | (clear hK K)))
  (refine retd [.tmp 2] ?_; try simp only [go_sem])
  rfl
set_option maxHeartbeats 1000000 in
set_option maxRecDepth 10000 in
theorem signs_c (lv : Int) : PCall Tryz.prog 100 [rI lv] (slOf eS 1 (signsL lv)) := by
  refine entP Tryz.func100 Tryz.ntmps100 ?_
  (repeat' (first
    | refine awp_seq_k fun K hK => ?_
    | refine wkA ?_
    | (refine hK _ _ ?_; clear hK K)
    | (refine wcond (fun hc => ?_) (fun hc => ?_) <;> first | contradiction | (exfalso; omega) | skip)
    | refine wkB ?_
    | exact True.intro
    | (clear hK K)))
  all_goals refine retv [.tmp 2] ?_
  all_goals simp only [signsL, *, if_true, if_false, Int.reduceEq, if_pos, if_neg, not_false_eq_true]
  all_goals exact .lit _ _ _ _ _
theorem signsL_len (lv : Int) : (signsL lv).length ≤ 4 ∧ ∀ s ∈ signsL lv, s ≠ ⟨#[]⟩ := by
  unfold signsL
  split
  · decide
  · split
    · decide
    · split
      · decide
      · split <;> decide
set_option maxHeartbeats 1000000 in
set_option maxRecDepth 10000 in
theorem next_c (r : Rd) (lv : Int) (h : ROk r) : ACalls Tryz.prog 96 [pR, rI lv] (encR r) (fun v l => v = rS (r.next lv) ∧ l = encR r) := by
  have his := fun t => is_c r t h
  have hl := signsL_len lv
  obtain ⟨h1, h2, h3, h4, h5, h6, h7⟩ := h
  simp only [encR, rdCells] at his
  refine entM Tryz.func96 Tryz.ntmps96 ?_
  simp only [encR, rdCells]
  (repeat' (first
    | refine awp_seq_k fun K hK => ?_
    | refine wkA ?_
    | (refine hK _ _ ?_; clear hK K)
    | (refine wcond (fun hc => ?_) (fun hc => ?_) <;> first | contradiction | (exfalso; omega) | skip)
    | refine cp (signs_c lv) ?_
    | refine wkB ?_
    | exact True.intro
    | (clear hK K)))
  have hKo := hK; clear hK
  refine awp_loop_inv (S := Nat) [(4, 1), (6, 2), (10, 17)] (fun k => k ≤ (signsL lv).length ∧ ∀ j, j < k → r.is (nth (signsL lv) j) = false) (fun k => [(6, rI k)]) (fun _ => ⟨[0, 1], encR r⟩) (fun k => (signsL lv).length - k) 0 ⟨by omega, fun j h => by omega⟩ (fle_at rfl lle) ?_
  rintro k ⟨hk1, hk2⟩ Kr hKr
  simp only [encR, rdCells]
  (refine S ?_; try exact True.intro)
  (repeat' (first
    | refine awp_seq_k fun K hK => ?_
    | refine wkA ?_
    | (refine hK _ _ ?_; clear hK K)
    | (refine wcond (fun hc => ?_) (fun hc => ?_) <;> first | contradiction | (exfalso; omega) | skip)
    | refine cm (his _) ?_
    | (refine hKo _ _ ?_)
    | refine wkB ?_
    | exact True.intro
    | (clear hK K)))
  · (refine retf [.tmp 4] ?_ ?_ <;> (try simp only [go_sem]))
    have : (signsL lv).find? (fun s => r.is s) = some (nth (signsL lv) k) := find_first hk2 (by omega) hc
    simp only [Rd.next, this]
  · refine hKr _ _ (next_mk (k + 1) ⟨by omega, fun j hj => ?_⟩ (by (try simp only); omega) rfl lle)
    by_cases e : j = k
    · subst e; exact hc
    · exact hk2 j (by omega)
  · (refine retf [.tmp 4] ?_ ?_ <;> (try simp only [go_sem]))
    have : (signsL lv).find? (fun s => r.is s) = none := find_none fun j hj => hk2 j (by omega)
    simp only [Rd.next, this]
theorem acalls_weak {P : Program} {f : FuncId} {args args' : List AV} {l : List (Nat × Row)} {R : AV → List (Nat × Row) → Prop} (hl : VLes args args') (h : ACalls P f args' l R) : ACalls P f args l R := fun w vs h1 h2 => by
  obtain ⟨hlen, hg⟩ := hl.get
  refine h w vs h1 ⟨hlen.symm.trans h2.1, fun i a v ha hv => ?_⟩
  have hi : i < args.length := by rw [hlen]; exact (List.getElem?_eq_some_iff.1 ha).1
  exact hg i args[i] a (List.getElem?_eq_getElem hi) ha w v (h2.2 i _ v (List.getElem?_eq_getElem hi) hv)
theorem put_w (r : Rd) (k ln n : Int) (nm : ByteArray) (L : List Int) (a : AV) (ha : VLe a (slOf eI 1 L)) (h : ROk r) : ACalls Tryz.prog 77 [pR, rI k, rI ln, rI n, rS nm, a] (encR r) (fun v l => v = rI (r.put k ln n nm L).2 ∧ l = encR (r.put k ln n nm L).1) :=
  acalls_weak (args' := [pR, rI k, rI ln, rI n, rS nm, slOf eI 1 L]) ⟨VLe.refl _, VLe.refl _, VLe.refl _, VLe.refl _, VLe.refl _, ha, trivial⟩ (put_c r k ln n nm L h)
end Go.Proofs.YtbpmikjlfgfbmaaGreatDoor

namespace Go.Proofs.YtbpmikjlfgfbmaaGreatDoor
open Go Go.Gd
/-- Contracts of what reads expressions, with so much fuel. -/
def AtomC (n : Nat) : Prop := ∀ r : Rd, r.Inv → 8 * r.rem + 1 ≤ n → ACalls Tryz.prog 99 [pR] (encR r) (fun v l => v = rI (atomF n r).2 ∧ l = encR (atomF n r).1)
def FactorC (n : Nat) : Prop := ∀ r : Rd, r.Inv → 8 * r.rem + 2 ≤ n → ACalls Tryz.prog 95 [pR] (encR r) (fun v l => v = rI (factorF n r).2 ∧ l = encR (factorF n r).1)
def ChainC (n : Nat) : Prop := ∀ (lv : Nat) (r : Rd), lv ≤ 5 → r.Inv → 8 * r.rem + 8 - lv ≤ n → ACalls Tryz.prog 93 [pR, rI lv] (encR r) (fun v l => v = rI (chainF n lv r).2 ∧ l = encR (chainF n lv r).1)
set_option maxHeartbeats 2000000 in
set_option maxRecDepth 10000 in
theorem factor_c (n : Nat) (ha : AtomC n) (hf : FactorC n) : FactorC (n + 1) := by
  intro r h hn
  have sg : ∀ t, r.is t = true → r.e = 0 ∧ r.down.Inv ∧ r.down.inc.Inv ∧ r.down.inc.rem + 1 ≤ r.rem := fun t ht => by
    obtain ⟨he, hk⟩ := Rd.is_kind ht
    obtain ⟨h1, h2, h3, h4, _⟩ := Rd.down_inv h he
    have htk : r.down.tok = r.tok := by unfold Rd.tok; rw [h3, h4]
    obtain ⟨s1, e1⟩ := Rd.st_inc h1 (by rw [htk]; exact hk)
    have := s1.inv h1
    have hb := Rd.behind h1 (by rw [htk]; exact hk)
    refine ⟨he, h1, this, ?_⟩
    unfold Rd.rem
    rw [if_pos he]
    have : r.down.inc.i = r.i + 1 := by show r.down.i + 1 = _; rw [h3]
    have hl : r.down.inc.l = r.l := h4
    rw [this, hl]
    rw [h3, h4] at hb
    split <;> omega
  by_cases hm : r.is (⟨#[45]⟩ : ByteArray) = true
  · obtain ⟨he, h1, h2, h3⟩ := sg _ hm
    have s2 := (expr_st n).2.1 _ h2
    have h4 := s2.inv h2
    have h5 : (factorF n r.down.inc).1.up.Inv := (Rd.st_deep h he ((Rd.st_inc h1 (by obtain ⟨_, _, h3, h4, _⟩ := Rd.down_inv h he; unfold Rd.tok; rw [h3, h4]; exact (Rd.is_kind hm).2)).1.trans s2)).inv h
    have hd1 := h2.dlo
    have hd2 := h2.dhi
    have hi1 := h1.lt
    have hi2 := h1.len
    have hi3 := h1.pos
    have hd3 := h4.dlo
    have hd4 := h4.dhi
    rw [factorF, if_pos hm]
    refine entM Tryz.func95 Tryz.ntmps95 ?_
    (refine S ?_; try exact True.intro)
    (have W := hm; repeat' (first
    | refine awp_seq_k fun K hK => ?_
    | refine wkA ?_
    | (refine hK _ _ ?_; clear hK K)
    | (refine wcond (fun hc => ?_) (fun hc => ?_) <;> first | contradiction | (exfalso; omega) | skip)
    | refine cm (rline_c r (rok h)) ?_
    | refine cm (is_c r _ (rok h)) ?_
    | refine cm (down_c r (rok h)) ?_
    | refine cm (hf r.down.inc h2 (by omega)) ?_
    | refine cm (put_w (factorF n r.down.inc).1.up _ _ _ _ [(factorF n r.down.inc).2] _ VLe.sl (rok h5)) ?_
    | refine wkB ?_
    | exact True.intro
    | (clear hK K))); all_goals (try clear W)
    (refine retf [.tmp 2] ?_ ?_ <;> (try simp only [go_sem]))
  · have hmf : r.is (⟨#[45]⟩ : ByteArray) = false := by simpa using hm
    by_cases hq : r.is (⟨#[33]⟩ : ByteArray) = true
    · obtain ⟨he, h1, h2, h3⟩ := sg _ hq
      have s2 := (expr_st n).2.1 _ h2
      have h4 := s2.inv h2
      have h5 : (factorF n r.down.inc).1.up.Inv := (Rd.st_deep h he ((Rd.st_inc h1 (by obtain ⟨_, _, h3, h4, _⟩ := Rd.down_inv h he; unfold Rd.tok; rw [h3, h4]; exact (Rd.is_kind hq).2)).1.trans s2)).inv h
      have hd1 := h2.dlo
      have hd2 := h2.dhi
      have hi1 := h1.lt
      have hi2 := h1.len
      have hi3 := h1.pos
      have hd3 := h4.dlo
      have hd4 := h4.dhi
      rw [factorF, if_neg hm, if_pos hq]
      refine entM Tryz.func95 Tryz.ntmps95 ?_
      (refine S ?_; try exact True.intro)
      (have W := And.intro hmf (hq); repeat' (first
    | refine awp_seq_k fun K hK => ?_
    | refine wkA ?_
    | (refine hK _ _ ?_; clear hK K)
    | (refine wcond (fun hc => ?_) (fun hc => ?_) <;> first | contradiction | (exfalso; omega) | skip)
      | refine cm (rline_c r (rok h)) ?_
      | refine cm (is_c r _ (rok h)) ?_
      | refine cm (down_c r (rok h)) ?_
      | refine cm (hf r.down.inc h2 (by omega)) ?_
      | refine cm (put_w (factorF n r.down.inc).1.up _ _ _ _ [(factorF n r.down.inc).2] _ VLe.sl (rok h5)) ?_
    | refine wkB ?_
    | exact True.intro
    | (clear hK K))); all_goals (try clear W)
      (refine retf [.tmp 2] ?_ ?_ <;> (try simp only [go_sem]))
    · have hqf : r.is (⟨#[33]⟩ : ByteArray) = false := by simpa using hq
      rw [factorF, if_neg hm, if_neg hq]
      refine entM Tryz.func95 Tryz.ntmps95 ?_
      (refine S ?_; try exact True.intro)
      (have W := And.intro hmf (hqf); repeat' (first
    | refine awp_seq_k fun K hK => ?_
    | refine wkA ?_
    | (refine hK _ _ ?_; clear hK K)
    | (refine wcond (fun hc => ?_) (fun hc => ?_) <;> first | contradiction | (exfalso; omega) | skip)
    | refine cm (rline_c r (rok h)) ?_
    | refine cm (is_c r _ (rok h)) ?_
    | refine cm (ha r h (by omega)) ?_
    | refine wkB ?_
    | exact True.intro
    | (clear hK K))); all_goals (try clear W)
      (refine retf [.tmp 2] ?_ ?_ <;> (try simp only [go_sem]))
set_option maxHeartbeats 4000000 in
set_option maxRecDepth 10000 in
theorem chain_c (n : Nat) (hf : FactorC n) (hcc : ∀ m, m ≤ n → ChainC m) : ChainC (n + 1) := by
  intro lv r hlv h hn
  have hch : ∀ (m : Nat) (q : Rd), m ≤ n → lv + 1 ≤ 5 → q.Inv → 8 * q.rem + 7 - lv ≤ m → ACalls Tryz.prog 93 [pR, rI ((lv : Int) + 1)] (encR q) (fun v l => v = rI (chainF m (lv + 1) q).2 ∧ l = encR (chainF m (lv + 1) q).1) := fun m q hm hl hq hr => by
    have := hcc m hm (lv + 1) q hl hq (by omega)
    rw [show ((lv + 1 : Nat) : Int) = (lv : Int) + 1 from by omega] at this
    exact this
  by_cases h5 : lv = 5
  · subst h5
    rw [chainF, if_pos rfl]
    refine entM Tryz.func93 Tryz.ntmps93 ?_
    (refine S ?_; try exact True.intro)
    (repeat' (first
    | refine awp_seq_k fun K hK => ?_
    | refine wkA ?_
    | (refine hK _ _ ?_; clear hK K)
    | (refine wcond (fun hc => ?_) (fun hc => ?_) <;> first | contradiction | (exfalso; omega) | skip)
    | refine cm (hf r h (by omega)) ?_
    | refine wkB ?_
    | exact True.intro
    | (clear hK K)))
    (refine retf [.tmp 4] ?_ ?_ <;> (try simp only [go_sem]))
  · rw [chainF, if_neg h5]
    have s1 := (expr_st n).2.2.1 (lv + 1) r h
    have h1 := s1.inv h
    have hr1 := s1.rem
    refine entM Tryz.func93 Tryz.ntmps93 ?_
    (refine S ?_; try exact True.intro)
    (repeat' (first
    | refine awp_seq_k fun K hK => ?_
    | refine wkA ?_
    | (refine hK _ _ ?_; clear hK K)
    | (refine wcond (fun hc => ?_) (fun hc => ?_) <;> first | contradiction | (exfalso; omega) | skip)
    | refine cm (rline_c r (rok h)) ?_
    | refine cm (hch n r (Nat.le_refl _) (by omega) h (by omega)) ?_
    | refine wkB ?_
    | exact True.intro
    | (clear hK K)))
    refine awp_loop_inv (S := Nat × Rd × Int) [(4, 1), (6, 3), (19, 27)] (fun s => s.2.1.Inv ∧ 8 * s.2.1.rem + 7 - lv ≤ s.1 ∧ s.1 ≤ n ∧ loopF s.1 lv r.line s.2 = loopF n lv r.line (chainF n (lv + 1) r)) (fun s => [(6, rI s.2.2)]) (fun s => ⟨[0, 1], encR s.2.1⟩) (fun s => s.1) (n, chainF n (lv + 1) r) ⟨h1, by (try simp only); omega, Nat.le_refl _, rfl⟩ (fle_at rfl lle) ?_
    rintro ⟨m, q, x⟩ ⟨hq, hm1, hm2, hm3⟩ Kr hKr
    simp only at hq hm1 hm2 hm3
    rw [← hm3]
    obtain ⟨m, rfl⟩ : ∃ k, m = k + 1 := ⟨m - 1, by omega⟩
    have hql := hq.lt
    have hqp := hq.pos
    have hqn := hq.len
    by_cases hx : q.next lv = ⟨#[]⟩
    · rw [loopF, if_pos hx]
      (refine S ?_; try exact True.intro)
      (have W := hx; repeat' (first
    | refine awp_seq_k fun K hK => ?_
    | refine wkA ?_
    | (refine hK _ _ ?_; clear hK K)
    | (refine wcond (fun hc => ?_) (fun hc => ?_) <;> first | contradiction | (exfalso; omega) | skip)
    | refine cm (next_c q lv (rok hq)) ?_
    | refine wkB ?_
    | exact True.intro
    | (clear hK K))); all_goals (try clear W)
      (refine retf [.tmp 4] ?_ ?_ <;> (try simp only [go_sem]))
    · have hk := Rd.is_kind (Rd.next_is hx)
      obtain ⟨t1, e1⟩ := Rd.st_inc hq hk.2
      have hi := t1.inv hq
      have hri := Rd.rem_inc hq hk
      have t2 := (expr_st m).2.2.1 (lv + 1) _ hi
      have hj := t2.inv hi
      have hrj := t2.rem
      have t3 := fun L => Rd.st_put (t1.trans t2) (by have := t2.pot; omega) 9 r.line 0 (q.next lv) L
      rw [loopF, if_neg hx]
      (refine S ?_; try exact True.intro)
      (have W := hx; repeat' (first
    | refine awp_seq_k fun K hK => ?_
    | refine wkA ?_
    | (refine hK _ _ ?_; clear hK K)
    | (refine wcond (fun hc => ?_) (fun hc => ?_) <;> first | contradiction | (exfalso; omega) | skip)
    | refine cm (next_c q lv (rok hq)) ?_
    | refine cm (hch m q.inc (by omega) (by omega) hi (by omega)) ?_
    | refine cm (put_w (chainF m (lv + 1) q.inc).1 _ _ _ _ [x, (chainF m (lv + 1) q.inc).2] _ VLe.sl (rok hj)) ?_
    | refine wkB ?_
    | exact True.intro
    | (clear hK K))); all_goals (try clear W)
      · have h2 : lv = 2 := by omega
        (refine retf [.tmp 4] ?_ ?_ <;> (try simp only [go_sem]))
        · simp only [if_pos h2]
        · simp only [if_pos h2]
      · have h2 : ¬ lv = 2 := by omega
        refine hKr _ _ (next_mk (m, (chainF m (lv + 1) q.inc).1.put 9 r.line 0 (q.next lv) [x, (chainF m (lv + 1) q.inc).2]) ⟨(t3 _).inv hq, ?_, by (try simp only); omega, ?_⟩ (by (try simp only); omega) rfl lle)
        · have h6 : ∀ L, ((chainF m (lv + 1) q.inc).1.put 9 r.line 0 (q.next lv) L).1.rem = (chainF m (lv + 1) q.inc).1.rem := fun L => rfl
          simp only [h6]
          omega
        · rw [← hm3, loopF, if_neg hx, if_neg h2]
end Go.Proofs.YtbpmikjlfgfbmaaGreatDoor
