/- The plain law of the document's parser: what a tree looks like. The plain law of the document's parser: what a tree looks like, statements and all. No conditions. -/
import Derived.Test.YtbpmikjlfgfbmaaGreatDoorP8
set_option linter.all false
namespace Go.Gd
open Go
theorem nth_append {α : Type} [Inhabited α] {a b : List α} {i : Nat} (h : i < a.length) : nth (a ++ b) i = nth a i := by
  simp [nth, List.getD_eq_getElem?_getD, List.getElem?_append_left h]
theorem nth_last {α : Type} [Inhabited α] (a : List α) (x : α) : nth (a ++ [x]) a.length = x := by
  simp [nth, List.getD_eq_getElem?_getD]
def kindAt (t : List GNode) (i : Int) : Int := (nth t i.toNat).kind
def isE (k : Int) : Prop := 1 ≤ k ∧ k ≤ 9
def isR (k : Int) : Prop := isE k ∨ k = 19 ∨ k = 20 ∨ k = 21
def isS (k : Int) : Prop := 10 ≤ k ∧ k ≤ 17
def signsAll : List ByteArray := [(⟨#[124, 124]⟩ : ByteArray), (⟨#[38, 38]⟩ : ByteArray), (⟨#[60]⟩ : ByteArray), (⟨#[60, 61]⟩ : ByteArray), (⟨#[61, 61]⟩ : ByteArray), (⟨#[33, 61]⟩ : ByteArray), (⟨#[43]⟩ : ByteArray), (⟨#[45]⟩ : ByteArray), (⟨#[42]⟩ : ByteArray), (⟨#[47]⟩ : ByteArray), (⟨#[37]⟩ : ByteArray)]
/-- What stands below a node, by its kind; and what the node itself says. -/
structure Shape (t : List GNode) (n : GNode) : Prop where
  any : 1 ≤ n.kind ∧ n.kind ≤ 21
  zero : n.kind = 1 ∨ n.kind = 2 ∨ n.kind = 3 ∨ n.kind = 4 ∨ n.kind = 19 → n.l = []
  one : n.kind = 5 ∨ n.kind = 6 ∨ n.kind = 7 ∨ n.kind = 8 ∨ n.kind = 14 ∨ n.kind = 20 → ∃ a, n.l = [a] ∧ isE (kindAt t a)
  two : n.kind = 9 ∨ n.kind = 12 → ∃ a b, n.l = [a, b] ∧ isE (kindAt t a) ∧ isE (kindAt t b)
  right : n.kind = 10 ∨ n.kind = 11 → ∃ a, n.l = [a] ∧ isR (kindAt t a)
  do_ : n.kind = 13 → ∃ a, n.l = [a] ∧ kindAt t a = 21
  if_ : n.kind = 15 → ∃ a b, isE (kindAt t a) ∧ kindAt t b = 18 ∧ (n.l = [a, b] ∨ ∃ d, n.l = [a, b, d] ∧ kindAt t d = 18)
  while_ : n.kind = 16 → ∃ a b, n.l = [a, b] ∧ isE (kindAt t a) ∧ kindAt t b = 18
  ret : n.kind = 17 → n.l = [] ∨ ∃ a, n.l = [a] ∧ isE (kindAt t a)
  block : n.kind = 18 → ∀ a ∈ n.l, isS (kindAt t a)
  call : n.kind = 21 → ∀ a ∈ n.l, isE (kindAt t a)
  num : n.kind = 1 → ∃ s, NumTok s ∧ n.n = numOf s
  bool : n.kind = 2 → n.n = 0 ∨ n.n = 1
  text : n.kind = 3 → n.name.size ≤ 12
  sign : n.kind = 9 → n.name ∈ signsAll
/-- Rows of nodes, each with what is below it ahead of it. -/
inductive Chain (t : List GNode) : Nat → List Int → Nat → Prop
  | nil (k : Nat) : Chain t k [] k
  | cons {lo c hi : Nat} {L : List Int} (hc : c < t.length) (h1 : Chain t lo (nth t c).l c) (h2 : Chain t (c + 1) L hi) : Chain t lo ((c : Int) :: L) hi
theorem Chain.le {t : List GNode} {lo hi : Nat} {L : List Int} (h : Chain t lo L hi) : lo ≤ hi := by
  induction h with
  | nil => exact Nat.le_refl _
  | cons _ _ _ i1 i2 => omega
theorem Chain.mem {t : List GNode} {lo hi : Nat} {L : List Int} (h : Chain t lo L hi) : ∀ a ∈ L, 0 ≤ a ∧ lo ≤ a.toNat ∧ a.toNat < hi ∧ a.toNat < t.length := by
  induction h with
  | nil => intro a ha; simp at ha
  | @cons lo c hi L hc h1 h2 i1 i2 =>
    intro a ha
    have l1 := h1.le
    have l2 := h2.le
    rcases List.mem_cons.1 ha with rfl | ha
    · exact ⟨by omega, by simpa using l1, by simp; omega, by simpa using hc⟩
    · have := i2 a ha; omega
theorem Chain.mono {t u : List GNode} {lo hi : Nat} {L : List Int} (h : Chain t lo L hi) : Chain (t ++ u) lo L hi := by
  induction h with
  | nil k => exact .nil k
  | cons hc _ _ i1 i2 => exact .cons (by simp; omega) (by rw [nth_append hc]; exact i1) i2
theorem Chain.append {t : List GNode} {lo mid hi : Nat} {L M : List Int} (h : Chain t lo L mid) : Chain t mid M hi → Chain t lo (L ++ M) hi := by
  induction h with
  | nil => intro k; exact k
  | cons hc h1 _ _ i2 => intro k; exact .cons hc h1 (i2 k)
theorem Chain.one {t : List GNode} {lo c : Nat} (hc : c < t.length) (h : Chain t lo (nth t c).l c) : Chain t lo [(c : Int)] (c + 1) := .cons hc h (.nil _)
theorem kindAt_mono {t u : List GNode} {a : Int} (h : a.toNat < t.length) : kindAt (t ++ u) a = kindAt t a := by unfold kindAt; rw [nth_append h]
theorem Shape.mono {t u : List GNode} {n : GNode} (h : Shape t n) (hl : ∀ a ∈ n.l, a.toNat < t.length) : Shape (t ++ u) n where
  any := h.any
  zero := h.zero
  one := fun e => by
    obtain ⟨a, h1, h2⟩ := h.one e
    exact ⟨a, h1, by rw [kindAt_mono (hl a (by rw [h1]; simp))]; exact h2⟩
  two := fun e => by
    obtain ⟨a, b, h1, h2, h3⟩ := h.two e
    exact ⟨a, b, h1, by rw [kindAt_mono (hl a (by rw [h1]; simp))]; exact h2, by rw [kindAt_mono (hl b (by rw [h1]; simp))]; exact h3⟩
  right := fun e => by
    obtain ⟨a, h1, h2⟩ := h.right e
    exact ⟨a, h1, by rw [kindAt_mono (hl a (by rw [h1]; simp))]; exact h2⟩
  do_ := fun e => by
    obtain ⟨a, h1, h2⟩ := h.do_ e
    exact ⟨a, h1, by rw [kindAt_mono (hl a (by rw [h1]; simp))]; exact h2⟩
  if_ := fun e => by
    obtain ⟨a, b, h1, h2, h3⟩ := h.if_ e
    rcases h3 with h3 | ⟨d, h3, h4⟩
    · exact ⟨a, b, by rw [kindAt_mono (hl a (by rw [h3]; simp))]; exact h1, by rw [kindAt_mono (hl b (by rw [h3]; simp))]; exact h2, .inl h3⟩
    · exact ⟨a, b, by rw [kindAt_mono (hl a (by rw [h3]; simp))]; exact h1, by rw [kindAt_mono (hl b (by rw [h3]; simp))]; exact h2, .inr ⟨d, h3, by rw [kindAt_mono (hl d (by rw [h3]; simp))]; exact h4⟩⟩
  while_ := fun e => by
    obtain ⟨a, b, h1, h2, h3⟩ := h.while_ e
    exact ⟨a, b, h1, by rw [kindAt_mono (hl a (by rw [h1]; simp))]; exact h2, by rw [kindAt_mono (hl b (by rw [h1]; simp))]; exact h3⟩
  ret := fun e => by
    rcases h.ret e with h1 | ⟨a, h1, h2⟩
    · exact .inl h1
    · exact .inr ⟨a, h1, by rw [kindAt_mono (hl a (by rw [h1]; simp))]; exact h2⟩
  block := fun e a ha => by rw [kindAt_mono (hl a ha)]; exact h.block e a ha
  call := fun e a ha => by rw [kindAt_mono (hl a ha)]; exact h.call e a ha
  num := h.num
  bool := h.bool
  text := h.text
  sign := h.sign
theorem Chain.len {t : List GNode} {lo hi : Nat} {L : List Int} (h : Chain t lo L hi) : L.length + lo ≤ hi := by
  induction h with
  | nil => simp
  | @cons lo c hi L hc h1 h2 i1 i2 =>
    have := h1.le
    simp only [List.length_cons]
    omega
/-- From a row of nodes to a later one: what was made. -/
structure Mk (t t' : List GNode) (L : List Int) : Prop where
  pre : ∃ u, t' = t ++ u
  chain : Chain t' t.length L t'.length
  shape : ∀ k, t.length ≤ k → k < t'.length → Shape t' (nth t' k) ∧ (∀ a ∈ (nth t' k).l, 0 ≤ a ∧ a.toNat < k) ∧ ∃ lo, Chain t' lo (nth t' k).l k
theorem Mk.refl (t : List GNode) : Mk t t [] := ⟨⟨[], by simp⟩, .nil _, fun k h1 h2 => by omega⟩
theorem Mk.trans {a b c : List GNode} {L M : List Int} (h : Mk a b L) (k : Mk b c M) : Mk a c (L ++ M) := by
  obtain ⟨⟨u, rfl⟩, h2, h3⟩ := h
  obtain ⟨⟨v, rfl⟩, k2, k3⟩ := k
  refine ⟨⟨u ++ v, by simp⟩, h2.mono.append k2, fun i h4 h5 => ?_⟩
  by_cases hi : i < (a ++ u).length
  · obtain ⟨g1, g2, lo, g3⟩ := h3 i h4 hi
    rw [nth_append hi]
    exact ⟨g1.mono fun x hx => by have := g2 x hx; omega, g2, lo, g3.mono⟩
  · exact k3 i (by omega) h5
theorem Mk.put {a b : List GNode} {L : List Int} (h : Mk a b L) (n : GNode) (hn : n.l = L) (hs : Shape b n) : Mk a (b ++ [n]) [(b.length : Int)] := by
  obtain ⟨⟨u, rfl⟩, h2, h3⟩ := h
  have hm : ∀ x ∈ n.l, 0 ≤ x ∧ x.toNat < (a ++ u).length := fun x hx => by rw [hn] at hx; exact ⟨(h2.mem x hx).1, (h2.mem x hx).2.2.1⟩
  refine ⟨⟨u ++ [n], by simp⟩, ?_, fun i h4 h5 => ?_⟩
  · have e : ((a ++ u) ++ [n]).length = (a ++ u).length + 1 := by simp only [List.length_append, List.length_cons, List.length_nil]
    rw [e]
    refine Chain.one (by simp) ?_
    rw [nth_last, hn]
    exact h2.mono
  · by_cases hi : i < (a ++ u).length
    · obtain ⟨g1, g2, lo, g3⟩ := h3 i h4 hi
      rw [nth_append hi]
      exact ⟨g1.mono fun x hx => by have := g2 x hx; omega, g2, lo, g3.mono⟩
    · have : i = (a ++ u).length := by simp at h5 hi ⊢; omega
      subst this
      rw [nth_last]
      exact ⟨hs.mono fun x hx => (hm x hx).2, hm, a.length, by rw [hn]; exact h2.mono⟩
theorem Mk.kind {a b c : List GNode} {L M : List Int} (h : Mk a b L) (k : Mk b c M) {x : Int} (hx : x ∈ L) : kindAt c x = kindAt b x := by
  obtain ⟨⟨v, rfl⟩, _, _⟩ := k
  exact kindAt_mono (h.chain.mem x hx).2.2.2
theorem kindAt_put (t : List GNode) (n : GNode) : kindAt (t ++ [n]) (t.length : Int) = n.kind := by unfold kindAt; rw [Int.toNat_natCast, nth_last]
/-- What the texts among tokens are. -/
def TxtOk (l : List GToken) : Prop := ∀ k, k < l.length → (nth l k).kind = 2 → (nth l k).text.size ≤ 12
/-- What a step makes, if there is no error behind it. -/
def Made (r r' : Rd) (L : List Int) (C : Int → Prop) : Prop := r'.e = 0 → Mk r.nodes r'.nodes L ∧ ∀ a ∈ L, C (kindAt r'.nodes a)
/-- It makes no nodes. -/
structure Still (r r' : Rd) : Prop where
  nodes : r'.nodes = r.nodes
  err : r'.e = 0 → r.e = 0
  l : r'.l = r.l
theorem Still.refl (r : Rd) : Still r r := ⟨rfl, id, rfl⟩
theorem Still.trans {a b c : Rd} (h : Still a b) (k : Still b c) : Still a c := ⟨k.nodes.trans h.nodes, fun e => h.err (k.err e), k.l.trans h.l⟩
theorem still_fails (r : Rd) {e : Int} (he : e ≠ 0) : Still r (r.fails e) := ⟨Rd.fails_nodes _ _, fun h => (Rd.fails_e he h).elim, Rd.fails_l _ _⟩
theorem still_inc (r : Rd) : Still r r.inc := ⟨rfl, id, rfl⟩
theorem still_up (r : Rd) : Still r r.up := ⟨rfl, id, rfl⟩
theorem still_must (r : Rd) (t : ByteArray) : Still r (r.must t) := by
  unfold Rd.must
  split
  · exact still_inc r
  · exact still_fails r (by decide)
theorem still_name (r : Rd) : Still r r.name.1 := by
  unfold Rd.name
  split
  · exact still_inc r
  · exact still_fails r (by decide)
theorem still_down (r : Rd) : Still r r.down := by
  unfold Rd.down
  split
  · have := still_fails r (e := 21) (by decide)
    exact ⟨this.nodes, this.err, this.l⟩
  · exact ⟨rfl, id, rfl⟩
theorem Made.pre {r a b : Rd} {L : List Int} {C : Int → Prop} (s : Still r a) (h : Made a b L C) : Made r b L C := fun e => by have := h e; rwa [s.nodes] at this
theorem Made.post {r a b : Rd} {L : List Int} {C : Int → Prop} (h : Made r a L C) (s : Still a b) : Made r b L C := fun e => by have := h (s.err e); rwa [s.nodes]
theorem Made.nil (r : Rd) (C : Int → Prop) : Made r r [] C := fun _ => ⟨Mk.refl _, fun a ha => by simp at ha⟩
theorem Made.weak {r a : Rd} {L : List Int} {C D : Int → Prop} (h : Made r a L C) (hc : ∀ k, C k → D k) : Made r a L D := fun e => ⟨(h e).1, fun a ha => hc _ ((h e).2 a ha)⟩
theorem Made.seq {a b c : Rd} {L M : List Int} {C D : Int → Prop} (h : Made a b L C) (k : Made b c M D) (he : c.e = 0 → b.e = 0) : c.e = 0 → Mk a.nodes c.nodes (L ++ M) ∧ (∀ x ∈ L, C (kindAt c.nodes x)) ∧ ∀ x ∈ M, D (kindAt c.nodes x) := fun e => by
  obtain ⟨h1, h2⟩ := h (he e)
  obtain ⟨k1, k2⟩ := k e
  exact ⟨h1.trans k1, fun x hx => by rw [h1.kind k1 hx]; exact h2 x hx, k2⟩
theorem Made.both {a b c : Rd} {L M : List Int} {C : Int → Prop} (h : Made a b L C) (k : Made b c M C) (he : c.e = 0 → b.e = 0) : Made a c (L ++ M) C := fun e => by
  obtain ⟨h1, h2, h3⟩ := h.seq k he e
  exact ⟨h1, fun x hx => (List.mem_append.1 hx).elim (h2 x) (h3 x)⟩
/-- A node is put on what was made. -/
theorem made_put {r a : Rd} {L : List Int} {C : Int → Prop} (k ln n : Int) (nm : ByteArray) (h : a.e = 0 → Mk r.nodes a.nodes L ∧ Shape a.nodes ⟨k, ln, n, nm, L⟩ ∧ C k) : Made r (a.put k ln n nm L).1 [(a.put k ln n nm L).2] C := fun e => by
  obtain ⟨h1, h2, h3⟩ := h e
  refine ⟨h1.put _ rfl h2, fun x hx => ?_⟩
  rw [List.mem_singleton.1 hx]
  show C (kindAt (a.nodes ++ [_]) (a.nodes.length : Int))
  rw [kindAt_put]
  exact h3
theorem shape0 {t : List GNode} {k ln n : Int} {nm : ByteArray} (hk : k = 1 ∨ k = 2 ∨ k = 3 ∨ k = 4 ∨ k = 17 ∨ k = 19) (h1 : k = 1 → ∃ s, NumTok s ∧ n = numOf s) (h2 : k = 2 → n = 0 ∨ n = 1) (h3 : k = 3 → nm.size ≤ 12) : Shape t ⟨k, ln, n, nm, []⟩ := by
  constructor <;> (try simp only) <;> intros <;> first | (clear h1 h2 h3; omega) | (clear h1 h2 h3; exfalso; omega) | trivial | rfl | (exact .inl rfl) | (exact .inl trivial) | (refine h1 ?_; assumption) | (refine h2 ?_; assumption) | (refine h3 ?_; assumption) | fail
theorem shape1 {t : List GNode} {k ln n a : Int} {nm : ByteArray} (hk : k = 5 ∨ k = 6 ∨ k = 7 ∨ k = 8 ∨ k = 14 ∨ k = 17 ∨ k = 20) (h : isE (kindAt t a)) : Shape t ⟨k, ln, n, nm, [a]⟩ := by
  constructor <;> (try simp only) <;> intros <;> first | omega | (exfalso; omega) | trivial | (exact ⟨a, rfl, h⟩) | (exact .inr ⟨a, rfl, h⟩)
theorem shapeR {t : List GNode} {k ln n a : Int} {nm : ByteArray} (hk : k = 10 ∨ k = 11) (h : isR (kindAt t a)) : Shape t ⟨k, ln, n, nm, [a]⟩ := by
  constructor <;> (try simp only) <;> intros <;> first | omega | (exfalso; omega) | trivial | (exact ⟨a, rfl, h⟩)
theorem shapeD {t : List GNode} {ln n a : Int} {nm : ByteArray} (h : kindAt t a = 21) : Shape t ⟨13, ln, n, nm, [a]⟩ := by
  constructor <;> (try simp only) <;> intros <;> first | omega | (exfalso; omega) | trivial | (exact ⟨a, rfl, h⟩)
theorem shape2 {t : List GNode} {k ln n a b : Int} {nm : ByteArray} (hk : k = 12 ∨ k = 9 ∧ nm ∈ signsAll) (h : isE (kindAt t a)) (h' : isE (kindAt t b)) : Shape t ⟨k, ln, n, nm, [a, b]⟩ := by
  constructor <;> (try simp only) <;> intros <;> first | omega | (exfalso; omega) | trivial | (exact ⟨a, b, rfl, h, h'⟩) | (rcases hk with hk | hk; omega; exact hk.2) | fail
theorem shapeW {t : List GNode} {ln n a b : Int} {nm : ByteArray} (h : isE (kindAt t a)) (h' : kindAt t b = 18) : Shape t ⟨16, ln, n, nm, [a, b]⟩ := by
  constructor <;> (try simp only) <;> intros <;> first | omega | (exfalso; omega) | trivial | (exact ⟨a, b, rfl, h, h'⟩)
theorem shapeI {t : List GNode} {ln n a b : Int} {nm : ByteArray} (h : isE (kindAt t a)) (h' : kindAt t b = 18) : Shape t ⟨15, ln, n, nm, [a, b]⟩ := by
  constructor <;> (try simp only) <;> intros <;> first | omega | (exfalso; omega) | trivial | (exact ⟨a, b, h, h', .inl rfl⟩)
theorem shapeI' {t : List GNode} {ln n a b d : Int} {nm : ByteArray} (h : isE (kindAt t a)) (h' : kindAt t b = 18) (h'' : kindAt t d = 18) : Shape t ⟨15, ln, n, nm, [a, b, d]⟩ := by
  constructor <;> (try simp only) <;> intros <;> first | omega | (exfalso; omega) | trivial | (exact ⟨a, b, h, h', .inr ⟨d, rfl, h''⟩⟩)
theorem shapeB {t : List GNode} {ln n : Int} {nm : ByteArray} {L : List Int} (h : ∀ a ∈ L, isS (kindAt t a)) : Shape t ⟨18, ln, n, nm, L⟩ := by
  constructor <;> (try simp only) <;> intros <;> first | omega | (exfalso; omega) | trivial | (refine h _ ?_; assumption) | fail
theorem shapeC {t : List GNode} {ln n : Int} {nm : ByteArray} {L : List Int} (h : ∀ a ∈ L, isE (kindAt t a)) : Shape t ⟨21, ln, n, nm, L⟩ := by
  constructor <;> (try simp only) <;> intros <;> first | omega | (exfalso; omega) | trivial | (refine h _ ?_; assumption) | fail
theorem next_sign {r : Rd} {lv : Int} (h : r.next lv ≠ ⟨#[]⟩) : r.next lv ∈ signsAll := by
  unfold Rd.next at h ⊢
  cases e : (signsL lv).find? (fun s => r.is s) with
  | none => rw [e] at h; exact (h rfl).elim
  | some s =>
    have := List.mem_of_find?_eq_some e
    unfold signsL at this
    simp only
    unfold signsAll
    split at this
    · simp at this ⊢; simp [this]
    split at this
    · simp at this ⊢; simp [this]
    split at this
    · simp at this ⊢; rcases this with h | h | h | h <;> simp [h]
    split at this
    · simp at this ⊢; rcases this with h | h <;> simp [h]
    · simp at this ⊢; rcases this with h | h | h <;> simp [h]
theorem st_err {r r' : Rd} (s : Rd.St r r') : r'.e = 0 → r.e = 0 := fun h => Classical.byContradiction fun e => s.err e h
theorem fails_err {r : Rd} {e : Int} {L : List Int} {C : Int → Prop} (he : e ≠ 0) : Made r (r.fails e) L C := fun h => (Rd.fails_e he h).elim
/-- What expressions make. -/
theorem expr_mk : ∀ n, (∀ r : Rd, r.Inv → TxtOk r.l → 8 * r.rem + 1 ≤ n → Made r (atomF n r).1 [(atomF n r).2] isE) ∧ (∀ r : Rd, r.Inv → TxtOk r.l → 8 * r.rem + 2 ≤ n → Made r (factorF n r).1 [(factorF n r).2] isE) ∧
    (∀ lv (r : Rd), r.Inv → TxtOk r.l → lv ≤ 5 → 8 * r.rem + 8 ≤ n + lv → Made r (chainF n lv r).1 [(chainF n lv r).2] isE) ∧
    (∀ lv ln (r : Rd) (p : Rd × Int), p.1.Inv → TxtOk p.1.l → lv ≤ 4 → 8 * p.1.rem + 7 ≤ n + lv → Made r p.1 [p.2] isE → Made r (loopF n lv ln p).1 [(loopF n lv ln p).2] isE)
  | 0 => ⟨fun r h ht hn => by omega, fun r h ht hn => by omega, fun lv r h ht h5 hn => by omega, fun lv ln r p h ht h5 hn hp => by omega⟩
  | n + 1 => by
    obtain ⟨ia, if_, ic, il⟩ := expr_mk n
    have ist := expr_st n
    have deeper : ∀ (r : Rd) (t u : ByteArray), r.Inv → TxtOk r.l → r.e = 0 → 8 * r.rem + 1 ≤ n + 1 → (r.is t = true ∨ 8 * r.rem + 8 ≤ n) → Made r ((chainF n 0 (r.down.must t)).1.must u).up [(chainF n 0 (r.down.must t)).2] isE := fun r t u h ht he hn hx => by
      have h1 := (Rd.down_inv h he).1
      have s1 := Rd.st_must h1 t
      have hr : 8 * (r.down.must t).rem + 8 ≤ n + 0 := by
        rcases hx with hx | hx
        · have := (Rd.down_must h hx).1; omega
        · have := s1.rem
          have hdr : r.down.rem ≤ r.rem := by
            unfold Rd.rem
            obtain ⟨_, _, h3, h4, _⟩ := Rd.down_inv h he
            rw [h3, h4, if_pos he]; split <;> omega
          omega
      have st := (still_down r).trans (still_must r.down t)
      have := ic 0 (r.down.must t) (s1.inv h1) (by rw [st.l]; exact ht) (by omega) hr
      exact ((this.pre st).post (still_must _ _)).post (still_up _)
    refine ⟨fun r h ht hn => ?_, fun r h ht hn => ?_, fun lv r h ht h5 hn => ?_, fun lv ln r p h ht h5 hn hp => ?_⟩
    · unfold atomF
      split
      · rename_i he; exact fun h => (he h).elim
      rename_i he
      have he : r.e = 0 := by omega
      have htk : r.i.toNat < r.l.length := by have := h.lt; have := h.pos; omega
      split
      · rename_i hk
        exact made_put _ _ _ _ fun _ => ⟨Mk.refl _, shape0 (by omega) (fun _ => ⟨_, h.num _ htk hk, rfl⟩) (by intro; omega) (by intro; omega), by unfold isE; omega⟩
      split
      · rename_i hk
        exact made_put _ _ _ _ fun _ => ⟨Mk.refl _, shape0 (by omega) (by intro; omega) (by intro; omega) (fun _ => ht _ htk hk), by unfold isE; omega⟩
      split
      · rename_i hk
        have hki : r.e = 0 ∧ r.tok.kind ≠ 0 := ⟨he, by omega⟩
        split
        · have hi := (Rd.st_inc h hki.2).1.inv h
          have hr := Rd.rem_inc h hki
          have hm := deeper r.inc (⟨#[91]⟩ : ByteArray) (⟨#[93]⟩ : ByteArray) hi ht he (by omega) (.inl (by assumption))
          exact made_put _ _ _ _ fun e => ⟨(hm e).1, shape1 (by omega) ((hm e).2 _ (by simp)), by unfold isE; omega⟩
        · exact made_put _ _ _ _ fun _ => ⟨Mk.refl _, shape0 (by omega) (by intro; omega) (by intro; omega) (by intro; omega), by unfold isE; omega⟩
      split
      · exact made_put _ _ _ _ fun _ => ⟨Mk.refl _, shape0 (by omega) (by intro; omega) (fun _ => .inr rfl) (by intro; omega), by unfold isE; omega⟩
      split
      · exact made_put _ _ _ _ fun _ => ⟨Mk.refl _, shape0 (by omega) (by intro; omega) (fun _ => .inl rfl) (by intro; omega), by unfold isE; omega⟩
      split
      · rename_i hs
        have hki := Rd.is_kind hs
        split
        · have hi := (Rd.st_inc h hki.2).1.inv h
          have hr := Rd.rem_inc h hki
          have hm := deeper r.inc (⟨#[40]⟩ : ByteArray) (⟨#[41]⟩ : ByteArray) hi ht he (by omega) (.inl (by assumption))
          exact made_put _ _ _ _ fun e => ⟨(hm e).1, shape1 (by omega) ((hm e).2 _ (by simp)), by unfold isE; omega⟩
        · exact fun e => (Rd.fails_e (by decide) e).elim
      split
      · exact deeper r (⟨#[40]⟩ : ByteArray) (⟨#[41]⟩ : ByteArray) h ht he hn (.inl (by assumption))
      · exact fails_err (by decide)
    · unfold factorF
      have sg : ∀ t, r.is t = true → ∀ k ln nm, (k = 7 ∨ k = 8) → Made r (((factorF n r.down.inc).1.up).put k ln 0 nm [(factorF n r.down.inc).2]).1 [(((factorF n r.down.inc).1.up).put k ln 0 nm [(factorF n r.down.inc).2]).2] isE := fun t ht' k ln nm hk => by
        obtain ⟨he, hkk⟩ := Rd.is_kind ht'
        obtain ⟨h1, h2, h3, h4, h5, h6⟩ := Rd.down_inv h he
        have htk : r.down.tok = r.tok := by unfold Rd.tok; rw [h3, h4]
        have s1 := (Rd.st_inc h1 (by rw [htk]; exact hkk)).1
        have st := (still_down r).trans (still_inc r.down)
        have hr : 8 * r.down.inc.rem + 2 ≤ n := by
          have hb := Rd.behind h hkk
          unfold Rd.rem at hn ⊢
          rw [if_pos he] at hn
          have e1 : r.down.inc.i = r.i + 1 := by show r.down.i + 1 = _; rw [h3]
          have e2 : r.down.inc.l = r.l := h4
          rw [e1, e2]
          have := h.pos
          split <;> omega
        have hm := ((if_ r.down.inc (s1.inv h1) (by rw [st.l]; exact ht) hr).pre st).post (still_up _)
        exact made_put _ _ _ _ fun e => ⟨(hm e).1, shape1 (by omega) ((hm e).2 _ (by simp)), by unfold isE; omega⟩
      split
      · rename_i ht'; exact sg _ ht' _ _ _ (.inl rfl)
      split
      · rename_i ht'; exact sg _ ht' _ _ _ (.inr rfl)
      · exact ia r h ht (by omega)
    · unfold chainF
      split
      · exact if_ r h ht (by omega)
      · have s1 := ist.2.2.1 (lv + 1) r h
        exact il lv _ r _ (s1.inv h) (by rw [s1.l]; exact ht) (by omega) (by have := s1.rem; omega) (ic (lv + 1) r h ht (by omega) (by omega))
    · unfold loopF
      split
      · exact hp
      rename_i hnx
      have hki := Rd.is_kind (Rd.next_is hnx)
      have s1 := (Rd.st_inc h hki.2).1
      have hr := Rd.rem_inc h hki
      have s2 := ist.2.2.1 (lv + 1) _ (s1.inv h)
      have hm := ic (lv + 1) p.1.inc (s1.inv h) (by rw [s1.l]; exact ht) (by omega) (by omega)
      have h12 := (hp.post (still_inc _)).seq hm (st_err s2)
      have hput : Made r ((chainF n (lv + 1) p.1.inc).1.put 9 ln 0 (p.1.next lv) [p.2, (chainF n (lv + 1) p.1.inc).2]).1 [((chainF n (lv + 1) p.1.inc).1.put 9 ln 0 (p.1.next lv) [p.2, (chainF n (lv + 1) p.1.inc).2]).2] isE :=
        made_put _ _ _ _ fun e => ⟨(h12 e).1, shape2 (.inr ⟨rfl, next_sign hnx⟩) ((h12 e).2.1 _ (by simp)) ((h12 e).2.2 _ (by simp)), by unfold isE; omega⟩
      split
      · exact hput
      · have s3 := Rd.st_put (s1.trans s2) (by have := s2.pot; have := (Rd.st_inc h hki.2).2; omega) 9 ln 0 (p.1.next lv) [p.2, (chainF n (lv + 1) p.1.inc).2]
        exact il lv ln r _ (s3.inv h) (by rw [s3.l]; exact ht) h5 (by
          have e : ((chainF n (lv + 1) p.1.inc).1.put 9 ln 0 (p.1.next lv) [p.2, (chainF n (lv + 1) p.1.inc).2]).1.rem = (chainF n (lv + 1) p.1.inc).1.rem := rfl
          show 8 * ((chainF n (lv + 1) p.1.inc).1.put 9 ln 0 (p.1.next lv) [p.2, (chainF n (lv + 1) p.1.inc).2]).1.rem + 7 ≤ _
          rw [e]
          have := s2.rem
          omega) hput
end Go.Gd

namespace Go.Gd
open Go
theorem exprF_mk {r : Rd} (h : r.Inv) (ht : TxtOk r.l) : Made r (exprF r).1 [(exprF r).2] isE := (expr_mk _).2.2.1 0 r h ht (by omega) (by omega)
theorem St.txt {r r' : Rd} (s : Rd.St r r') (h : TxtOk r.l) : TxtOk r'.l := by rw [s.l]; exact h
theorem argsF_mk : ∀ (n : Nat) (b : Bool) (r0 r : Rd) (L : List Int), r.Inv → TxtOk r.l → Made r0 r L isE → Made r0 (argsF n b r L).1 (argsF n b r L).2 isE
  | 0, _, r0, r, L, h, ht, hm => by unfold argsF; exact hm
  | n + 1, false, r0, r, L, h, ht, hm => by unfold argsF; exact hm
  | n + 1, true, r0, r, L, h, ht, hm => by
    have s1 := exprF_st h
    have h1 := s1.inv h
    have m1 := hm.both (exprF_mk h ht) (st_err s1)
    unfold argsF
    split
    · rename_i hs
      have s2 := (Rd.st_inc h1 (Rd.is_kind hs).2).1
      exact argsF_mk n _ r0 _ _ (s2.inv h1) (St.txt s2 (St.txt s1 ht)) (m1.post (still_inc _))
    · exact m1
theorem callF_mk {r : Rd} (h : r.Inv) (ht : TxtOk r.l) : Made r (callF r).1 [(callF r).2] (fun k => k = 21) := by
  have hs := callH_st h
  have st := (still_name r).trans (still_must r.name.1 (⟨#[40]⟩ : ByteArray))
  have hm : Made r (callA r).1 (callA r).2 isE := argsF_mk _ _ r _ _ (hs.inv h) (St.txt hs ht) ((Made.nil _ _).pre st)
  have hm := hm.post (still_must (callA r).1 (⟨#[41]⟩ : ByteArray))
  exact made_put _ _ _ _ fun e => ⟨(hm e).1, shapeC (hm e).2, rfl⟩
theorem rightF_mk {r : Rd} (h : r.Inv) (ht : TxtOk r.l) : Made r (rightF r).1 [(rightF r).2] isR := by
  unfold rightF
  split
  · exact made_put _ _ _ _ fun _ => ⟨Mk.refl _, shape0 (by omega) (by intro; omega) (by intro; omega) (by intro; omega), by unfold isR; omega⟩
  split
  · rename_i hs
    have s1 := (Rd.st_inc h (Rd.is_kind hs).2).1
    have s2 := s1.trans (Rd.st_must (s1.inv h) (⟨#[40]⟩ : ByteArray))
    have hm := ((exprF_mk (s2.inv h) (St.txt s2 ht)).pre ((still_inc r).trans (still_must _ _))).post (still_must _ (⟨#[41]⟩ : ByteArray))
    exact made_put _ _ _ _ fun e => ⟨(hm e).1, shape1 (by omega) ((hm e).2 _ (by simp)), by unfold isR; omega⟩
  split
  · exact (callF_mk h ht).weak fun k hk => by unfold isR; omega
  · exact (exprF_mk h ht).weak fun k hk => .inl hk
theorem ptA_mk {r : Rd} (h : r.Inv) (ht : TxtOk r.l) (he : r.e = 0) : Made r (ptA r).1 [(ptA r).2] isE := by
  have h1 := (Rd.down_inv h he).1
  have s1 := Rd.st_must h1 (⟨#[91]⟩ : ByteArray)
  have st := (still_down r).trans (still_must r.down (⟨#[91]⟩ : ByteArray))
  exact (exprF_mk (s1.inv h1) (by rw [st.l]; exact ht)).pre st
theorem namedF_mk {r : Rd} (h : r.Inv) (ht : TxtOk r.l) (he : r.e = 0) (ln : Int) : Made r (namedF r ln).1 [(namedF r ln).2] isS := by
  unfold namedF
  split
  · have hm := (callF_mk h ht).post (still_must _ (⟨#[59]⟩ : ByteArray))
    exact made_put _ _ _ _ fun e => ⟨(hm e).1, shapeD ((hm e).2 _ (by simp)), by unfold isS; omega⟩
  have s0 := Rd.st_name h
  have h0 := s0.inv h
  split
  · rename_i hs
    have he0 := (Rd.is_kind hs).1
    have m1 := ptA_mk h0 (St.txt s0 ht) he0
    obtain ⟨t1, t2⟩ := ptB_st h0 hs
    have sB : Rd.St r.name.1 ((ptA r.name.1).1.must (⟨#[93]⟩ : ByteArray)).up := (ptA_st h0 hs).2
    have stl : Still (ptA r.name.1).1 (((ptA r.name.1).1.must (⟨#[93]⟩ : ByteArray)).up.must (⟨#[61]⟩ : ByteArray)) := ((still_must _ _).trans (still_up _)).trans (still_must _ _)
    have m2 : Made (((ptA r.name.1).1.must (⟨#[93]⟩ : ByteArray)).up.must (⟨#[61]⟩ : ByteArray)) (ptB r.name.1).1 [(ptB r.name.1).2] isE := exprF_mk (t1.inv h0) (St.txt t1 (St.txt s0 ht))
    have hm := ((m1.post stl).both m2 (st_err (exprF_st (t1.inv h0)))).post (still_must _ (⟨#[59]⟩ : ByteArray))
    have hm := hm.pre (still_name r)
    exact made_put _ _ _ _ fun e => ⟨(hm e).1, shape2 (.inl rfl) ((hm e).2 _ (by simp)) ((hm e).2 _ (by simp)), by unfold isS; omega⟩
  · have s1 := s0.trans (Rd.st_must h0 (⟨#[61]⟩ : ByteArray))
    have hm := ((rightF_mk (s1.inv h) (St.txt s1 ht)).pre ((still_name r).trans (still_must _ _))).post (still_must _ (⟨#[59]⟩ : ByteArray))
    exact made_put _ _ _ _ fun e => ⟨(hm e).1, shapeR (.inr rfl) ((hm e).2 _ (by simp)), by unfold isS; omega⟩
theorem word_ne {r : Rd} {w : ByteArray} (h : r.word = w) (h0 : w ≠ ⟨#[]⟩) : r.e = 0 ∧ r.tok.kind ≠ 0 := Rd.kind_kind (Rd.word_kind h h0) (by decide)
/-- What statements make. -/
theorem stmt_mk : ∀ n, (∀ r : Rd, r.Inv → TxtOk r.l → 4 * r.rem + 1 ≤ n → Made r (blockF n r).1 [(blockF n r).2] (fun k => k = 18)) ∧
    (∀ (r0 r : Rd) L, r.Inv → TxtOk r.l → 4 * r.rem + 3 ≤ n → Made r0 r L isS → Made r0 (stmtsF n r L).1 (stmtsF n r L).2 isS) ∧
    (∀ r : Rd, r.Inv → TxtOk r.l → r.e = 0 → 4 * r.rem + 2 ≤ n → Made r (stmtF n r).1 [(stmtF n r).2] isS)
  | 0 => ⟨fun r h ht hn => by omega, fun r0 r L h ht hn hm => by omega, fun r h ht he hn => by omega⟩
  | n + 1 => by
    obtain ⟨ib, il, is_⟩ := stmt_mk n
    have ist := stmt_st n
    refine ⟨fun r h ht hn => ?_, fun r0 r L h ht hn hm => ?_, fun r h ht he hn => ?_⟩
    · unfold blockF
      split
      · rename_i hx
        have he := (Rd.is_kind hx).1
        have hd := (Rd.down_inv h he).1
        have s1 := Rd.st_must hd (⟨#[123]⟩ : ByteArray)
        have st := (still_down r).trans (still_must r.down (⟨#[123]⟩ : ByteArray))
        have hr := (Rd.down_must h hx).1
        have hm := il r (r.down.must (⟨#[123]⟩ : ByteArray)) [] (s1.inv hd) (by rw [st.l]; exact ht) (by omega) ((Made.nil _ _).pre st)
        have hm := (hm.post (still_must _ (⟨#[125]⟩ : ByteArray))).post (still_up _)
        exact made_put _ _ _ _ fun e => ⟨(hm e).1, shapeB (hm e).2, rfl⟩
      · exact fails_err (by decide)
    · unfold stmtsF
      split
      · rename_i hc
        have hn0 : 0 < n := by omega
        obtain ⟨s1, s2⟩ := ist.2.2 r h hc.1 hn0
        have hm2 := hm.both (is_ r h ht hc.1 (by omega)) (st_err s1)
        exact il r0 _ _ (s1.inv h) (St.txt s1 ht) (by omega) hm2
      · exact hm
    · unfold stmtF
      have word : ∀ w : ByteArray, w ≠ ⟨#[]⟩ → r.word = w → r.inc.Inv ∧ r.inc.rem + 1 ≤ r.rem ∧ Rd.St r r.inc := fun w h0 hw => by
        have hk := Rd.kind_kind (Rd.word_kind hw h0) (by decide)
        exact ⟨(Rd.st_inc h hk.2).1.inv h, Rd.rem_inc h hk, (Rd.st_inc h hk.2).1⟩
      split
      · rename_i hw
        obtain ⟨h1, h2, s1⟩ := word _ (by decide) hw
        have s2 := Rd.st_name h1
        have s3 := s2.trans (Rd.st_must (s2.inv h1) (⟨#[61]⟩ : ByteArray))
        have hm := ((rightF_mk (s3.inv h1) (St.txt s3 ht)).pre ((still_inc r).trans ((still_name r.inc).trans (still_must _ _)))).post (still_must _ (⟨#[59]⟩ : ByteArray))
        exact made_put _ _ _ _ fun e => ⟨(hm e).1, shapeR (.inl rfl) ((hm e).2 _ (by simp)), by unfold isS; omega⟩
      split
      · rename_i hw
        obtain ⟨h1, h2, s1⟩ := word _ (by decide) hw
        have hm := ((exprF_mk h1 (St.txt s1 ht)).pre (still_inc r)).post (still_must _ (⟨#[59]⟩ : ByteArray))
        exact made_put _ _ _ _ fun e => ⟨(hm e).1, shape1 (by omega) ((hm e).2 _ (by simp)), by unfold isS; omega⟩
      split
      · rename_i hw
        obtain ⟨h1, h2, s1⟩ := word _ (by decide) hw
        have s2 := exprF_st h1
        have s3 := ist.1 _ (s2.inv h1)
        have hm := ((exprF_mk h1 (St.txt s1 ht)).pre (still_inc r)).seq (ib (exprF r.inc).1 (s2.inv h1) (St.txt s2 (St.txt s1 ht)) (by have := s2.rem; omega)) (st_err s3)
        exact made_put _ _ _ _ fun e => ⟨(hm e).1, shapeW ((hm e).2.1 _ (by simp)) ((hm e).2.2 _ (by simp)), by unfold isS; omega⟩
      split
      · rename_i hw
        obtain ⟨h1, h2, s1⟩ := word _ (by decide) hw
        have s2 := exprF_st h1
        have h3 := s2.inv h1
        have s3 := ist.1 _ h3
        have h4 := s3.inv h3
        have hm := ((exprF_mk h1 (St.txt s1 ht)).pre (still_inc r)).seq (ib (exprF r.inc).1 h3 (St.txt s2 (St.txt s1 ht)) (by have := s2.rem; omega)) (st_err s3)
        split
        · rename_i hx
          have hk := Rd.is_kind hx
          have s5 := (Rd.st_inc h4 hk.2).1
          have hr5 := Rd.rem_inc h4 hk
          have h5 := s5.inv h4
          have s6 := ist.1 _ h5
          have m3 := (ib (blockF n (exprF r.inc).1).1.inc h5 (St.txt s5 (St.txt s3 (St.txt s2 (St.txt s1 ht)))) (by have := s2.rem; have := s3.rem; omega)).pre (still_inc _)
          have he5 := fun e => st_err s5 (st_err s6 e)
          exact made_put _ _ _ _ fun e => by
            obtain ⟨a1, a2, a3⟩ := hm (he5 e)
            obtain ⟨b1, b2⟩ := m3 e
            exact ⟨a1.trans b1, shapeI' (by rw [a1.kind b1 (by simp)]; exact a2 _ (by simp)) (by rw [a1.kind b1 (by simp)]; exact a3 _ (by simp)) (b2 _ (by simp)), by unfold isS; omega⟩
        · exact made_put _ _ _ _ fun e => ⟨(hm e).1, shapeI ((hm e).2.1 _ (by simp)) ((hm e).2.2 _ (by simp)), by unfold isS; omega⟩
      split
      · rename_i hw
        obtain ⟨h1, h2, s1⟩ := word _ (by decide) hw
        split
        · have hm := ((Made.nil r.inc isE).pre (still_inc r)).post (still_must _ (⟨#[59]⟩ : ByteArray))
          exact made_put _ _ _ _ fun e => ⟨(hm e).1, shape0 (by omega) (by intro; omega) (by intro; omega) (by intro; omega), by unfold isS; omega⟩
        · have hm := ((exprF_mk h1 (St.txt s1 ht)).pre (still_inc r)).post (still_must _ (⟨#[59]⟩ : ByteArray))
          exact made_put _ _ _ _ fun e => ⟨(hm e).1, shape1 (by omega) ((hm e).2 _ (by simp)), by unfold isS; omega⟩
      · exact namedF_mk h ht he _
theorem bodyF_mk {r : Rd} (h : r.Inv) (ht : TxtOk r.l) : Made r (bodyF r).1 [(bodyF r).2] (fun k => k = 18) := (stmt_mk _).1 r h ht (by omega)
-- functions
structure FnOk (f : GFunc) : Prop where
  ps : ∀ p ∈ f.params, 1 ≤ p.ty ∧ p.ty ≤ 4
  ret : 0 ≤ f.ret ∧ f.ret ≤ 4
theorem typeOf_bd (w : ByteArray) : 0 ≤ typeOf w ∧ typeOf w ≤ 4 := by
  unfold typeOf
  repeat' split
  all_goals omega
theorem still_typed (r : Rd) : Still r (typedF r).1 := by
  unfold typedF
  split
  · exact still_fails r (by decide)
  · exact still_inc r
theorem typed_bd {r : Rd} (he : (typedF r).1.e = 0) : 1 ≤ (typedF r).2 ∧ (typedF r).2 ≤ 4 := by
  unfold typedF at he ⊢
  split
  · rename_i h
    rw [if_pos h] at he
    exact (Rd.fails_e (by decide) he).elim
  · have := typeOf_bd r.word
    simp only
    omega
theorem params_mk : ∀ (n : Nat) (b : Bool) (r : Rd) (L : List GParam), Still r (paramsF n b r L).1 ∧ ((paramsF n b r L).1.e = 0 → (∀ p ∈ L, 1 ≤ p.ty ∧ p.ty ≤ 4) → ∀ p ∈ (paramsF n b r L).2, 1 ≤ p.ty ∧ p.ty ≤ 4)
  | 0, _, r, L => by unfold paramsF; exact ⟨.refl r, fun _ h => h⟩
  | n + 1, false, r, L => by unfold paramsF; exact ⟨.refl r, fun _ h => h⟩
  | n + 1, true, r, L => by
    have st : Still r (paramF r) := (still_name r).trans (still_typed _)
    have hL : (paramF r).e = 0 → (∀ p ∈ L, 1 ≤ p.ty ∧ p.ty ≤ 4) → ∀ p ∈ L ++ [⟨r.name.2, (typedF r.name.1).2⟩], 1 ≤ p.ty ∧ p.ty ≤ 4 := fun e h p hp => by
      rcases List.mem_append.1 hp with hp | hp
      · exact h p hp
      · rw [List.mem_singleton.1 hp]; exact typed_bd e
    unfold paramsF
    split
    · obtain ⟨a, b⟩ := params_mk n true (paramF r).inc (L ++ [⟨r.name.2, (typedF r.name.1).2⟩])
      exact ⟨st.trans ((still_inc _).trans a), fun e h => b e (hL (a.err e) h)⟩
    · exact ⟨st, hL⟩
theorem fnF_mk {r : Rd} (h : r.Inv) (ht : TxtOk r.l) : Made r (fnF r).1 [(fnF r).2.body] (fun k => k = 18) ∧ ((fnF r).1.e = 0 → FnOk (fnF r).2) := by
  have h1 := (fnA_st h).1.inv h
  have h2 := (fnD_st h).inv h1
  obtain ⟨a, b⟩ := params_mk ((fnA r).rem + 2) (more (fnA r)) (fnA r) []
  have stA : Still r (fnA r) := ((still_must r (⟨#[102, 110]⟩ : ByteArray)).trans (still_name _)).trans (still_must _ _)
  have stC : Still r (fnC r) := (stA.trans a).trans (still_must _ _)
  have stD : Still (fnC r) (fnD r).1 := by
    unfold fnD
    split
    · exact .refl _
    · exact still_typed _
  have hb := bodyF_mk h2 (by rw [(stC.trans stD).l]; exact ht)
  refine ⟨hb.pre (stC.trans stD), fun e => ?_⟩
  have e2 : (fnD r).1.e = 0 := st_err (bodyF_st h2) e
  have e1 : (fnC r).e = 0 := stD.err e2
  have e0 : (fnB r).1.e = 0 := (still_must _ _).err e1
  refine ⟨b e0 (fun p hp => by simp at hp), ?_⟩
  show 0 ≤ (fnD r).2 ∧ (fnD r).2 ≤ 4
  unfold fnD at e2 ⊢
  split
  · simp
  · rename_i hc
    rw [if_neg hc] at e2
    have := typed_bd e2
    omega
theorem fnsF_mk : ∀ (n : Nat) (r0 r : Rd) (L : List GFunc), r.Inv → TxtOk r.l → Made r0 r (L.map (·.body)) (fun k => k = 18) → (r.e = 0 → ∀ f ∈ L, FnOk f) →
    Made r0 (fnsF n r L).1 ((fnsF n r L).2.map (·.body)) (fun k => k = 18) ∧ ((fnsF n r L).1.e = 0 → ∀ f ∈ (fnsF n r L).2, FnOk f)
  | 0, r0, r, L, h, ht, hm, hf => by unfold fnsF; exact ⟨hm, hf⟩
  | n + 1, r0, r, L, h, ht, hm, hf => by
    unfold fnsF
    split
    · have s1 := (fnF_st h).1
      obtain ⟨a, b⟩ := fnF_mk h ht
      refine fnsF_mk n r0 _ _ (s1.inv h) (St.txt s1 ht) ?_ fun e f hf' => ?_
      · rw [List.map_append]
        exact hm.both a (st_err s1)
      · rcases List.mem_append.1 hf' with h' | h'
        · exact hf (st_err s1 e) f h'
        · rw [List.mem_singleton.1 h']; exact b e
    · exact ⟨hm, hf⟩
/-- What a tree looks like. -/
structure TreeOk (t : GTree) : Prop where
  chain : Chain t.nodes 0 (t.fns.map (·.body)) t.nodes.length
  shape : ∀ k, k < t.nodes.length → Shape t.nodes (nth t.nodes k) ∧ (∀ a ∈ (nth t.nodes k).l, 0 ≤ a ∧ a.toNat < k) ∧ ∃ lo, Chain t.nodes lo (nth t.nodes k).l k
  body : ∀ f ∈ t.fns, kindAt t.nodes f.body = 18
  fn : ∀ f ∈ t.fns, FnOk f ∧ f.params.length ≤ 3
  many : t.nodes.length ≤ 300
  fns : t.fns.length ≤ 6
theorem textF_size {s : ByteArray} {a : Nat} (h : (textF s a).2.2 = 0) : (textF s a).1.size ≤ 12 := by
  unfold textF at h ⊢
  simp only at h ⊢
  split at h <;> rename_i h1
  · rw [if_pos h1]
    split at h <;> rename_i h2
    · cases h
    · rw [if_neg h2]
      simp only [ByteArray.size_extract]
      omega
  · cases h
theorem textTok {s : ByteArray} {a : Nat} (h : (tokOne s a).2.2 = 0) (hk : (tokOne s a).1.kind = 2) : (tokOne s a).1.text.size ≤ 12 := by
  unfold tokOne at h hk ⊢
  split at h <;> rename_i h1
  · rw [if_pos h1] at hk ⊢
    split at h <;> rename_i h2
    · rw [if_pos h2] at hk; cases hk
    · cases h
  rw [if_neg h1] at hk ⊢
  split at h <;> rename_i h2
  · rw [if_pos h2] at hk ⊢
    split at h <;> rename_i h3
    · rw [if_pos h3] at hk; cases hk
    · rw [if_neg h3] at hk ⊢
      split at h <;> rename_i h4
      · cases h
      · rw [if_neg h4] at hk; cases hk
  rw [if_neg h2] at hk ⊢
  split at h <;> rename_i h3
  · rw [if_pos h3] at hk ⊢
    exact textF_size h
  · rw [if_neg h3] at hk
    split at h <;> rename_i h4
    · cases h
    · rw [if_neg h4] at hk; cases hk
theorem lexF_txt (s : ByteArray) : ∀ (n i : Nat) (out : List GToken), (lexF s n i out).2.2 = 0 → (∀ t ∈ out, t.kind = 2 → t.text.size ≤ 12) → ∀ t ∈ (lexF s n i out).1, t.kind = 2 → t.text.size ≤ 12
  | 0, i, out, he, ho => by unfold lexF; exact ho
  | n + 1, i, out, he, ho => by
    unfold lexF at he ⊢
    split at he <;> rename_i hi
    · rw [if_pos hi]
      split at he <;> rename_i h3
      · rw [if_pos h3]
        refine lexF_txt s n _ _ he fun t ht => ?_
        rcases List.mem_append.1 ht with ht | ht
        · exact ho t ht
        · rw [List.mem_singleton.1 ht]; exact textTok h3
      · exact (h3 he).elim
    · rw [if_neg hi]
      intro t ht
      rcases List.mem_append.1 ht with ht | ht
      · exact ho t ht
      · rw [List.mem_singleton.1 ht]; intro h; cases h
theorem lexAll_txt {s : ByteArray} (he : (lexAll s).2.2 = 0) : TxtOk (rd0 s).l := by
  have : ∀ t ∈ (lexAll s).1, t.kind = 2 → t.text.size ≤ 12 := by
    unfold lexAll at he ⊢
    split at he <;> rename_i h
    · cases he
    · rw [if_neg h]
      exact lexF_txt s _ _ _ he (fun t ht => by simp at ht)
  intro k hk
  exact this _ (nth_mem hk)
theorem parse_ok {s : ByteArray} (h : (parseAll s).2.2 = 0) : TreeOk (parseAll s).1 := by
  unfold parseAll at h ⊢
  split at h <;> rename_i h1
  · exact (h1 h).elim
  rw [if_neg h1]
  split at h <;> rename_i h2
  · exact (h2 h).elim
  rw [if_neg h2]
  split at h <;> rename_i h3
  · cases h
  rw [if_neg h3]
  have he : (lexAll s).2.2 = 0 := by omega
  have hf : (fnsAll s).1.e = 0 := by omega
  obtain ⟨a, b⟩ := fnsF_mk ((rd0 s).rem + 1) (rd0 s) (rd0 s) [] (rd0_inv he) (lexAll_txt he) (Made.nil _ _) (fun _ f hf => by simp at hf)
  obtain ⟨a1, a2⟩ := a hf
  simp only [bigF, Bool.or_eq_true, decide_eq_true_eq, not_or, List.any_eq_true, not_exists, not_and] at h3
  refine ⟨a1.chain, fun k hk => a1.shape k (Nat.zero_le _) hk, fun f hf => a2 _ (List.mem_map.2 ⟨f, hf, rfl⟩), fun f hff => ⟨b hf f hff, by have := h3.2 f hff; omega⟩, by show (fnsAll s).1.nodes.length ≤ 300; omega, by show (fnsAll s).2.length ≤ 6; omega⟩
end Go.Gd
