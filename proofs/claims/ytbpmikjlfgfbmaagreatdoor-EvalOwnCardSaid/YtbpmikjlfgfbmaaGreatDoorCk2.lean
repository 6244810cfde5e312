/- The document's checker, as a function. The document's checker: its small methods. The plain law of the document's checker: what looking at expressions leaves as it was. The document's checker: expressions. No conditions. -/
import Derived.Test.YtbpmikjlfgfbmaaGreatDoorPdS
import Derived.Test.YtbpmikjlfgfbmaaGreatDoorP8
set_option linter.all false
namespace Go.Gd
open Go
/-- A program that is made, the function that is looked at, what is visible there (and what was), how many slots it has, and the first error. -/
structure Ck where
  tree : GTree
  types : List Int
  slots : List Int
  fns : List Int
  size_ : List Int
  fn : Int
  vars : List GVar
  more : List GVar
  size : Int
  e : Int
  at_ : Int
  deriving Inhabited
/-- The place of the first name of a row that is this one, counted from i on; -1, if it is not there. -/
def findI {α : Type} (f : α → ByteArray) (name : ByteArray) : List α → Int → Int
  | [], _ => -1
  | v :: l, i => if f v = name then i else findI f name l (i + 1)
/-- The place of the last one. -/
def lastI {α : Type} (f : α → ByteArray) (name : ByteArray) : List α → Int → Int → Int
  | [], _, k => k
  | v :: l, i, k => lastI f name l (i + 1) (if f v = name then i else k)
def binT (sign : ByteArray) (a b : Int) : Int :=
  if a ≠ b then 0
  else if sign = (⟨#[124, 124]⟩ : ByteArray) ∨ sign = (⟨#[38, 38]⟩ : ByteArray) then (if a = 2 then 2 else 0)
  else if sign = (⟨#[60]⟩ : ByteArray) ∨ sign = (⟨#[60, 61]⟩ : ByteArray) then (if a = 1 then 2 else 0)
  else if sign = (⟨#[61, 61]⟩ : ByteArray) ∨ sign = (⟨#[33, 61]⟩ : ByteArray) then (if a = 1 ∨ a = 2 ∨ a = 3 then 2 else 0)
  else if sign = (⟨#[43]⟩ : ByteArray) then (if a = 1 ∨ a = 3 then a else 0)
  else (if a = 1 then 1 else 0)
namespace Ck
def node (c : Ck) (a : Int) : GNode := nth c.tree.nodes a.toNat
def kid (c : Ck) (a : Int) (i : Nat) : Int := nth (c.node a).l i
def fails (c : Ck) (e a : Int) : Ck := if c.e = 0 then { c with e := e, at_ := a } else c
def must (c : Ck) (ok : Bool) (a : Int) : Ck := if ok = true then c else c.fails 42 a
def find (c : Ck) (name : ByteArray) : Int := findI GVar.name name c.vars 0
def slot (c : Ck) (a s : Int) : Ck := { c with slots := c.slots.set a.toNat s }
def named (c : Ck) (a : Int) : Ck × Int :=
  if c.find (c.node a).name < 0 then (c.fails 40 a, 0)
  else (c.slot a (nth c.vars (c.find (c.node a).name).toNat).slot, (nth c.vars (c.find (c.node a).name).toNat).ty)
def note (c : Ck) (a t : Int) : Ck := { c with types := c.types.set a.toNat t, fns := c.fns.set a.toNat c.fn }
def noteF (c : Ck) (a : Int) : Ck := { c with fns := c.fns.set a.toNat c.fn }
end Ck
def argsK (ex : Ck → Int → Ck × Int) : Ck → List Int → List Int → Ck × List Int
  | c, [], ts => (c, ts)
  | c, a :: l, ts => if c.e = 0 then argsK ex (ex c a).1 l (ts ++ [(ex c a).2]) else (c, ts)
def typesK (a : Int) : Ck → List Int → List GParam → Ck
  | c, t :: ts, p :: ps => if c.e = 0 then typesK a (c.must (decide (t = p.ty)) a) ts ps else c
  | c, _, _ => c
def calleeK (c : Ck) (a : Int) : Int := lastI GFunc.name (c.node a).name c.tree.fns 0 (-1)
def callK (ex : Ck → Int → Ck × Int) (c : Ck) (a : Int) : Ck × Int :=
  if calleeK c a < 0 then (c.fails 40 a, 0)
  else
    let f := nth c.tree.fns (calleeK c a).toNat
    let p := argsK ex c (c.node a).l []
    let c1 := if (c.node a).l.length ≠ f.params.length then p.1.fails 43 a else p.1
    (typesK a c1 p.2 f.params, f.ret)
def tellsK (ex : Ck → Int → Ck × Int) (c : Ck) (a : Int) : Ck × Int :=
  let k := (c.node a).kind
  if k = 1 ∨ k = 19 then (c, 1)
  else if k = 2 then (c, 2)
  else if k = 3 then (c, 3)
  else if k = 4 then c.named a
  else if k = 21 then callK ex c a
  else if k = 5 then
    let p := c.named a
    let x := ex p.1 (c.kid a 0)
    (x.1.must (decide (p.2 = 4) && decide (x.2 = 1)) a, 1)
  else if k = 9 then
    let x := ex c (c.kid a 0)
    let y := ex x.1 (c.kid a 1)
    let t := binT (c.node a).name x.2 y.2
    (y.1.must (!decide (t = 0)) a, t)
  else
    let x := ex c (c.kid a 0)
    if k = 6 then (x.1.must (decide (x.2 = 3) || decide (x.2 = 4)) a, 1)
    else if k = 7 then (x.1.must (decide (x.2 = 1)) a, 1)
    else if k = 8 then (x.1.must (decide (x.2 = 2)) a, 2)
    else (x.1.must (decide (x.2 = 1)) a, 4)
def exprK : Nat → Ck → Int → Ck × Int
  | 0, c, _ => (c, 0)
  | n + 1, c, a => if c.e ≠ 0 then (c, 0) else ((tellsK (exprK n) c a).1.note a (tellsK (exprK n) c a).2, (tellsK (exprK n) c a).2)
def letK (ex : Ck → Int → Ck × Int) (c : Ck) (a : Int) : Ck :=
  let x := ex c (c.kid a 0)
  let c1 := x.1.must (!decide (x.2 = 0)) a
  let c2 := if 0 ≤ c1.find (c.node a).name then c1.fails 41 a else c1
  let c3 := if 24 ≤ c2.size then c2.fails 4 a else c2
  { (c3.slot a c3.size) with vars := c3.vars ++ [⟨(c.node a).name, x.2, c3.size⟩], more := c3.more.drop 1, size := c3.size + 1 }
def returnsK (ex : Ck → Int → Ck × Int) (c : Ck) (a : Int) : Ck :=
  let ret := (nth c.tree.fns c.fn.toNat).ret
  let l := (c.node a).l
  if decide (l.length = 1) ≠ (!decide (ret = 0)) then c.fails 43 a
  else if l.length = 1 then
    let x := ex c (c.kid a 0)
    x.1.must (decide (x.2 = ret)) a
  else c
def stmtsK (st : Ck → Int → Ck) : Ck → List Int → Ck
  | c, [] => c
  | c, a :: l => if c.e = 0 then stmtsK st (st c a) l else c
def blockK (st : Ck → Int → Ck) (c : Ck) (a : Int) : Ck :=
  let c1 := stmtsK st (c.noteF a) (c.node a).l
  { c1 with vars := c1.vars.take (min c.vars.length c1.vars.length), more := c1.vars.drop (min c.vars.length c1.vars.length) ++ c1.more }
def statementK : Nat → Ck → Int → Ck
  | 0, c, _ => c
  | n + 1, c0, a =>
    let c := c0.noteF a
    let k := (c.node a).kind
    if k = 10 then letK (exprK n) c a
    else if k = 11 then
      let p := c.named a
      let x := exprK n p.1 (c.kid a 0)
      x.1.must (decide (p.2 = x.2)) a
    else if k = 12 then
      let p := c.named a
      let x := exprK n p.1 (c.kid a 0)
      let y := exprK n x.1 (c.kid a 1)
      y.1.must (decide (p.2 = 4) && decide (x.2 = 1) && decide (y.2 = 1)) a
    else if k = 13 then (exprK n c (c.kid a 0)).1
    else if k = 14 then
      let x := exprK n c (c.kid a 0)
      x.1.must (!decide (x.2 = 4)) a
    else if k = 17 then returnsK (exprK n) c a
    else
      let x := exprK n c (c.kid a 0)
      stmtsK (blockK (statementK n)) (x.1.must (decide (x.2 = 2)) a) ((c.node a).l.drop 1)
/-- The parameters, one by one. -/
def paramsK (body : Int) : Ck → List GParam → Int → Ck
  | c, [], _ => c
  | c, p :: ps, i =>
    let c1 := if 0 ≤ c.find p.name then c.fails 41 body else c
    paramsK body { c1 with vars := c1.vars ++ [⟨p.name, p.ty, i⟩], more := c1.more.drop 1, size := c1.size + 1 } ps (i + 1)
def functionK (c : Ck) (k : Nat) : Ck :=
  let f := nth c.tree.fns k
  let c1 := paramsK f.body { c with fn := k, vars := [], more := [], size := 0 } f.params 0
  let c2 := if c1.e = 0 then blockK (statementK c.tree.nodes.length) c1 f.body else c1
  { c2 with size_ := c2.size_ ++ [c2.size], vars := [], more := [] }
/-- Names that are there two times. -/
def twiceK (x : GFunc) : Ck → List GFunc → Ck
  | c, [] => c
  | c, f :: l => twiceK x (if f.name = x.name then c.fails 41 x.body else c) l
def isMain (f : GFunc) : Bool := decide (f.name = (⟨#[109, 97, 105, 110]⟩ : ByteArray)) && decide ((f.params.length : Int) = 0) && decide (f.ret = 0)
def headsL (fns : List GFunc) : Ck → Bool → Nat → Nat → Ck × Bool
  | c, m, _, 0 => (c, m)
  | c, m, i, n + 1 => headsL fns (twiceK (nth fns i) c (fns.take i)) (m || isMain (nth fns i)) (i + 1) n
def headsK (c : Ck) : Ck :=
  let p := headsL c.tree.fns c false 0 c.tree.fns.length
  if p.2 = true then p.1 else p.1.fails 44 0
def functionsK : Ck → Nat → Nat → Ck
  | c, _, 0 => c
  | c, i, n + 1 => if c.e = 0 then functionsK (functionK c i) (i + 1) n else c
def ck0 (t : GTree) : Ck := ⟨t, t.nodes.map fun _ => 0, t.nodes.map fun _ => -1, t.nodes.map fun _ => 0, [], 0, [], [], 0, 0, 0⟩
def ckAll (t : GTree) : Ck := functionsK (headsK (ck0 t)) 0 t.fns.length
def prog0 : GProg := ⟨⟨[], []⟩, [], [], [], []⟩
def Ck.prog (c : Ck) : GProg := ⟨c.tree, c.types, c.slots, c.fns, c.size_⟩
def checkAll (t : GTree) : GProg × Int × Int := if (ckAll t).e ≠ 0 then (prog0, (ckAll t).at_, (ckAll t).e) else ((ckAll t).prog, 0, 0)
/-- P4.1. -/
def sourceF (s : ByteArray) : GProg × Int × Int :=
  if (parseAll s).2.2 ≠ 0 then (prog0, (parseAll s).2.1, (parseAll s).2.2)
  else
    let q := checkAll (parseAll s).1
    if q.2.2 = 44 then (prog0, 0, 44)
    else if q.2.2 ≠ 0 then (prog0, (nth (parseAll s).1.nodes q.2.1.toNat).line, q.2.2)
    else (q.1, 0, 0)
end Go.Gd

namespace Go.Proofs.YtbpmikjlfgfbmaaGreatDoor
open Go Go.Gd
def ckCells (c : Ck) : List AV := [slOf eGNode 5 c.tree.nodes, slOf eGFunc 5 c.tree.fns, .rs 1 c.types.length 1 c.types.length, .rs 2 c.slots.length 1 c.slots.length, .rs 3 c.fns.length 1 c.fns.length, .rs 4 c.size_.length 1 c.size_.length, rI c.fn, .rs 5 (c.vars.length + c.more.length) 3 c.vars.length, rI c.size, rI c.e, rI c.at_]
def encK (c : Ck) : List (Nat × Row) := [(0, .var 83 (ckCells c)), (1, .vec 3 1 (c.types.map eI)), (2, .vec 3 1 (c.slots.map eI)), (3, .vec 3 1 (c.fns.map eI)), (4, .vec 3 1 (c.size_.map eI)), (5, .vec 103 3 ((c.vars ++ c.more).map eGVar))]
attribute [go_sem] encK ckCells Ck.slot Ck.note Ck.noteF
structure CkIn (c : Ck) : Prop where
  tree : TreeOk c.tree
  types : c.types.length = c.tree.nodes.length
  slots : c.slots.length = c.tree.nodes.length
  fns : c.fns.length = c.tree.nodes.length
  size_ : c.size_.length ≤ 6
  flo : 0 ≤ c.fn
  fhi : c.fn < c.tree.fns.length
  vars : (c.vars.length : Int) ≤ c.size
  size : c.size ≤ 25
  room : c.e = 0 → c.size ≤ 24
theorem find_bd {α : Type} (f : α → ByteArray) (nm : ByteArray) : ∀ (l : List α) (i : Int), 0 ≤ i → (findI f nm l i = -1 ∧ ∀ v ∈ l, f v ≠ nm) ∨ (i ≤ findI f nm l i ∧ findI f nm l i < i + l.length)
  | [], i, _ => .inl ⟨rfl, fun v hv => by simp at hv⟩
  | v :: l, i, hi => by
    unfold findI
    by_cases h : f v = nm
    · rw [if_pos h]; exact .inr (by simp; omega)
    · rw [if_neg h]
      rcases find_bd f nm l (i + 1) (by omega) with ⟨h1, h2⟩ | h1
      · exact .inl ⟨h1, fun u hu => by
          rcases List.mem_cons.1 hu with rfl | hu
          · exact h
          · exact h2 u hu⟩
      · exact .inr (by simp; omega)
theorem drop_nth {α : Type} [Inhabited α] {l : List α} {i : Nat} (h : i < l.length) : l.drop i = nth l i :: l.drop (i + 1) := by
  rw [nth_get h]; exact List.drop_eq_getElem_cons h
set_option maxHeartbeats 1000000 in
set_option maxRecDepth 10000 in
theorem kfails_c (c : Ck) (e a : Int) : ACalls Tryz.prog 58 [pR, rI e, rI a] (encK c) (fun v l => v = .tup [] ∧ l = encK (c.fails e a)) := by
  refine entM Tryz.func58 Tryz.ntmps58 ?_
  (refine S ?_; try exact True.intro)
  (repeat' (first
    | refine awp_seq_k fun K hK => ?_
    | refine wkA ?_
    | (refine hK _ _ ?_; clear hK K)
    | (refine wcond (fun hc => ?_) (fun hc => ?_) <;> first | contradiction | (exfalso; omega) | skip)
    | refine wkB ?_
    | exact True.intro
    | (clear hK K)))
  · (refine retf [] ?_ ?_ <;> (try simp only [go_sem]))
    simp only [Ck.fails, if_pos hc, encK, ckCells]
  · (refine retf [] ?_ ?_ <;> (try simp only [go_sem]))
    simp only [Ck.fails, if_neg hc, encK, ckCells]
set_option maxHeartbeats 1000000 in
set_option maxRecDepth 10000 in
theorem kfind_c (c : Ck) (nm : ByteArray) (h : CkIn c) : ACalls Tryz.prog 59 [pR, rS nm] (encK c) (fun v l => v = rI (c.find nm) ∧ l = encK c) := by
  have h1 := h.vars
  have h2 := h.size
  refine entM Tryz.func59 Tryz.ntmps59 ?_
  (refine S ?_; try exact True.intro)
  (repeat' (first
    | refine awp_seq_k fun K hK => ?_
    | refine wkA ?_
    | (refine hK _ _ ?_; clear hK K)
    | (refine wcond (fun hc => ?_) (fun hc => ?_) <;> first | contradiction | (exfalso; omega) | skip)
    | refine wkB ?_
    | exact True.intro
    | (clear hK K)))
  have hKo := hK; clear hK
  refine awp_loop_inv (S := Nat) [(4, 22)] (fun k => k ≤ c.vars.length ∧ findI GVar.name nm (c.vars.drop k) k = c.find nm) (fun k => [(5, rI k)]) (fun _ => ⟨[0, 1, 2, 3, 4, 5], encK c⟩) (fun k => c.vars.length - k) 0 ⟨by omega, rfl⟩ (fle_at (by simp only [go_sem]) lle) ?_
  rintro k ⟨hk1, hk2⟩ Kr hKr
  (refine S ?_; try exact True.intro)
  by_cases hk : k < c.vars.length
  · rw [drop_nth hk] at hk2
    unfold findI at hk2
    have hap : nth (c.vars ++ c.more) k = nth c.vars k := nth_append hk
    (have W := hap; repeat' (first
    | refine awp_seq_k fun K hK => ?_
    | refine wkA ?_
    | (refine hK _ _ ?_; clear hK K)
    | (refine wcond (fun hc => ?_) (fun hc => ?_) <;> first | contradiction | (exfalso; omega) | skip)
    | (refine hKo _ _ ?_)
    | refine wkB ?_
    | exact True.intro
    | (clear hK K))); all_goals (try clear W)
    · (refine retf [.tmp 4] ?_ ?_ <;> (try simp only [go_sem]))
      rw [if_pos hc] at hk2
      rw [← hk2]
    · rw [if_neg hc] at hk2
      refine hKr _ _ (next_mk (k + 1) ⟨by omega, by rw [← hk2]; rfl⟩ (by (try simp only); omega) (by simp only [go_sem]) lle)
  · rw [List.drop_eq_nil_of_le (by omega)] at hk2
    (repeat' (first
    | refine awp_seq_k fun K hK => ?_
    | refine wkA ?_
    | (refine hK _ _ ?_; clear hK K)
    | (refine wcond (fun hc => ?_) (fun hc => ?_) <;> first | contradiction | (exfalso; omega) | skip)
    | (refine hKo _ _ ?_)
    | refine wkB ?_
    | exact True.intro
    | (clear hK K)))
    (refine retf [.tmp 4] ?_ ?_ <;> (try simp only [go_sem]))
    rw [← hk2]; rfl
set_option maxHeartbeats 1000000 in
set_option maxRecDepth 10000 in
theorem kmust_c (c : Ck) (b : Bool) (a : Int) : ACalls Tryz.prog 88 [pR, rB b, rI a] (encK c) (fun v l => v = .tup [] ∧ l = encK (c.must b a)) := by
  refine entM Tryz.func88 Tryz.ntmps88 ?_
  (refine S ?_; try exact True.intro)
  (repeat' (first
    | refine awp_seq_k fun K hK => ?_
    | refine wkA ?_
    | (refine hK _ _ ?_; clear hK K)
    | (refine wcond (fun hc => ?_) (fun hc => ?_) <;> first | contradiction | (exfalso; omega) | skip)
    | refine cm (kfails_c c 42 a) ?_
    | refine wkB ?_
    | exact True.intro
    | (clear hK K)))
  · (refine retf [] ?_ ?_ <;> (try simp only [go_sem]))
    simp only [Ck.must, hc, Bool.false_eq_true, if_false, encK, ckCells]
  · (refine retf [] ?_ ?_ <;> (try simp only [go_sem]))
    simp only [Ck.must, hc, if_true, encK, ckCells]
theorem ck_node {c : Ck} (h : CkIn c) {a : Int} (h0 : 0 ≤ a) (h1 : a < c.tree.nodes.length) : Shape c.tree.nodes (c.node a) ∧ ∀ x ∈ (c.node a).l, 0 ≤ x ∧ x.toNat < a.toNat := by
  have := h.tree.shape a.toNat (by omega)
  exact ⟨this.1, this.2.1⟩
theorem ck_len {c : Ck} (h : CkIn c) {a : Int} (h0 : 0 ≤ a) (h1 : a < c.tree.nodes.length) : (c.node a).l.length ≤ 300 := by
  obtain ⟨_, _, lo, hc⟩ := h.tree.shape a.toNat (by omega)
  have := hc.len
  have := h.tree.many
  show (nth c.tree.nodes a.toNat).l.length ≤ 300
  omega
set_option maxHeartbeats 1000000 in
set_option maxRecDepth 10000 in
theorem knamed_c (c : Ck) (a : Int) (h : CkIn c) (h0 : 0 ≤ a) (h1 : a < c.tree.nodes.length) : ACalls Tryz.prog 86 [pR, rI a] (encK c) (fun v l => v = rI (c.named a).2 ∧ l = encK (c.named a).1) := by
  have hv := h.vars
  have hz := h.size
  have hsl := h.slots
  have hfd := find_bd GVar.name (c.node a).name c.vars 0 (by omega)
  have hfc := kfind_c c (c.node a).name h
  have hfa := kfails_c c 40 a
  have hap : 0 ≤ c.find (c.node a).name → nth (c.vars ++ c.more) (c.find (c.node a).name).toNat = nth c.vars (c.find (c.node a).name).toNat := fun h => nth_append (by
    have hfd : (c.find (c.node a).name = -1 ∧ _) ∨ (0 ≤ c.find (c.node a).name ∧ c.find (c.node a).name < 0 + c.vars.length) := hfd
    omega)
  have hfd : (c.find (c.node a).name = -1 ∧ _) ∨ (0 ≤ c.find (c.node a).name ∧ c.find (c.node a).name < 0 + c.vars.length) := hfd
  unfold Ck.named
  by_cases hf : c.find (c.node a).name < 0
  · rw [if_pos hf]
    refine entM Tryz.func86 Tryz.ntmps86 ?_
    (refine S ?_; try exact True.intro)
    (repeat' (first
    | refine awp_seq_k fun K hK => ?_
    | refine wkA ?_
    | refine dE 5 [0, 1, 2, 3, 4, 5, 6, 7, 8, 9, 10, 11, 12, 13, 14, 15] mixed ?_
    | (refine hK _ _ ?_; clear hK K)
    | (refine wcond (fun hc => ?_) (fun hc => ?_) <;> first | contradiction | (exfalso; omega) | skip)
    | refine cm (hfc) ?_
    | refine cm (hfa) ?_
    | refine wkB ?_
    | exact True.intro
    | (clear hK K)))
    (refine retf [.tmp 4] ?_ ?_ <;> (try simp only [go_sem]))
  · rw [if_neg hf]
    have hap := hap (by omega)
    refine entM Tryz.func86 Tryz.ntmps86 ?_
    (refine S ?_; try exact True.intro)
    (have W := hap; repeat' (first
    | refine awp_seq_k fun K hK => ?_
    | refine wkA ?_
    | refine dE 5 [0, 1, 2, 3, 4, 5, 6, 7, 8, 9, 10, 11, 12, 13, 14, 15] mixed ?_
    | (refine hK _ _ ?_; clear hK K)
    | (refine wcond (fun hc => ?_) (fun hc => ?_) <;> first | contradiction | (exfalso; omega) | skip)
    | refine cm (hfc) ?_
    | refine wkB ?_
    | exact True.intro
    | (clear hK K))); all_goals (try clear W)
    (refine retf [.tmp 4] ?_ ?_ <;> (try simp only [go_sem]))
end Go.Proofs.YtbpmikjlfgfbmaaGreatDoor

namespace Go.Proofs.YtbpmikjlfgfbmaaGreatDoor
open Go Go.Gd
structure Ev (c c' : Ck) : Prop where
  tree : c'.tree = c.tree
  fn : c'.fn = c.fn
  vars : c'.vars = c.vars
  more : c'.more = c.more
  size : c'.size = c.size
  size_ : c'.size_ = c.size_
  types : c'.types.length = c.types.length
  slots : c'.slots.length = c.slots.length
  fns : c'.fns.length = c.fns.length
  err : c.e ≠ 0 → c'.e ≠ 0
theorem Ev.refl (c : Ck) : Ev c c := ⟨rfl, rfl, rfl, rfl, rfl, rfl, rfl, rfl, rfl, id⟩
theorem Ev.trans {a b c : Ck} (h : Ev a b) (k : Ev b c) : Ev a c := ⟨k.tree.trans h.tree, k.fn.trans h.fn, k.vars.trans h.vars, k.more.trans h.more, k.size.trans h.size, k.size_.trans h.size_, k.types.trans h.types, k.slots.trans h.slots, k.fns.trans h.fns, fun e => k.err (h.err e)⟩
theorem CkIn.ev {c c' : Ck} (h : CkIn c) (s : Ev c c') : CkIn c' where
  tree := by rw [s.tree]; exact h.tree
  types := by rw [s.types, s.tree]; exact h.types
  slots := by rw [s.slots, s.tree]; exact h.slots
  fns := by rw [s.fns, s.tree]; exact h.fns
  size_ := by rw [s.size_]; exact h.size_
  flo := by rw [s.fn]; exact h.flo
  fhi := by rw [s.fn, s.tree]; exact h.fhi
  vars := by rw [s.vars, s.size]; exact h.vars
  size := by rw [s.size]; exact h.size
  room := fun e => by rw [s.size]; exact h.room (Classical.byContradiction fun h => s.err h e)
theorem Ev.node {c c' : Ck} (s : Ev c c') (a : Int) : c'.node a = c.node a := by unfold Ck.node; rw [s.tree]
theorem Ev.kid {c c' : Ck} (s : Ev c c') (a : Int) (i : Nat) : c'.kid a i = c.kid a i := by unfold Ck.kid; rw [s.node]
theorem ev_fails (c : Ck) {e : Int} (he : e ≠ 0) (a : Int) : Ev c (c.fails e a) := by
  unfold Ck.fails
  split
  · exact ⟨rfl, rfl, rfl, rfl, rfl, rfl, rfl, rfl, rfl, fun _ => he⟩
  · exact .refl c
theorem ev_must (c : Ck) (b : Bool) (a : Int) : Ev c (c.must b a) := by
  unfold Ck.must
  split
  · exact .refl c
  · exact ev_fails c (by decide) a
theorem ev_slot (c : Ck) (a s : Int) : Ev c (c.slot a s) := ⟨rfl, rfl, rfl, rfl, rfl, rfl, rfl, by simp [Ck.slot], rfl, id⟩
theorem ev_note (c : Ck) (a t : Int) : Ev c (c.note a t) := ⟨rfl, rfl, rfl, rfl, rfl, rfl, by simp [Ck.note], rfl, by simp [Ck.note], id⟩
theorem ev_noteF (c : Ck) (a : Int) : Ev c (c.noteF a) := ⟨rfl, rfl, rfl, rfl, rfl, rfl, rfl, rfl, by simp [Ck.noteF], id⟩
theorem ev_named (c : Ck) (a : Int) : Ev c (c.named a).1 := by
  unfold Ck.named
  split
  · exact ev_fails c (by decide) a
  · exact ev_slot c a _
theorem ev_args {ex : Ck → Int → Ck × Int} (hex : ∀ c a, Ev c (ex c a).1) : ∀ (l : List Int) (c : Ck) (ts : List Int), Ev c (argsK ex c l ts).1
  | [], c, ts => by unfold argsK; exact .refl c
  | a :: l, c, ts => by
    unfold argsK
    split
    · exact (hex c a).trans (ev_args hex l _ _)
    · exact .refl c
theorem ev_types (a : Int) : ∀ (ts : List Int) (ps : List GParam) (c : Ck), Ev c (typesK a c ts ps)
  | [], _, c => by unfold typesK; exact .refl c
  | _ :: _, [], c => by unfold typesK; exact .refl c
  | t :: ts, p :: ps, c => by
    unfold typesK
    split
    · exact (ev_must c _ a).trans (ev_types a ts ps _)
    · exact .refl c
theorem ev_call {ex : Ck → Int → Ck × Int} (hex : ∀ c a, Ev c (ex c a).1) (c : Ck) (a : Int) : Ev c (callK ex c a).1 := by
  unfold callK
  split
  · exact ev_fails c (by decide) a
  · refine Ev.trans ?_ (ev_types _ _ _ _)
    split
    · exact (ev_args hex _ _ _).trans (ev_fails _ (by decide) a)
    · exact ev_args hex _ _ _
theorem ev_tells {ex : Ck → Int → Ck × Int} (hex : ∀ c a, Ev c (ex c a).1) (c : Ck) (a : Int) : Ev c (tellsK ex c a).1 := by
  unfold tellsK
  simp only
  repeat' split
  all_goals first
    | exact .refl c
    | exact ev_named c a
    | exact ev_call hex c a
    | exact ((ev_named c a).trans (hex _ _)).trans (ev_must _ _ _)
    | exact ((hex c _).trans (hex _ _)).trans (ev_must _ _ _)
    | exact (hex c _).trans (ev_must _ _ _)
theorem ev_expr : ∀ (n : Nat) (c : Ck) (a : Int), Ev c (exprK n c a).1
  | 0, c, a => by unfold exprK; exact .refl c
  | n + 1, c, a => by
    unfold exprK
    split
    · exact .refl c
    · exact (ev_tells (ev_expr n) c a).trans (ev_note _ _ _)
def KExprC (n : Nat) : Prop := ∀ (c : Ck) (a : Int), CkIn c → 0 ≤ a → a < c.tree.nodes.length → a.toNat < n → isR (c.node a).kind → ACalls Tryz.prog 87 [pR, rI a] (encK c) (fun v l => v = rI (exprK n c a).2 ∧ l = encK (exprK n c a).1)
def KTellsC (n : Nat) : Prop := ∀ (c : Ck) (a : Int), CkIn c → c.e = 0 → 0 ≤ a → a < c.tree.nodes.length → a.toNat ≤ n → isR (c.node a).kind → ACalls Tryz.prog 94 [pR, rI a] (encK c) (fun v l => v = rI (tellsK (exprK n) c a).2 ∧ l = encK (tellsK (exprK n) c a).1)
def KCallC (n : Nat) : Prop := ∀ (c : Ck) (a : Int), CkIn c → 0 ≤ a → a < c.tree.nodes.length → a.toNat ≤ n → (c.node a).kind = 21 → ACalls Tryz.prog 97 [pR, rI a] (encK c) (fun v l => v = rI (callK (exprK n) c a).2 ∧ l = encK (callK (exprK n) c a).1)
end Go.Proofs.YtbpmikjlfgfbmaaGreatDoor

namespace Go.Proofs.YtbpmikjlfgfbmaaGreatDoor
open Go Go.Gd
set_option maxHeartbeats 1000000 in
set_option maxRecDepth 10000 in
theorem kbin_c (s : ByteArray) (a b : Int) : PCall Tryz.prog 98 [rS s, rI a, rI b] (rI (binT s a b)) := by
  refine entP Tryz.func98 Tryz.ntmps98 ?_
  (repeat' (first
    | refine awp_seq_k fun K hK => ?_
    | refine wkA ?_
    | (refine hK _ _ ?_; clear hK K)
    | (refine wcond (fun hc => ?_) (fun hc => ?_) <;> first | contradiction | (exfalso; omega) | skip)
    | refine wkB ?_
    | exact True.intro
    | (clear hK K)))
  all_goals (refine retf [.tmp 6] ?_ ?_ <;> (try simp only [go_sem]))
  all_goals simp_all [binT]
  all_goals omega
set_option maxHeartbeats 1000000 in
set_option maxRecDepth 10000 in
theorem kexpr_c (n : Nat) (ht : KTellsC n) : KExprC (n + 1) := by
  intro c a h h0 h1 hn hk
  have hz := h.size
  have hv := h.vars
  by_cases he : c.e = 0
  · have htc := ht c a h he h0 h1 (by omega) hk
    have s := ev_tells (ev_expr n) c a
    have h2 := h.ev s
    have l1 := h2.types
    have l2 := h2.fns
    rw [s.tree] at l1 l2
    rw [exprK, if_neg (by omega)]
    refine entM Tryz.func87 Tryz.ntmps87 ?_
    (refine S ?_; try exact True.intro)
    (repeat' (first
    | refine awp_seq_k fun K hK => ?_
    | refine wkA ?_
    | refine dE 5 [0, 1, 2, 3, 4, 5, 6, 7, 8, 9, 10, 11] mixed ?_
    | (refine hK _ _ ?_; clear hK K)
    | (refine wcond (fun hc => ?_) (fun hc => ?_) <;> first | contradiction | (exfalso; omega) | skip)
    | refine cm (htc) ?_
    | refine wkB ?_
    | exact True.intro
    | (clear hK K)))
    (refine retf [.tmp 4] ?_ ?_ <;> (try simp only [go_sem]))
  · rw [exprK, if_pos he]
    refine entM Tryz.func87 Tryz.ntmps87 ?_
    (refine S ?_; try exact True.intro)
    (repeat' (first
    | refine awp_seq_k fun K hK => ?_
    | refine wkA ?_
    | refine dE 5 [0, 1, 2, 3, 4, 5, 6, 7, 8, 9, 10, 11] mixed ?_
    | (refine hK _ _ ?_; clear hK K)
    | (refine wcond (fun hc => ?_) (fun hc => ?_) <;> first | contradiction | (exfalso; omega) | skip)
    | refine wkB ?_
    | exact True.intro
    | (clear hK K)))
    (refine retf [.tmp 4] ?_ ?_ <;> (try simp only [go_sem]))
set_option maxHeartbeats 4000000 in
set_option maxRecDepth 10000 in
theorem ktells_c (n : Nat) (hx : KExprC n) (hcall : KCallC n) : KTellsC n := by
  intro c a h he h0 h1 hn hk
  have hz := h.size
  have hv := h.vars
  obtain ⟨sh, hkid⟩ := ck_node h h0 h1
  have hmem : ∀ i, i < (c.node a).l.length → (c.kid a i).toNat < n ∧ 0 ≤ c.kid a i ∧ c.kid a i < c.tree.nodes.length := fun i hi => by
    have hm : c.kid a i ∈ (c.node a).l := nth_mem hi
    have := hkid _ hm
    omega
  have ev0 := ev_named c a
  have hn0 := h.ev ev0
  have hnm := knamed_c c a h h0 h1
  unfold isR isE at hk
  have e19 : (c.node a).kind = 1 ∨ (c.node a).kind = 19 ∨ (c.node a).kind = 2 ∨ (c.node a).kind = 3 ∨ (c.node a).kind = 4 ∨ (c.node a).kind = 21 ∨ (c.node a).kind = 5 ∨ (c.node a).kind = 9 ∨ (c.node a).kind = 6 ∨ (c.node a).kind = 7 ∨ (c.node a).kind = 8 ∨ (c.node a).kind = 20 := by omega
  rcases e19 with k | k | k | k | k | k | k | k | k | k | k | k
  · have hk' : (nth c.tree.nodes a.toNat).kind = 1 := k
    rw [show tellsK (exprK n) c a = (c, 1) from by unfold tellsK; rw [k]; rfl]
    refine entM Tryz.func94 Tryz.ntmps94 ?_
    (refine S ?_; try exact True.intro)
    (have W := hk'; repeat' (first
    | refine awp_seq_k fun K hK => ?_
    | refine wkA ?_
    | (refine hK _ _ ?_; clear hK K)
    | (refine wcond (fun hc => ?_) (fun hc => ?_) <;> first | contradiction | (exfalso; omega) | skip)
    | refine wkB ?_
    | exact True.intro
    | (clear hK K))); all_goals (try clear W)
    (refine retd [.tmp 4] ?_; try simp only [go_sem])
  · have hk' : (nth c.tree.nodes a.toNat).kind = 19 := k
    rw [show tellsK (exprK n) c a = (c, 1) from by unfold tellsK; rw [k]; rfl]
    refine entM Tryz.func94 Tryz.ntmps94 ?_
    (refine S ?_; try exact True.intro)
    (have W := hk'; repeat' (first
    | refine awp_seq_k fun K hK => ?_
    | refine wkA ?_
    | (refine hK _ _ ?_; clear hK K)
    | (refine wcond (fun hc => ?_) (fun hc => ?_) <;> first | contradiction | (exfalso; omega) | skip)
    | refine wkB ?_
    | exact True.intro
    | (clear hK K))); all_goals (try clear W)
    (refine retd [.tmp 4] ?_; try simp only [go_sem])
  · have hk' : (nth c.tree.nodes a.toNat).kind = 2 := k
    rw [show tellsK (exprK n) c a = (c, 2) from by unfold tellsK; rw [k]; rfl]
    refine entM Tryz.func94 Tryz.ntmps94 ?_
    (refine S ?_; try exact True.intro)
    (have W := hk'; repeat' (first
    | refine awp_seq_k fun K hK => ?_
    | refine wkA ?_
    | (refine hK _ _ ?_; clear hK K)
    | (refine wcond (fun hc => ?_) (fun hc => ?_) <;> first | contradiction | (exfalso; omega) | skip)
    | refine wkB ?_
    | exact True.intro
    | (clear hK K))); all_goals (try clear W)
    (refine retd [.tmp 4] ?_; try simp only [go_sem])
  · have hk' : (nth c.tree.nodes a.toNat).kind = 3 := k
    rw [show tellsK (exprK n) c a = (c, 3) from by unfold tellsK; rw [k]; rfl]
    refine entM Tryz.func94 Tryz.ntmps94 ?_
    (refine S ?_; try exact True.intro)
    (have W := hk'; repeat' (first
    | refine awp_seq_k fun K hK => ?_
    | refine wkA ?_
    | (refine hK _ _ ?_; clear hK K)
    | (refine wcond (fun hc => ?_) (fun hc => ?_) <;> first | contradiction | (exfalso; omega) | skip)
    | refine wkB ?_
    | exact True.intro
    | (clear hK K))); all_goals (try clear W)
    (refine retd [.tmp 4] ?_; try simp only [go_sem])
  · have hk' : (nth c.tree.nodes a.toNat).kind = 4 := k
    rw [show tellsK (exprK n) c a = c.named a from by unfold tellsK; rw [k]; rfl]
    refine entM Tryz.func94 Tryz.ntmps94 ?_
    (refine S ?_; try exact True.intro)
    (have W := hk'; repeat' (first
    | refine awp_seq_k fun K hK => ?_
    | refine wkA ?_
    | (refine hK _ _ ?_; clear hK K)
    | (refine wcond (fun hc => ?_) (fun hc => ?_) <;> first | contradiction | (exfalso; omega) | skip)
    | refine cm (hnm) ?_
    | refine wkB ?_
    | exact True.intro
    | (clear hK K))); all_goals (try clear W)
    (refine retd [.tmp 4] ?_; try simp only [go_sem])
  · have hk' : (nth c.tree.nodes a.toNat).kind = 21 := k
    rw [show tellsK (exprK n) c a = callK (exprK n) c a from by unfold tellsK; rw [k]; rfl]
    have hcl := hcall c a h h0 h1 hn k
    refine entM Tryz.func94 Tryz.ntmps94 ?_
    (refine S ?_; try exact True.intro)
    (have W := hk'; repeat' (first
    | refine awp_seq_k fun K hK => ?_
    | refine wkA ?_
    | (refine hK _ _ ?_; clear hK K)
    | (refine wcond (fun hc => ?_) (fun hc => ?_) <;> first | contradiction | (exfalso; omega) | skip)
    | refine cm (hcl) ?_
    | refine wkB ?_
    | exact True.intro
    | (clear hK K))); all_goals (try clear W)
    (refine retd [.tmp 4] ?_; try simp only [go_sem])
  · have hk' : (nth c.tree.nodes a.toNat).kind = 5 := k
    obtain ⟨x, hl, hxe⟩ := sh.one (by omega)
    have hl1 : (c.node a).l.length = 1 := by rw [hl]; rfl
    have hl' : (nth c.tree.nodes a.toNat).l.length = 1 := hl1
    obtain ⟨g1, g2, g3⟩ := hmem 0 (by omega)
    have hkx : isR (c.node (c.kid a 0)).kind := by
      have : c.kid a 0 = x := by unfold Ck.kid; rw [hl]; rfl
      rw [this]; exact .inl hxe
    have hex := hx (c.named a).1 (c.kid a 0) hn0 g2 (by rw [ev0.tree]; exact g3) g1 (by rw [ev0.node]; exact hkx)
    have hm := kmust_c (exprK n (c.named a).1 (c.kid a 0)).1 (decide ((c.named a).2 = 4) && decide ((exprK n (c.named a).1 (c.kid a 0)).2 = 1)) a
    rw [show tellsK (exprK n) c a = ((exprK n (c.named a).1 (c.kid a 0)).1.must (decide ((c.named a).2 = 4) && decide ((exprK n (c.named a).1 (c.kid a 0)).2 = 1)) a, 1) from by unfold tellsK; rw [k]; rfl]
    refine entM Tryz.func94 Tryz.ntmps94 ?_
    (refine S ?_; try exact True.intro)
    (have W := hk'; repeat' (first
    | refine awp_seq_k fun K hK => ?_
    | refine wkA ?_
    | (refine hK _ _ ?_; clear hK K)
    | (refine wcond (fun hc => ?_) (fun hc => ?_) <;> first | contradiction | (exfalso; omega) | skip)
    | refine cm (hnm) ?_
    | refine cm (hex) ?_
    | refine cm (hm) ?_
    | refine wkB ?_
    | exact True.intro
    | (clear hK K))); all_goals (try clear W)
    (refine retd [.tmp 4] ?_; try simp only [go_sem])
  · have hk' : (nth c.tree.nodes a.toNat).kind = 9 := k
    obtain ⟨x, y, hl, hxe, hye⟩ := sh.two (by omega)
    have hl1 : (c.node a).l.length = 2 := by rw [hl]; rfl
    have hl' : (nth c.tree.nodes a.toNat).l.length = 2 := hl1
    obtain ⟨g1, g2, g3⟩ := hmem 0 (by omega)
    obtain ⟨g4, g5, g6⟩ := hmem 1 (by omega)
    have hkx : isR (c.node (c.kid a 0)).kind := by
      have : c.kid a 0 = x := by unfold Ck.kid; rw [hl]; rfl
      rw [this]; exact .inl hxe
    have hky : isR (c.node (c.kid a 1)).kind := by
      have : c.kid a 1 = y := by unfold Ck.kid; rw [hl]; rfl
      rw [this]; exact .inl hye
    have ev1 := ev_expr n c (c.kid a 0)
    have hex := hx c (c.kid a 0) h g2 g3 g1 hkx
    have hey := hx (exprK n c (c.kid a 0)).1 (c.kid a 1) (h.ev ev1) g5 (by rw [ev1.tree]; exact g6) g4 (by rw [ev1.node]; exact hky)
    have hb := kbin_c (c.node a).name (exprK n c (c.kid a 0)).2 (exprK n (exprK n c (c.kid a 0)).1 (c.kid a 1)).2
    have hm := kmust_c (exprK n (exprK n c (c.kid a 0)).1 (c.kid a 1)).1 (!decide (binT (c.node a).name (exprK n c (c.kid a 0)).2 (exprK n (exprK n c (c.kid a 0)).1 (c.kid a 1)).2 = 0)) a
    rw [show tellsK (exprK n) c a = ((exprK n (exprK n c (c.kid a 0)).1 (c.kid a 1)).1.must (!decide (binT (c.node a).name (exprK n c (c.kid a 0)).2 (exprK n (exprK n c (c.kid a 0)).1 (c.kid a 1)).2 = 0)) a, binT (c.node a).name (exprK n c (c.kid a 0)).2 (exprK n (exprK n c (c.kid a 0)).1 (c.kid a 1)).2) from by unfold tellsK; rw [k]; rfl]
    refine entM Tryz.func94 Tryz.ntmps94 ?_
    (refine S ?_; try exact True.intro)
    (have W := hk'; repeat' (first
    | refine awp_seq_k fun K hK => ?_
    | refine wkA ?_
    | (refine hK _ _ ?_; clear hK K)
    | (refine wcond (fun hc => ?_) (fun hc => ?_) <;> first | contradiction | (exfalso; omega) | skip)
    | refine cm (hex) ?_
    | refine cm (hey) ?_
    | refine cp (hb) ?_
    | refine cm (hm) ?_
    | refine wkB ?_
    | exact True.intro
    | (clear hK K))); all_goals (try clear W)
    (refine retd [.tmp 4] ?_; try simp only [go_sem])
  · have hk' : (nth c.tree.nodes a.toNat).kind = 6 := k
    obtain ⟨x, hl, hxe⟩ := sh.one (by omega)
    have hl1 : (c.node a).l.length = 1 := by rw [hl]; rfl
    have hl' : (nth c.tree.nodes a.toNat).l.length = 1 := hl1
    obtain ⟨g1, g2, g3⟩ := hmem 0 (by omega)
    have hkx : isR (c.node (c.kid a 0)).kind := by
      have : c.kid a 0 = x := by unfold Ck.kid; rw [hl]; rfl
      rw [this]; exact .inl hxe
    have hex := hx c (c.kid a 0) h g2 g3 g1 hkx
    have hm := kmust_c (exprK n c (c.kid a 0)).1 (decide ((exprK n c (c.kid a 0)).2 = 3) || decide ((exprK n c (c.kid a 0)).2 = 4)) a
    rw [show tellsK (exprK n) c a = ((exprK n c (c.kid a 0)).1.must (decide ((exprK n c (c.kid a 0)).2 = 3) || decide ((exprK n c (c.kid a 0)).2 = 4)) a, 1) from by unfold tellsK; rw [k]; rfl]
    refine entM Tryz.func94 Tryz.ntmps94 ?_
    (refine S ?_; try exact True.intro)
    (have W := hk'; repeat' (first
    | refine awp_seq_k fun K hK => ?_
    | refine wkA ?_
    | (refine hK _ _ ?_; clear hK K)
    | (refine wcond (fun hc => ?_) (fun hc => ?_) <;> first | contradiction | (exfalso; omega) | skip)
    | refine cm (hex) ?_
    | refine cm (hm) ?_
    | refine wkB ?_
    | exact True.intro
    | (clear hK K))); all_goals (try clear W)
    (refine retd [.tmp 4] ?_; try simp only [go_sem])
  · have hk' : (nth c.tree.nodes a.toNat).kind = 7 := k
    obtain ⟨x, hl, hxe⟩ := sh.one (by omega)
    have hl1 : (c.node a).l.length = 1 := by rw [hl]; rfl
    have hl' : (nth c.tree.nodes a.toNat).l.length = 1 := hl1
    obtain ⟨g1, g2, g3⟩ := hmem 0 (by omega)
    have hkx : isR (c.node (c.kid a 0)).kind := by
      have : c.kid a 0 = x := by unfold Ck.kid; rw [hl]; rfl
      rw [this]; exact .inl hxe
    have hex := hx c (c.kid a 0) h g2 g3 g1 hkx
    have hm := kmust_c (exprK n c (c.kid a 0)).1 (decide ((exprK n c (c.kid a 0)).2 = 1)) a
    rw [show tellsK (exprK n) c a = ((exprK n c (c.kid a 0)).1.must (decide ((exprK n c (c.kid a 0)).2 = 1)) a, 1) from by unfold tellsK; rw [k]; rfl]
    refine entM Tryz.func94 Tryz.ntmps94 ?_
    (refine S ?_; try exact True.intro)
    (have W := hk'; repeat' (first
    | refine awp_seq_k fun K hK => ?_
    | refine wkA ?_
    | (refine hK _ _ ?_; clear hK K)
    | (refine wcond (fun hc => ?_) (fun hc => ?_) <;> first | contradiction | (exfalso; omega) | skip)
    | refine cm (hex) ?_
    | refine cm (hm) ?_
    | refine wkB ?_
    | exact True.intro
    | (clear hK K))); all_goals (try clear W)
    (refine retd [.tmp 4] ?_; try simp only [go_sem])
  · have hk' : (nth c.tree.nodes a.toNat).kind = 8 := k
    obtain ⟨x, hl, hxe⟩ := sh.one (by omega)
    have hl1 : (c.node a).l.length = 1 := by rw [hl]; rfl
    have hl' : (nth c.tree.nodes a.toNat).l.length = 1 := hl1
    obtain ⟨g1, g2, g3⟩ := hmem 0 (by omega)
    have hkx : isR (c.node (c.kid a 0)).kind := by
      have : c.kid a 0 = x := by unfold Ck.kid; rw [hl]; rfl
      rw [this]; exact .inl hxe
    have hex := hx c (c.kid a 0) h g2 g3 g1 hkx
    have hm := kmust_c (exprK n c (c.kid a 0)).1 (decide ((exprK n c (c.kid a 0)).2 = 2)) a
    rw [show tellsK (exprK n) c a = ((exprK n c (c.kid a 0)).1.must (decide ((exprK n c (c.kid a 0)).2 = 2)) a, 2) from by unfold tellsK; rw [k]; rfl]
    refine entM Tryz.func94 Tryz.ntmps94 ?_
    (refine S ?_; try exact True.intro)
    (have W := hk'; repeat' (first
    | refine awp_seq_k fun K hK => ?_
    | refine wkA ?_
    | (refine hK _ _ ?_; clear hK K)
    | (refine wcond (fun hc => ?_) (fun hc => ?_) <;> first | contradiction | (exfalso; omega) | skip)
    | refine cm (hex) ?_
    | refine cm (hm) ?_
    | refine wkB ?_
    | exact True.intro
    | (clear hK K))); all_goals (try clear W)
    (refine retd [.tmp 4] ?_; try simp only [go_sem])
  · have hk' : (nth c.tree.nodes a.toNat).kind = 20 := k
    obtain ⟨x, hl, hxe⟩ := sh.one (by omega)
    have hl1 : (c.node a).l.length = 1 := by rw [hl]; rfl
    have hl' : (nth c.tree.nodes a.toNat).l.length = 1 := hl1
    obtain ⟨g1, g2, g3⟩ := hmem 0 (by omega)
    have hkx : isR (c.node (c.kid a 0)).kind := by
      have : c.kid a 0 = x := by unfold Ck.kid; rw [hl]; rfl
      rw [this]; exact .inl hxe
    have hex := hx c (c.kid a 0) h g2 g3 g1 hkx
    have hm := kmust_c (exprK n c (c.kid a 0)).1 (decide ((exprK n c (c.kid a 0)).2 = 1)) a
    rw [show tellsK (exprK n) c a = ((exprK n c (c.kid a 0)).1.must (decide ((exprK n c (c.kid a 0)).2 = 1)) a, 4) from by unfold tellsK; rw [k]; rfl]
    refine entM Tryz.func94 Tryz.ntmps94 ?_
    (refine S ?_; try exact True.intro)
    (have W := hk'; repeat' (first
    | refine awp_seq_k fun K hK => ?_
    | refine wkA ?_
    | (refine hK _ _ ?_; clear hK K)
    | (refine wcond (fun hc => ?_) (fun hc => ?_) <;> first | contradiction | (exfalso; omega) | skip)
    | refine cm (hex) ?_
    | refine cm (hm) ?_
    | refine wkB ?_
    | exact True.intro
    | (clear hK K))); all_goals (try clear W)
    (refine retd [.tmp 4] ?_; try simp only [go_sem])
end Go.Proofs.YtbpmikjlfgfbmaaGreatDoor
