/- The laws of eval: what they share. The laws of eval: the document's example. Rows of numbers that are the same. The law EvalGets: what it says is so. No conditions. -/
import Derived.Test.YtbpmikjlfgfbmaaGreatDoorEv6
import Derived.Test.YtbpmikjlfgfbmaaGreatDoorGdX
import Derived.Test.YtbpmikjlfgfbmaaGreatDoorGdT
import Derived.Test.YtbpmikjlfgfbmaaGreatDoorL3
import Derived.Test.YtbpmikjlfgfbmaaGreatDoorCk2
set_option linter.all false
namespace Go.Gd
open Go
@[go_sem] def eMem (x : GMem) : List AV := [slOf eGValue 3 x.slots, slOf eLI 1 x.heap]
def shortF (s : ByteArray) : ByteArray := if 700 < s.size then s.extract 0 700 else s
def cutV (v : GValue) : GValue := if 60 < v.s.size then ⟨v.ty, v.n, v.s.extract 0 60⟩ else v
def fewS (l : List GValue) : List GValue := (l.take 30).map cutV
def fewH (l : List (List Int)) : List (List Int) := (l.take 20).map fun x => x.take 20
theorem short_size (s : ByteArray) : (shortF s).size ≤ 1000000 := by
  unfold shortF
  split
  · rw [ByteArray.size_extract]; omega
  · omega
theorem fewS_len (l : List GValue) : (fewS l).length ≤ 30 := by simp [fewS]; omega
theorem fewH_len (l : List (List Int)) : (fewH l).length ≤ 20 := by simp [fewH]; omega
end Go.Gd
namespace Go.Proofs.YtbpmikjlfgfbmaaGreatDoor
open Go Go.Gd
set_option maxHeartbeats 4000000
set_option maxRecDepth 10000
theorem short_c (s : ByteArray) : PCall Tryz.prog 10 [rS s] (rS (shortF s)) := by
  refine entP Tryz.func10 Tryz.ntmps10 ?_
  (repeat' (first
    | refine awp_seq_k fun K hK => ?_
    | refine wkA ?_
    | (refine hK _ _ ?_; clear hK K)
    | (refine wcond (fun hc => ?_) (fun hc => ?_) <;> first | contradiction | (exfalso; omega) | skip)
    | refine wkB ?_
    | exact True.intro
    | (clear hK K)))
  · (refine retd [.tmp 2] ?_; try simp only [go_sem])
    unfold shortF
    rw [if_pos (by omega)]
  · (refine retd [.tmp 2] ?_; try simp only [go_sem])
    unfold shortF
    rw [if_neg (by omega)]
theorem few_take (l : List GValue) {k : Nat} (h : k < l.length) : ((l.take k).map cutV) ++ [cutV (nth l k)] = (l.take (k + 1)).map cutV := by rw [take_nth h]; simp
theorem few_takeH (l : List (List Int)) {k : Nat} (h : k < l.length) : ((l.take k).map fun x => x.take 20) ++ [(nth l k).take 20] = (l.take (k + 1)).map fun x => x.take 20 := by rw [take_nth h]; simp
theorem few_c (m : GMem) : PCall Tryz.prog 11 [.agg (eMem m)] (.tup [rSl (fewS m.slots), rHp (fewH m.heap)]) := by
  refine entP Tryz.func11 Tryz.ntmps11 ?_
  (repeat' (first
    | refine awp_seq_k fun K hK => ?_
    | refine wkA ?_
    | (refine hK _ _ ?_; clear hK K)
    | (refine wcond (fun hc => ?_) (fun hc => ?_) <;> first | contradiction | (exfalso; omega) | skip)
    | refine bx 1 ?_
    | refine wkB ?_
    | exact True.intro
    | (clear hK K)))
  have hKo := hK; clear hK
  refine awp_loop_inv (S := Nat) [(4, 1), (6, 2), (12, 28)] (fun k => k ≤ m.slots.length ∧ k ≤ 30) (fun k => [(4, .rs 2 k 3 k), (6, rI k)]) (fun k => ⟨[], [(1, .var 25 (eMem m)), (2, .vec 44 3 (((m.slots.take k).map cutV).map eGValue))]⟩) (fun k => 30 - k) 0 ⟨by omega, by omega⟩ (fle_at (by simp only [go_sem]) lle) ?_
  rintro k ⟨hk1, hk2⟩ Kr hKr
  (refine S ?_; try exact True.intro)
  have hl : ((m.slots.take k).map cutV).length = k := by simp; omega
  (have W := hl; repeat' (first
    | refine awp_seq_k fun K hK => ?_
    | refine wkA ?_
    | (refine hK _ _ ?_; clear hK K)
    | (refine wcond (fun hc => ?_) (fun hc => ?_) <;> first | contradiction | (exfalso; omega) | skip)
    | (refine hKo _ _ ?_)
    | refine wkB ?_
    | exact True.intro
    | (clear hK K))); all_goals (try clear W)
  · have e3 : cutV (nth m.slots k) = ⟨(nth m.slots k).ty, (nth m.slots k).n, (nth m.slots k).s.extract 0 60⟩ := by unfold cutV; rw [if_pos (by omega)]
    have e4 := few_take m.slots (k := k) (by omega)
    refine hKr _ _ (next_drop [3] (k + 1) ⟨by omega, by omega⟩ (by (try simp only); omega) rfl Sd (by simp only [go_sem, ← e4, e3, List.map_append, List.map_cons, List.map_nil]; (try rfl)) vtl)
  · have e3 : cutV (nth m.slots k) = nth m.slots k := by unfold cutV; rw [if_neg (by omega)]
    have e4 := few_take m.slots (k := k) (by omega)
    refine hKr _ _ (next_drop [3] (k + 1) ⟨by omega, by omega⟩ (by (try simp only); omega) rfl Sd (by simp only [go_sem, ← e4, e3, List.map_append, List.map_cons, List.map_nil]; (try rfl)) vtl)
  have e5 : (m.slots.take k).map cutV = fewS m.slots := by
    unfold fewS
    by_cases h30 : k = 30
    · rw [h30]
    · rw [List.take_of_length_le (l := m.slots) (i := k) (by omega), List.take_of_length_le (by omega)]
  rw [e5]
  (repeat' (first
    | refine awp_seq_k fun K hK => ?_
    | refine wkA ?_
    | (refine hK _ _ ?_; clear hK K)
    | (refine wcond (fun hc => ?_) (fun hc => ?_) <;> first | contradiction | (exfalso; omega) | skip)
    | refine wkB ?_
    | exact True.intro
    | (clear hK K)))
  refine awp_weak (FLe.nil 3 5 31 (sz := 1) rfl (by decide) (Or.inr ⟨_, _, _, rfl, rfl⟩)) ?_
  have hKo := hK; clear hK
  (refine S ?_; try exact True.intro)
  have ek : k = (fewS m.slots).length := by rw [← e5]; exact hl.symm
  clear e5 hl
  subst ek
  refine awp_loop_inv (S := Nat) [(5, 1), (8, 2), (40, 25)] (fun j => j ≤ m.heap.length ∧ j ≤ 20) (fun j => [(5, .rs 3 j 1 j), (8, rI j)]) (fun j => ⟨[], [(1, .var 25 (eMem m)), (2, .vec 44 3 ((fewS m.slots).map eGValue)), (3, .vec 31 1 (((m.heap.take j).map fun x => x.take 20).map eLI))]⟩) (fun j => 20 - j) 0 ⟨by omega, by omega⟩ (fle_at (by simp only [go_sem]) lle) ?_
  rintro j ⟨hj1, hj2⟩ Kr hKr
  (refine S ?_; try exact True.intro)
  have hl : ((m.heap.take j).map fun x => x.take 20).length = j := by simp; omega
  (have W := hl; repeat' (first
    | refine awp_seq_k fun K hK => ?_
    | refine wkA ?_
    | (refine hK _ _ ?_; clear hK K)
    | (refine wcond (fun hc => ?_) (fun hc => ?_) <;> first | contradiction | (exfalso; omega) | skip)
    | (refine hKo _ _ ?_)
    | refine wkB ?_
    | exact True.intro
    | (clear hK K))); all_goals (try clear W)
  · have e4 := few_takeH m.heap (k := j) (by omega)
    refine hKr _ _ (next_mk (j + 1) ⟨by omega, by omega⟩ (by (try simp only); omega) (by simp only [go_sem, ← e4, List.map_append, List.map_cons, List.map_nil]; (try rfl)) lle)
  · have e4 := few_takeH m.heap (k := j) (by omega)
    rw [List.take_of_length_le (l := nth m.heap j) (by omega)] at e4
    refine hKr _ _ (next_mk (j + 1) ⟨by omega, by omega⟩ (by (try simp only); omega) (by simp only [go_sem, ← e4, List.map_append, List.map_cons, List.map_nil]; (try rfl)) lle)
  have e5 : ((m.heap.take j).map fun x => x.take 20) = fewH m.heap := by
    unfold fewH
    by_cases h30 : j = 20
    · rw [h30]
    · rw [List.take_of_length_le (l := m.heap) (i := j) (by omega), List.take_of_length_le (by omega)]
  rw [e5]
  have ej : j = (fewH m.heap).length := by rw [← e5]; exact hl.symm
  clear e5 hl
  subst ej
  (repeat' (first
    | refine awp_seq_k fun K hK => ?_
    | refine wkA ?_
    | (refine hK _ _ ?_; clear hK K)
    | (refine wcond (fun hc => ?_) (fun hc => ?_) <;> first | contradiction | (exfalso; omega) | skip)
    | refine wkB ?_
    | exact True.intro
    | (clear hK K)))
  refine retv [.tmp 2, .tmp 3] ?_
  refine VToL.tup (ds := [rSl (fewS m.slots), rHp (fewH m.heap)]) ?_
  exact vtl
end Go.Proofs.YtbpmikjlfgfbmaaGreatDoor

namespace Go.Proofs.YtbpmikjlfgfbmaaGreatDoor
open Go Go.Gd
theorem lastI_snoc {α : Type} (f : α → ByteArray) (name : ByteArray) (x : α) : ∀ (l : List α) (i k : Int), lastI f name (l ++ [x]) i k = if f x = name then i + l.length else lastI f name l i k
  | [], i, k => by show (if f x = name then i else k) = _; simp [lastI]
  | v :: l, i, k => by
    show lastI f name (l ++ [x]) (i + 1) _ = _
    rw [lastI_snoc f name x l]
    simp only [lastI, List.length_cons]
    split
    · omega
    · rfl
@[go_sem] theorem lastI_nil {α : Type} (f : α → ByteArray) (name : ByteArray) (i k : Int) : lastI f name [] i k = k := (rfl)
def shownS : ByteArray := (⟨#[102, 110, 32, 109, 97, 105, 110, 40, 41, 123, 108, 101, 116, 32, 97, 61, 55, 59, 112, 114, 105, 110, 116, 32, 97, 60, 57, 124, 124, 49, 47, 48, 61, 61, 49, 59, 125]⟩ : ByteArray)
theorem shown_e : (sourceF shownS).2.2 = 0 := by decide +kernel
theorem shown_len : (sourceF shownS).1.tree.nodes.length = 13 := by decide +kernel
theorem shown_at : lastI GNode.name (⟨#[124, 124]⟩ : ByteArray) (sourceF shownS).1.tree.nodes 0 (-1) = 10 := by decide +kernel
theorem shown_k : kindAt (sourceF shownS).1.tree.nodes 10 = 9 := by decide +kernel
theorem shown_v : exprV (sourceF shownS).1 [⟨1, 7, sE⟩] [] 13 10 = (vB true, 0) := by decide +kernel
theorem shown_f : ∃ p x y, sourceF shownS = (p, x, y) ∧ POk p ∧ p.tree.nodes.length = 13 ∧ lastI GNode.name (⟨#[124, 124]⟩ : ByteArray) p.tree.nodes 0 (-1) = 10 ∧ kindAt p.tree.nodes 10 = 9 ∧ exprV p [⟨1, 7, sE⟩] [] 13 10 = (vB true, 0) :=
  ⟨_, _, _, rfl, source_ok shown_e, shown_len, shown_at, shown_k, shown_v⟩
set_option maxHeartbeats 4000000
set_option maxRecDepth 10000
theorem shown_c : PCall Tryz.prog 8 [] (rB true) := by
  obtain ⟨p, x, y, e, hp, hlen, hat, hk, hv⟩ := shown_f
  have hs := source_c shownS (by decide)
  rw [e] at hs
  have hx := Expr_c hp [⟨1, 7, sE⟩] [] (by decide) 13 10 (by omega) (by omega) (by decide) (by rw [hk]; unfold isE; omega)
  rw [hv] at hx
  have hx := pcall_args (args' := [rP p, rI 10, .sl true 3 [eGValue ⟨1, 7, sE⟩] [], .raw (.slice none 0 0)]) hx ⟨.refl _, .refl _, .lit _ _ _ _, .nil _ _, trivial⟩
  refine entP Tryz.func8 Tryz.ntmps8 ?_
  (repeat' (first
    | refine awp_seq_k fun K hK => ?_
    | refine wkA ?_
    | refine dQ 11 mixed ?_
    | (refine hK _ _ ?_; clear hK K)
    | (refine wcond (fun hc => ?_) (fun hc => ?_) <;> first | contradiction | (exfalso; omega) | skip)
    | refine cp (hs) ?_
    | refine cp (hx) ?_
    | refine wkB ?_
    | exact True.intro
    | (clear hK K)))
  have hKo := hK; clear hK
  refine awp_loop_inv (S := Nat) [(4, 2), (13, 17)] (fun k => k ≤ p.tree.nodes.length) (fun k => [(4, rI (lastI GNode.name (⟨#[124, 124]⟩ : ByteArray) (p.tree.nodes.take k) 0 (-1))), (5, rI k)]) (fun k => ⟨[], [(0, .var 33 (eGProg p))]⟩) (fun k => 13 - k) 0 (by omega) (fle_at (by simp only [go_sem]) lle) ?_
  rintro k hk1 Kr hKr
  (refine S ?_; try exact True.intro)
  by_cases hlt : k < p.tree.nodes.length
  · have e4 := lastI_snoc GNode.name (⟨#[124, 124]⟩ : ByteArray) (nth p.tree.nodes k) (p.tree.nodes.take k) 0 (-1)
    rw [← take_nth hlt] at e4
    (repeat' (first
    | refine awp_seq_k fun K hK => ?_
    | refine wkA ?_
    | refine dQ 11 mixed ?_
    | (refine hK _ _ ?_; clear hK K)
    | (refine wcond (fun hc => ?_) (fun hc => ?_) <;> first | contradiction | (exfalso; omega) | skip)
    | (refine hKo _ _ ?_)
    | refine wkB ?_
    | exact True.intro
    | (clear hK K)))
    · rw [if_pos hc] at e4
      refine hKr _ _ (next_mk (k + 1) (by omega) (by (try simp only); omega) (by simp only [go_sem]) (by simp only [go_sem, LLe, Nat.reduceAdd, AV.raw.injEq, Value.int.injEq, Value.slice.injEq, Value.pointer.injEq, AV.rs.injEq, e4, List.length_take]; try omega))
    · rw [if_neg hc] at e4
      refine hKr _ _ (next_mk (k + 1) (by omega) (by (try simp only); omega) (by simp only [go_sem]) (by simp only [go_sem, LLe, Nat.reduceAdd, AV.raw.injEq, Value.int.injEq, Value.slice.injEq, Value.pointer.injEq, AV.rs.injEq, e4]; try omega))
  · have e4 : lastI GNode.name (⟨#[124, 124]⟩ : ByteArray) (p.tree.nodes.take k) 0 (-1) = 10 := by rw [List.take_of_length_le (by omega)]; exact hat
    (have W := e4; repeat' (first
    | refine awp_seq_k fun K hK => ?_
    | refine wkA ?_
    | refine dQ 11 mixed ?_
    | (refine hK _ _ ?_; clear hK K)
    | (refine wcond (fun hc => ?_) (fun hc => ?_) <;> first | contradiction | (exfalso; omega) | skip)
    | (refine hKo _ _ ?_)
    | refine cp (hx) ?_
    | refine cp (bool5_c _) ?_
    | refine cq (bool5_c _) ?_
    | refine wkB ?_
    | exact True.intro
    | (clear hK K))); all_goals (try clear W)
    (refine retd [.tmp 0] ?_; try simp only [go_sem])
end Go.Proofs.YtbpmikjlfgfbmaaGreatDoor

namespace Go.Proofs.YtbpmikjlfgfbmaaGreatDoor
open Go Go.Gd
theorem list_ext_nth {α : Type} [Inhabited α] {a b : List α} (hl : a.length = b.length) (h : ∀ j, j < a.length → nth a j = nth b j) : a = b := by
  apply List.ext_getElem hl
  intro i h1 h2
  have := h i h1
  rwa [nth_get h1, nth_get h2] at this
set_option maxHeartbeats 4000000
set_option maxRecDepth 10000
theorem ints4_c (a b : List Int) (ha : a.length ≤ 1000000000) : PCall Tryz.prog 18 [slOf eI 1 a, slOf eI 1 b] (rB (decide (a = b))) := by
  refine entP Tryz.func18 Tryz.ntmps18 ?_
  (repeat' (first
    | refine awp_seq_k fun K hK => ?_
    | refine wkA ?_
    | refine dE 6 [0, 1, 2, 3, 4, 5, 6, 7, 8] mixed ?_
    | (refine hK _ _ ?_; clear hK K)
    | (refine wcond (fun hc => ?_) (fun hc => ?_) <;> first | contradiction | (exfalso; omega) | skip)
    | refine wkB ?_
    | exact True.intro
    | (clear hK K)))
  · (refine retd [.tmp 4] ?_; try simp only [go_sem])
    rw [show decide (a = b) = false from decide_eq_false fun h => hc (by rw [h])]
  have hl : a.length = b.length := by omega
  have hKo := hK; clear hK
  refine awp_loop_inv (S := Nat) [(4, 2), (11, 15)] (fun k => k ≤ a.length ∧ ∀ j, j < k → nth a j = nth b j) (fun k => [(5, rI k)]) (fun k => ⟨[], []⟩) (fun k => a.length - k) 0 ⟨by omega, fun j h => by omega⟩ (fle_at (by simp only [go_sem]) lle) ?_
  rintro k ⟨hk1, hk2⟩ Kr hKr
  (refine S ?_; try exact True.intro)
  (repeat' (first
    | refine awp_seq_k fun K hK => ?_
    | refine wkA ?_
    | refine dE 6 [0, 1, 2, 3, 4, 5, 6, 7, 8] mixed ?_
    | (refine hK _ _ ?_; clear hK K)
    | (refine wcond (fun hc => ?_) (fun hc => ?_) <;> first | contradiction | (exfalso; omega) | skip)
    | (refine hKo _ _ ?_)
    | refine wkB ?_
    | exact True.intro
    | (clear hK K)))
  · (refine retd [.tmp 4] ?_; try simp only [go_sem])
    rw [show decide (a = b) = false from decide_eq_false fun h => hc (by rw [h])]
  · refine hKr _ _ (next_mk (k + 1) ⟨by omega, fun j hj => ?_⟩ (by (try simp only); omega) (by simp only [go_sem]) lle)
    by_cases h : j < k
    · exact hk2 j h
    · rw [show j = k by omega]; exact hc
  · (refine retd [.tmp 4] ?_; try simp only [go_sem])
    rw [show decide (a = b) = true from decide_eq_true (list_ext_nth hl fun j hj => hk2 j (by omega))]
end Go.Proofs.YtbpmikjlfgfbmaaGreatDoor

namespace Go.Proofs.YtbpmikjlfgfbmaaGreatDoor
open Go Go.Gd
set_option maxRecDepth 10000 in
theorem want_bd : ∀ n : Nat, n < 256 → 1 ≤ IntKind.i64.wrap (1 + IntKind.i64.wrap (bitsOf BinOp.and IntKind.u8 (n : Int) 3)) ∧ IntKind.i64.wrap (1 + IntKind.i64.wrap (bitsOf BinOp.and IntKind.u8 (n : Int) 3)) ≤ 4 := by decide +kernel
set_option maxHeartbeats 4000000
set_option maxRecDepth 10000
theorem evalGets_c (m : GMem) (a t : Int) (ht : 0 ≤ t ∧ t < 256) (ha : -9223372036854775808 ≤ a ∧ a ≤ 9223372036854775807) : PCall Tryz.prog 5 [.agg (eMem m), rI a, .raw (.int .u8 t)] (rB true) := by
  have l1 := fewS_len m.slots
  have l2 := fewH_len m.heap
  obtain ⟨w, hw, hB⟩ : ∃ w, (1 ≤ w ∧ w ≤ 4) ∧ IntKind.i64.wrap (1 + IntKind.i64.wrap (bitsOf BinOp.and IntKind.u8 t 3)) = w := ⟨_, by have := want_bd t.toNat (by omega); rwa [show ((t.toNat : Nat) : Int) = t by omega] at this, rfl⟩
  obtain ⟨g1, g2⟩ := get_ty (fewS m.slots) a hw
  have hN : listV (fewH m.heap) ⟨1, 1, sE⟩ = [] := by unfold listV; rw [if_pos (.inl (by decide))]
  have hz : ∀ k, k < (fewH m.heap).length → (nth (fewH m.heap) k).length ≤ 20 := fun k hk => by
    unfold fewH at hk ⊢
    rw [nth_map _ (by simpa using hk)]
    simp; omega
  by_cases hin : 0 ≤ a ∧ a < (fewS m.slots).length
  · by_cases hth : (nth (fewS m.slots) a.toNat).ty = w ∧ mayV (nth (fewS m.slots) a.toNat) = true
    · have hV : getV (fewS m.slots) a w = nth (fewS m.slots) a.toNat := by unfold getV; rw [if_neg (by omega), if_pos ⟨hth.2, hth.1⟩]
      obtain ⟨t1, t2⟩ := hth
      by_cases hl : 1 ≤ a ∧ a ≤ (fewH m.heap).length
      · have hL : listV (fewH m.heap) ⟨4, a, sE⟩ = nth (fewH m.heap) (a - 1).toNat := by unfold listV; rw [if_neg (by simp only; omega)]
        have hzl := hz (a - 1).toNat (by omega)
        refine entP Tryz.func5 Tryz.ntmps5 ?_
        (have W := And.intro hB (And.intro g1 (And.intro g2 (And.intro hV (And.intro hL (And.intro hN (And.intro t1 (t2))))))); repeat' (first
    | refine awp_seq_k fun K hK => ?_
    | refine wkA ?_
    | refine dE 12 [0, 1, 2, 3, 4, 5, 6, 7, 8, 9, 10, 11, 12, 13, 14, 15, 16, 17, 18, 19, 20, 21, 22] mixed ?_
    | (refine hK _ _ ?_; clear hK K)
    | (refine wcond (fun hc => ?_) (fun hc => ?_) <;> first | contradiction | (exfalso; omega) | skip)
    | refine cp (shown_c) ?_
    | refine cp (few_c _) ?_
    | refine cp (get_c _ _ _) ?_
    | refine cp (may5_c _) ?_
    | refine cp (list_c (fewH m.heap) ⟨4, a, sE⟩ (by omega)) ?_
    | refine cp (list_c (fewH m.heap) ⟨1, 1, sE⟩ (by omega)) ?_
    | refine cq (ints4_c _ _ (by omega)) ?_
    | (first | refine cg (ints4_c _ _ (by omega)) ?_ | refine cg' (ints4_c _ _ (by omega)) ?_)
    | refine wkB ?_
    | exact True.intro
    | (clear hK K))); all_goals (try clear W)
        (refine retd [.tmp 6] ?_; try simp only [go_sem])
        all_goals simp
      · have hL : listV (fewH m.heap) ⟨4, a, sE⟩ = [] := by unfold listV; rw [if_pos (by simp only; omega)]
        refine entP Tryz.func5 Tryz.ntmps5 ?_
        (have W := And.intro hB (And.intro g1 (And.intro g2 (And.intro hV (And.intro hL (And.intro hN (And.intro t1 (t2))))))); repeat' (first
    | refine awp_seq_k fun K hK => ?_
    | refine wkA ?_
    | refine dE 12 [0, 1, 2, 3, 4, 5, 6, 7, 8, 9, 10, 11, 12, 13, 14, 15, 16, 17, 18, 19, 20, 21, 22] mixed ?_
    | (refine hK _ _ ?_; clear hK K)
    | (refine wcond (fun hc => ?_) (fun hc => ?_) <;> first | contradiction | (exfalso; omega) | skip)
    | refine cp (shown_c) ?_
    | refine cp (few_c _) ?_
    | refine cp (get_c _ _ _) ?_
    | refine cp (may5_c _) ?_
    | refine cp (list_c (fewH m.heap) ⟨4, a, sE⟩ (by omega)) ?_
    | refine cp (list_c (fewH m.heap) ⟨1, 1, sE⟩ (by omega)) ?_
    | refine cq (ints4_c _ _ (by omega)) ?_
    | (first | refine cg (ints4_c _ _ (by omega)) ?_ | refine cg' (ints4_c _ _ (by omega)) ?_)
    | refine wkB ?_
    | exact True.intro
    | (clear hK K))); all_goals (try clear W)
        (refine retd [.tmp 6] ?_; try simp only [go_sem])
        all_goals simp
    · have hV : getV (fewS m.slots) a w = vZ w := by unfold getV; rw [if_neg (by omega), if_neg (fun h => hth ⟨h.2, h.1⟩)]
      rw [hV] at g1 g2
      have z1 : (vZ w).n = 0 := rfl
      have z2 : (vZ w).s = sE := rfl
      by_cases t1 : (nth (fewS m.slots) a.toNat).ty = w
      · have t2 : mayV (nth (fewS m.slots) a.toNat) = false := by
          cases e : mayV (nth (fewS m.slots) a.toNat) with
          | false => rfl
          | true => exact (hth ⟨t1, e⟩).elim
        by_cases hl : 1 ≤ a ∧ a ≤ (fewH m.heap).length
        · have hL : listV (fewH m.heap) ⟨4, a, sE⟩ = nth (fewH m.heap) (a - 1).toNat := by unfold listV; rw [if_neg (by simp only; omega)]
          have hzl := hz (a - 1).toNat (by omega)
          refine entP Tryz.func5 Tryz.ntmps5 ?_
          (have W := And.intro hB (And.intro g1 (And.intro g2 (And.intro hV (And.intro hL (And.intro hN (And.intro t1 (And.intro t2 (And.intro z1 (z2))))))))); repeat' (first
    | refine awp_seq_k fun K hK => ?_
    | refine wkA ?_
    | refine dE 12 [0, 1, 2, 3, 4, 5, 6, 7, 8, 9, 10, 11, 12, 13, 14, 15, 16, 17, 18, 19, 20, 21, 22] mixed ?_
    | (refine hK _ _ ?_; clear hK K)
    | (refine wcond (fun hc => ?_) (fun hc => ?_) <;> first | contradiction | (exfalso; omega) | skip)
    | refine cp (shown_c) ?_
    | refine cp (few_c _) ?_
    | refine cp (get_c _ _ _) ?_
    | refine cp (may5_c _) ?_
    | refine cp (list_c (fewH m.heap) ⟨4, a, sE⟩ (by omega)) ?_
    | refine cp (list_c (fewH m.heap) ⟨1, 1, sE⟩ (by omega)) ?_
    | refine cq (ints4_c _ _ (by omega)) ?_
    | (first | refine cg (ints4_c _ _ (by omega)) ?_ | refine cg' (ints4_c _ _ (by omega)) ?_)
    | refine wkB ?_
    | exact True.intro
    | (clear hK K))); all_goals (try clear W)
          (refine retd [.tmp 6] ?_; try simp only [go_sem])
          all_goals simp
        · have hL : listV (fewH m.heap) ⟨4, a, sE⟩ = [] := by unfold listV; rw [if_pos (by simp only; omega)]
          refine entP Tryz.func5 Tryz.ntmps5 ?_
          (have W := And.intro hB (And.intro g1 (And.intro g2 (And.intro hV (And.intro hL (And.intro hN (And.intro t1 (And.intro t2 (And.intro z1 (z2))))))))); repeat' (first
    | refine awp_seq_k fun K hK => ?_
    | refine wkA ?_
    | refine dE 12 [0, 1, 2, 3, 4, 5, 6, 7, 8, 9, 10, 11, 12, 13, 14, 15, 16, 17, 18, 19, 20, 21, 22] mixed ?_
    | (refine hK _ _ ?_; clear hK K)
    | (refine wcond (fun hc => ?_) (fun hc => ?_) <;> first | contradiction | (exfalso; omega) | skip)
    | refine cp (shown_c) ?_
    | refine cp (few_c _) ?_
    | refine cp (get_c _ _ _) ?_
    | refine cp (may5_c _) ?_
    | refine cp (list_c (fewH m.heap) ⟨4, a, sE⟩ (by omega)) ?_
    | refine cp (list_c (fewH m.heap) ⟨1, 1, sE⟩ (by omega)) ?_
    | refine cq (ints4_c _ _ (by omega)) ?_
    | (first | refine cg (ints4_c _ _ (by omega)) ?_ | refine cg' (ints4_c _ _ (by omega)) ?_)
    | refine wkB ?_
    | exact True.intro
    | (clear hK K))); all_goals (try clear W)
          (refine retd [.tmp 6] ?_; try simp only [go_sem])
          all_goals simp
      · skip
        by_cases hl : 1 ≤ a ∧ a ≤ (fewH m.heap).length
        · have hL : listV (fewH m.heap) ⟨4, a, sE⟩ = nth (fewH m.heap) (a - 1).toNat := by unfold listV; rw [if_neg (by simp only; omega)]
          have hzl := hz (a - 1).toNat (by omega)
          refine entP Tryz.func5 Tryz.ntmps5 ?_
          (have W := And.intro hB (And.intro g1 (And.intro g2 (And.intro hV (And.intro hL (And.intro hN (And.intro t1 (And.intro z1 (z2)))))))); repeat' (first
    | refine awp_seq_k fun K hK => ?_
    | refine wkA ?_
    | refine dE 12 [0, 1, 2, 3, 4, 5, 6, 7, 8, 9, 10, 11, 12, 13, 14, 15, 16, 17, 18, 19, 20, 21, 22] mixed ?_
    | (refine hK _ _ ?_; clear hK K)
    | (refine wcond (fun hc => ?_) (fun hc => ?_) <;> first | contradiction | (exfalso; omega) | skip)
    | refine cp (shown_c) ?_
    | refine cp (few_c _) ?_
    | refine cp (get_c _ _ _) ?_
    | refine cp (may5_c _) ?_
    | refine cp (list_c (fewH m.heap) ⟨4, a, sE⟩ (by omega)) ?_
    | refine cp (list_c (fewH m.heap) ⟨1, 1, sE⟩ (by omega)) ?_
    | refine cq (ints4_c _ _ (by omega)) ?_
    | (first | refine cg (ints4_c _ _ (by omega)) ?_ | refine cg' (ints4_c _ _ (by omega)) ?_)
    | refine wkB ?_
    | exact True.intro
    | (clear hK K))); all_goals (try clear W)
          (refine retd [.tmp 6] ?_; try simp only [go_sem])
          all_goals simp
        · have hL : listV (fewH m.heap) ⟨4, a, sE⟩ = [] := by unfold listV; rw [if_pos (by simp only; omega)]
          refine entP Tryz.func5 Tryz.ntmps5 ?_
          (have W := And.intro hB (And.intro g1 (And.intro g2 (And.intro hV (And.intro hL (And.intro hN (And.intro t1 (And.intro z1 (z2)))))))); repeat' (first
    | refine awp_seq_k fun K hK => ?_
    | refine wkA ?_
    | refine dE 12 [0, 1, 2, 3, 4, 5, 6, 7, 8, 9, 10, 11, 12, 13, 14, 15, 16, 17, 18, 19, 20, 21, 22] mixed ?_
    | (refine hK _ _ ?_; clear hK K)
    | (refine wcond (fun hc => ?_) (fun hc => ?_) <;> first | contradiction | (exfalso; omega) | skip)
    | refine cp (shown_c) ?_
    | refine cp (few_c _) ?_
    | refine cp (get_c _ _ _) ?_
    | refine cp (may5_c _) ?_
    | refine cp (list_c (fewH m.heap) ⟨4, a, sE⟩ (by omega)) ?_
    | refine cp (list_c (fewH m.heap) ⟨1, 1, sE⟩ (by omega)) ?_
    | refine cq (ints4_c _ _ (by omega)) ?_
    | (first | refine cg (ints4_c _ _ (by omega)) ?_ | refine cg' (ints4_c _ _ (by omega)) ?_)
    | refine wkB ?_
    | exact True.intro
    | (clear hK K))); all_goals (try clear W)
          (refine retd [.tmp 6] ?_; try simp only [go_sem])
          all_goals simp
  · have hV : getV (fewS m.slots) a w = vZ w := by unfold getV; rw [if_pos (by omega)]
    rw [hV] at g1 g2
    have z1 : (vZ w).n = 0 := rfl
    have z2 : (vZ w).s = sE := rfl
    by_cases hl : 1 ≤ a ∧ a ≤ (fewH m.heap).length
    · have hL : listV (fewH m.heap) ⟨4, a, sE⟩ = nth (fewH m.heap) (a - 1).toNat := by unfold listV; rw [if_neg (by simp only; omega)]
      have hzl := hz (a - 1).toNat (by omega)
      refine entP Tryz.func5 Tryz.ntmps5 ?_
      (have W := And.intro hB (And.intro g1 (And.intro g2 (And.intro hV (And.intro hL (And.intro hN (And.intro z1 (z2))))))); repeat' (first
    | refine awp_seq_k fun K hK => ?_
    | refine wkA ?_
    | refine dE 12 [0, 1, 2, 3, 4, 5, 6, 7, 8, 9, 10, 11, 12, 13, 14, 15, 16, 17, 18, 19, 20, 21, 22] mixed ?_
    | (refine hK _ _ ?_; clear hK K)
    | (refine wcond (fun hc => ?_) (fun hc => ?_) <;> first | contradiction | (exfalso; omega) | skip)
    | refine cp (shown_c) ?_
    | refine cp (few_c _) ?_
    | refine cp (get_c _ _ _) ?_
    | refine cp (may5_c _) ?_
    | refine cp (list_c (fewH m.heap) ⟨4, a, sE⟩ (by omega)) ?_
    | refine cp (list_c (fewH m.heap) ⟨1, 1, sE⟩ (by omega)) ?_
    | refine cq (ints4_c _ _ (by omega)) ?_
    | (first | refine cg (ints4_c _ _ (by omega)) ?_ | refine cg' (ints4_c _ _ (by omega)) ?_)
    | refine wkB ?_
    | exact True.intro
    | (clear hK K))); all_goals (try clear W)
      (refine retd [.tmp 6] ?_; try simp only [go_sem])
      all_goals simp
    · have hL : listV (fewH m.heap) ⟨4, a, sE⟩ = [] := by unfold listV; rw [if_pos (by simp only; omega)]
      refine entP Tryz.func5 Tryz.ntmps5 ?_
      (have W := And.intro hB (And.intro g1 (And.intro g2 (And.intro hV (And.intro hL (And.intro hN (And.intro z1 (z2))))))); repeat' (first
    | refine awp_seq_k fun K hK => ?_
    | refine wkA ?_
    | refine dE 12 [0, 1, 2, 3, 4, 5, 6, 7, 8, 9, 10, 11, 12, 13, 14, 15, 16, 17, 18, 19, 20, 21, 22] mixed ?_
    | (refine hK _ _ ?_; clear hK K)
    | (refine wcond (fun hc => ?_) (fun hc => ?_) <;> first | contradiction | (exfalso; omega) | skip)
    | refine cp (shown_c) ?_
    | refine cp (few_c _) ?_
    | refine cp (get_c _ _ _) ?_
    | refine cp (may5_c _) ?_
    | refine cp (list_c (fewH m.heap) ⟨4, a, sE⟩ (by omega)) ?_
    | refine cp (list_c (fewH m.heap) ⟨1, 1, sE⟩ (by omega)) ?_
    | refine cq (ints4_c _ _ (by omega)) ?_
    | (first | refine cg (ints4_c _ _ (by omega)) ?_ | refine cg' (ints4_c _ _ (by omega)) ?_)
    | refine wkB ?_
    | exact True.intro
    | (clear hK K))); all_goals (try clear W)
      (refine retd [.tmp 6] ?_; try simp only [go_sem])
      all_goals simp
end Go.Proofs.YtbpmikjlfgfbmaaGreatDoor
