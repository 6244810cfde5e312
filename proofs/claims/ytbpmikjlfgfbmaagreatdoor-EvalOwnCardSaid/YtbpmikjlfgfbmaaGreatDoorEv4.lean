/- What expressions tell: the document's, whole. What expressions tell: the program's. What expressions tell: the program's, small parts. No conditions. -/
import Derived.Test.YtbpmikjlfgfbmaaGreatDoorEv2
import Derived.Test.YtbpmikjlfgfbmaaGreatDoorGdX
set_option linter.all false
namespace Go.Proofs.YtbpmikjlfgfbmaaGreatDoor
open Go Go.Gd
set_option maxHeartbeats 8000000 in
set_option maxRecDepth 10000 in
theorem expr6_c {p : GProg} (h : POk p) (slots : List GValue) (heap : List (List Int)) (hh : heap.length ≤ 1000000) : ∀ n, RExprC p slots heap n
  | 0 => fun a _ _ hn _ => by omega
  | n + 1 => fun a h0 h1 hn hk => by
    have ih := expr6_c h slots heap hh n
    have sh := h.tree.shape a.toNat (by omega)
    have hsl := h.slots
    have hty := h.types
    have hkr : (nth p.tree.nodes a.toNat).kind = 1 ∨ (nth p.tree.nodes a.toNat).kind = 2 ∨ (nth p.tree.nodes a.toNat).kind = 3 ∨ (nth p.tree.nodes a.toNat).kind = 4 ∨ (nth p.tree.nodes a.toNat).kind = 5 ∨ (nth p.tree.nodes a.toNat).kind = 9 ∨ ((nth p.tree.nodes a.toNat).kind = 6 ∨ (nth p.tree.nodes a.toNat).kind = 7 ∨ (nth p.tree.nodes a.toNat).kind = 8) := by
      have : isE (nth p.tree.nodes a.toNat).kind := hk
      unfold isE at this
      omega
    rcases hkr with k | k | k | k | k | k | k
    · rw [show exprV p slots heap (n + 1) a = (vI (nth p.tree.nodes a.toNat).n, 0) from by unfold exprV; simp only; rw [k]; rfl]
      refine entP Tryz.func14 Tryz.ntmps14 ?_
      (have W := k; repeat' (first
    | refine awp_seq_k fun K hK => ?_
    | refine wkA ?_
    | refine dE 10 [0, 1, 2, 3, 4, 5, 6, 7, 8, 9, 10, 11, 12, 13] mixed ?_
    | refine dL 15 [] [11] [0, 1, 2, 3, 4, 5, 6, 7, 8, 9, 10, 11, 12, 13] mixed ?_
    | (refine hK _ _ ?_; clear hK K)
    | (refine wcond (fun hc => ?_) (fun hc => ?_) <;> first | contradiction | (exfalso; omega) | skip)
    | refine cp (int5_c _) ?_
    | refine wkB ?_
    | exact True.intro
    | (clear hK K))); all_goals (try clear W)
      (refine retd [.cell 8 44, .tmp 9] ?_; try simp only [go_sem])
    · rw [show exprV p slots heap (n + 1) a = (vB (decide ((nth p.tree.nodes a.toNat).n = 1)), 0) from by unfold exprV; simp only; rw [k]; rfl]
      refine entP Tryz.func14 Tryz.ntmps14 ?_
      (have W := k; repeat' (first
    | refine awp_seq_k fun K hK => ?_
    | refine wkA ?_
    | refine dE 10 [0, 1, 2, 3, 4, 5, 6, 7, 8, 9, 10, 11, 12, 13] mixed ?_
    | refine dL 15 [] [11] [0, 1, 2, 3, 4, 5, 6, 7, 8, 9, 10, 11, 12, 13] mixed ?_
    | (refine hK _ _ ?_; clear hK K)
    | (refine wcond (fun hc => ?_) (fun hc => ?_) <;> first | contradiction | (exfalso; omega) | skip)
    | refine cp (bool5_c _) ?_
    | refine wkB ?_
    | exact True.intro
    | (clear hK K))); all_goals (try clear W)
      (refine retd [.cell 8 44, .tmp 9] ?_; try simp only [go_sem])
    · rw [show exprV p slots heap (n + 1) a = (vT (nth p.tree.nodes a.toNat).name, 0) from by unfold exprV; simp only; rw [k]; rfl]
      refine entP Tryz.func14 Tryz.ntmps14 ?_
      (have W := k; repeat' (first
    | refine awp_seq_k fun K hK => ?_
    | refine wkA ?_
    | refine dE 10 [0, 1, 2, 3, 4, 5, 6, 7, 8, 9, 10, 11, 12, 13] mixed ?_
    | refine dL 15 [] [11] [0, 1, 2, 3, 4, 5, 6, 7, 8, 9, 10, 11, 12, 13] mixed ?_
    | (refine hK _ _ ?_; clear hK K)
    | (refine wcond (fun hc => ?_) (fun hc => ?_) <;> first | contradiction | (exfalso; omega) | skip)
    | refine cp (text5_c _) ?_
    | refine wkB ?_
    | exact True.intro
    | (clear hK K))); all_goals (try clear W)
      (refine retd [.cell 8 44, .tmp 9] ?_; try simp only [go_sem])
    · rw [show exprV p slots heap (n + 1) a = (getV slots (nth p.slots a.toNat) (nth p.types a.toNat), 0) from by unfold exprV; simp only; rw [k]; rfl]
      refine entP Tryz.func14 Tryz.ntmps14 ?_
      (have W := k; repeat' (first
    | refine awp_seq_k fun K hK => ?_
    | refine wkA ?_
    | refine dE 10 [0, 1, 2, 3, 4, 5, 6, 7, 8, 9, 10, 11, 12, 13] mixed ?_
    | refine dL 15 [] [11] [0, 1, 2, 3, 4, 5, 6, 7, 8, 9, 10, 11, 12, 13] mixed ?_
    | (refine hK _ _ ?_; clear hK K)
    | (refine wcond (fun hc => ?_) (fun hc => ?_) <;> first | contradiction | (exfalso; omega) | skip)
    | refine cp (get6_c _ _ _) ?_
    | refine wkB ?_
    | exact True.intro
    | (clear hK K))); all_goals (try clear W)
      (refine retd [.cell 8 44, .tmp 9] ?_; try simp only [go_sem])
    · have hi := index6_c h slots heap hh n ih a h0 h1 (by omega) k
      rw [exprV5 slots heap n k]
      refine entP Tryz.func14 Tryz.ntmps14 ?_
      (have W := k; repeat' (first
    | refine awp_seq_k fun K hK => ?_
    | refine wkA ?_
    | refine dE 10 [0, 1, 2, 3, 4, 5, 6, 7, 8, 9, 10, 11, 12, 13] mixed ?_
    | refine dL 15 [] [11] [0, 1, 2, 3, 4, 5, 6, 7, 8, 9, 10, 11, 12, 13] mixed ?_
    | (refine hK _ _ ?_; clear hK K)
    | (refine wcond (fun hc => ?_) (fun hc => ?_) <;> first | contradiction | (exfalso; omega) | skip)
    | refine cp (hi) ?_
    | refine wkB ?_
    | exact True.intro
    | (clear hK K))); all_goals (try clear W)
      (refine retd [.cell 8 44, .tmp 9] ?_; try simp only [go_sem])
    · have hi := bin6_c h slots heap n ih a h0 h1 (by omega) k
      rw [exprV9 slots heap n k]
      refine entP Tryz.func14 Tryz.ntmps14 ?_
      (have W := k; repeat' (first
    | refine awp_seq_k fun K hK => ?_
    | refine wkA ?_
    | refine dE 10 [0, 1, 2, 3, 4, 5, 6, 7, 8, 9, 10, 11, 12, 13] mixed ?_
    | refine dL 15 [] [11] [0, 1, 2, 3, 4, 5, 6, 7, 8, 9, 10, 11, 12, 13] mixed ?_
    | (refine hK _ _ ?_; clear hK K)
    | (refine wcond (fun hc => ?_) (fun hc => ?_) <;> first | contradiction | (exfalso; omega) | skip)
    | refine cp (hi) ?_
    | refine wkB ?_
    | exact True.intro
    | (clear hK K))); all_goals (try clear W)
      (refine retd [.cell 8 44, .tmp 9] ?_; try simp only [go_sem])
    · obtain ⟨x, hl, hx⟩ := sh.1.one (by omega)
      have hlen : (nth p.tree.nodes a.toNat).l.length = 1 := by rw [hl]; rfl
      have hx' : nth (nth p.tree.nodes a.toNat).l 0 = x := by rw [hl]; rfl
      have hb := sh.2.1 x (by rw [hl]; simp)
      have hc1 := ih x hb.1 (by omega) (by omega) hx
      have k1 : ¬ (nth p.tree.nodes a.toNat).kind = 1 := by omega
      have k2 : ¬ (nth p.tree.nodes a.toNat).kind = 2 := by omega
      have k3 : ¬ (nth p.tree.nodes a.toNat).kind = 3 := by omega
      have k4 : ¬ (nth p.tree.nodes a.toNat).kind = 4 := by omega
      have k5 : ¬ (nth p.tree.nodes a.toNat).kind = 5 := by omega
      have k9 : ¬ (nth p.tree.nodes a.toNat).kind = 9 := by omega
      rw [exprV1 slots heap n k, hx']
      refine entP Tryz.func14 Tryz.ntmps14 ?_
      (have W := And.intro k1 (And.intro k2 (And.intro k3 (And.intro k4 (And.intro k5 (And.intro k9 (And.intro hlen (hx'))))))); repeat' (first
    | refine awp_seq_k fun K hK => ?_
    | refine wkA ?_
    | refine dE 10 [0, 1, 2, 3, 4, 5, 6, 7, 8, 9, 10, 11, 12, 13] mixed ?_
    | refine dL 15 [] [11] [0, 1, 2, 3, 4, 5, 6, 7, 8, 9, 10, 11, 12, 13] mixed ?_
    | (refine hK _ _ ?_; clear hK K)
    | (refine wcond (fun hc => ?_) (fun hc => ?_) <;> first | contradiction | (exfalso; omega) | skip)
    | refine cp (hc1) ?_
    | refine cp (int5_c _) ?_
    | refine cp (sign5_c _ _) ?_
    | refine cp (list6_c _ _ hh) ?_
    | refine wkB ?_
    | exact True.intro
    | (clear hK K))); all_goals (try clear W)
      all_goals (refine retd [.cell 8 44, .tmp 9] ?_; try simp only [go_sem])
      all_goals (unfold oneV; (repeat' split) <;> first | rfl | (exfalso; omega) | (exfalso; simp_all; done) | (simp_all; done) | skip)
end Go.Proofs.YtbpmikjlfgfbmaaGreatDoor

namespace Go.Proofs.YtbpmikjlfgfbmaaGreatDoor
open Go Go.Gd
def lkRow (p : GProg) (slots : List GValue) (heap : List (List Int)) (tr : Int) : Row := .var 63 (eGProg p ++ [rSl slots, rHp heap, rI tr])
attribute [go_sem] lkRow
@[go_sem] theorem eGProg_app (p : GProg) (l : List AV) : eGProg p ++ l = slOf eGNode 5 p.tree.nodes :: slOf eGFunc 5 p.tree.fns :: slOf eI 1 p.types :: slOf eI 1 p.slots :: slOf eI 1 p.fn :: slOf eI 1 p.size :: l := rfl
set_option maxHeartbeats 4000000 in
set_option maxRecDepth 10000 in
theorem then3_c (p : GProg) (slots : List GValue) (heap : List (List Int)) (tr tr' : Int) (v : GValue) {f : FuncId} {cs : List AV} {t1 t2 t3 : TypeId} {c1 c2 c3 : List AV} (hf : callable Tryz.prog f = true) (hcs : allL (fun i => i == 0 || (i == 1 || (i == 2 || (i == 3)))) cs = true) (h1 : allL (fun i => i == 0 || (i == 1 || (i == 2 || (i == 3)))) c1 = true) (h2 : allL (fun i => i == 0 || (i == 1 || (i == 2 || (i == 3)))) c2 = true) (h3 : allL (fun i => i == 0 || (i == 1 || (i == 2 || (i == 3)))) c3 = true)
    (hd : tr = 0 → ACalls Tryz.prog f cs [(0, lkRow p slots heap tr), (1, .var t1 c1), (2, .var t2 c2), (3, .var t3 c3)] (fun r l' => r = rV v ∧ l' = [(0, lkRow p slots heap tr'), (1, .var t1 c1), (2, .var t2 c2), (3, .var t3 c3)])) :
    ACalls Tryz.prog 39 [.pt 0 0 0 0, .clo f cs] [(0, lkRow p slots heap tr), (1, .var t1 c1), (2, .var t2 c2), (3, .var t3 c3)] (fun r l' => r = rV (if tr = 0 then v else v0) ∧ l' = [(0, lkRow p slots heap (if tr = 0 then tr' else tr)), (1, .var t1 c1), (2, .var t2 c2), (3, .var t3 c3)]) := by
  have hmq : ∀ cs : List AV, allL (notQ (mineQ [0, 1, 2, 3])) cs = allL (fun i => i == 0 || (i == 1 || (i == 2 || i == 3))) cs := fun cs => by congr 1; funext i; simp [notQ, mineQ]; rfl
  have g1 := (hmq c1).trans h1
  have g2 := (hmq c2).trans h2
  have g3 := (hmq c3).trans h3
  by_cases ht : tr = 0
  · rw [if_pos ht, if_pos ht]
    have hd := hd ht
    refine entM Tryz.func39 Tryz.ntmps39 ?_
    (refine S ?_; try exact True.intro)
    (have W := And.intro hf (And.intro hcs (And.intro h1 (And.intro h2 (h3)))); repeat' (first
    | refine awp_seq_k fun K hK => ?_
    | refine wkA ?_
    | (refine hK _ _ ?_; clear hK K)
    | (refine wcond (fun hc => ?_) (fun hc => ?_) <;> first | contradiction | (exfalso; omega) | skip)
    | (refine cl (args := []) hd ?_)
    | refine wkB ?_
    | exact True.intro
    | (clear hK K))); all_goals (try clear W)
    have W := And.intro g1 (And.intro g2 g3)
    (refine retd [.cell 4 44] ?_; try simp only [go_sem])
  · rw [if_neg ht, if_neg ht]
    refine entM Tryz.func39 Tryz.ntmps39 ?_
    (refine S ?_; try exact True.intro)
    (have W := And.intro hf (And.intro hcs (And.intro h1 (And.intro h2 (h3)))); repeat' (first
    | refine awp_seq_k fun K hK => ?_
    | refine wkA ?_
    | (refine hK _ _ ?_; clear hK K)
    | (refine wcond (fun hc => ?_) (fun hc => ?_) <;> first | contradiction | (exfalso; omega) | skip)
    | (refine cl (args := []) hd ?_)
    | refine wkB ?_
    | exact True.intro
    | (clear hK K))); all_goals (try clear W)
    have W := And.intro g1 (And.intro g2 g3)
    (refine retd [.cell 4 44] ?_; try simp only [go_sem])
    rfl
set_option maxHeartbeats 4000000 in
set_option maxRecDepth 10000 in
theorem then4_c (p : GProg) (slots : List GValue) (heap : List (List Int)) (tr tr' : Int) (v : GValue) {f : FuncId} {cs : List AV} {t1 t2 t3 t4 : TypeId} {c1 c2 c3 c4 : List AV} (hf : callable Tryz.prog f = true) (hcs : allL (fun i => i == 0 || (i == 1 || (i == 2 || (i == 3 || (i == 4))))) cs = true) (h1 : allL (fun i => i == 0 || (i == 1 || (i == 2 || (i == 3 || (i == 4))))) c1 = true) (h2 : allL (fun i => i == 0 || (i == 1 || (i == 2 || (i == 3 || (i == 4))))) c2 = true) (h3 : allL (fun i => i == 0 || (i == 1 || (i == 2 || (i == 3 || (i == 4))))) c3 = true) (h4 : allL (fun i => i == 0 || (i == 1 || (i == 2 || (i == 3 || (i == 4))))) c4 = true)
    (hd : tr = 0 → ACalls Tryz.prog f cs [(0, lkRow p slots heap tr), (1, .var t1 c1), (2, .var t2 c2), (3, .var t3 c3), (4, .var t4 c4)] (fun r l' => r = rV v ∧ l' = [(0, lkRow p slots heap tr'), (1, .var t1 c1), (2, .var t2 c2), (3, .var t3 c3), (4, .var t4 c4)])) :
    ACalls Tryz.prog 39 [.pt 0 0 0 0, .clo f cs] [(0, lkRow p slots heap tr), (1, .var t1 c1), (2, .var t2 c2), (3, .var t3 c3), (4, .var t4 c4)] (fun r l' => r = rV (if tr = 0 then v else v0) ∧ l' = [(0, lkRow p slots heap (if tr = 0 then tr' else tr)), (1, .var t1 c1), (2, .var t2 c2), (3, .var t3 c3), (4, .var t4 c4)]) := by
  have hmq : ∀ cs : List AV, allL (notQ (mineQ [0, 1, 2, 3, 4])) cs = allL (fun i => i == 0 || (i == 1 || (i == 2 || (i == 3 || i == 4)))) cs := fun cs => by congr 1; funext i; simp [notQ, mineQ]; rfl
  have g1 := (hmq c1).trans h1
  have g2 := (hmq c2).trans h2
  have g3 := (hmq c3).trans h3
  have g4 := (hmq c4).trans h4
  by_cases ht : tr = 0
  · rw [if_pos ht, if_pos ht]
    have hd := hd ht
    refine entM Tryz.func39 Tryz.ntmps39 ?_
    (refine S ?_; try exact True.intro)
    (have W := And.intro hf (And.intro hcs (And.intro h1 (And.intro h2 (And.intro h3 (h4))))); repeat' (first
    | refine awp_seq_k fun K hK => ?_
    | refine wkA ?_
    | (refine hK _ _ ?_; clear hK K)
    | (refine wcond (fun hc => ?_) (fun hc => ?_) <;> first | contradiction | (exfalso; omega) | skip)
    | (refine cl (args := []) hd ?_)
    | refine wkB ?_
    | exact True.intro
    | (clear hK K))); all_goals (try clear W)
    have W := And.intro g1 (And.intro g2 (And.intro g3 g4))
    (refine retd [.cell 4 44] ?_; try simp only [go_sem])
  · rw [if_neg ht, if_neg ht]
    refine entM Tryz.func39 Tryz.ntmps39 ?_
    (refine S ?_; try exact True.intro)
    (have W := And.intro hf (And.intro hcs (And.intro h1 (And.intro h2 (And.intro h3 (h4))))); repeat' (first
    | refine awp_seq_k fun K hK => ?_
    | refine wkA ?_
    | (refine hK _ _ ?_; clear hK K)
    | (refine wcond (fun hc => ?_) (fun hc => ?_) <;> first | contradiction | (exfalso; omega) | skip)
    | (refine cl (args := []) hd ?_)
    | refine wkB ?_
    | exact True.intro
    | (clear hK K))); all_goals (try clear W)
    have W := And.intro g1 (And.intro g2 (And.intro g3 g4))
    (refine retd [.cell 4 44] ?_; try simp only [go_sem])
    rfl
end Go.Proofs.YtbpmikjlfgfbmaaGreatDoor

namespace Go.Proofs.YtbpmikjlfgfbmaaGreatDoor
open Go Go.Gd
set_option maxHeartbeats 4000000
set_option maxRecDepth 10000
theorem etraps_c (p : GProg) (slots : List GValue) (heap : List (List Int)) (tr t : Int) : ACalls Tryz.prog 62 [.pt 0 0 0 0, rI t] [(0, lkRow p slots heap tr)] (fun r l' => r = .tup [] ∧ l' = [(0, lkRow p slots heap (if tr = 0 then t else tr))]) := by
  refine entM Tryz.func62 Tryz.ntmps62 ?_
  (refine S ?_; try exact True.intro)
  (repeat' (first
    | refine awp_seq_k fun K hK => ?_
    | refine wkA ?_
    | (refine hK _ _ ?_; clear hK K)
    | (refine wcond (fun hc => ?_) (fun hc => ?_) <;> first | contradiction | (exfalso; omega) | skip)
    | refine wkB ?_
    | exact True.intro
    | (clear hK K)))
  · (refine retf [] ?_ ?_ <;> (try simp only [go_sem]))
    rw [if_pos hc]
  · (refine retf [] ?_ ?_ <;> (try simp only [go_sem]))
    rw [if_neg hc]
def longV (heap : List (List Int)) (v : GValue) : GValue := if v.ty = 3 then vI v.s.size else vI (listV heap v).length
theorem long_c (p : GProg) (slots : List GValue) (heap : List (List Int)) (hh : heap.length ≤ 1000000) (tr : Int) (v : GValue) : ACalls Tryz.prog 47 [.pt 0 0 0 0, rV v] [(0, lkRow p slots heap tr)] (fun r l' => r = rV (longV heap v) ∧ l' = [(0, lkRow p slots heap tr)]) := by
  refine entM Tryz.func47 Tryz.ntmps47 ?_
  (refine S ?_; try exact True.intro)
  (repeat' (first
    | refine awp_seq_k fun K hK => ?_
    | refine wkA ?_
    | refine dE 3 [0, 1, 2, 3, 4, 5, 6, 7, 8] mixed ?_
    | (refine hK _ _ ?_; clear hK K)
    | (refine wcond (fun hc => ?_) (fun hc => ?_) <;> first | contradiction | (exfalso; omega) | skip)
    | refine al 2 ?_
    | refine cp (int_c _) ?_
    | refine cp (list_c _ _ hh) ?_
    | refine wkB ?_
    | exact True.intro
    | (clear hK K)))
  all_goals (refine retd [.cell 4 44] ?_; try simp only [go_sem])
  all_goals (unfold longV; split <;> first | rfl | contradiction | skip)
def lkI (p : GProg) (slots : List GValue) (heap : List (List Int)) (tr a : Int) (x : GValue) : List (Nat × Row) := [(0, lkRow p slots heap tr), (1, .var 61 [.pt 0 0 0 0]), (2, .var 3 [rI a]), (3, .var 44 (eGValue x))]
attribute [go_sem] lkI
theorem index1_c {p : GProg} (h : POk p) (slots : List GValue) (heap : List (List Int)) (hh : heap.length ≤ 1000000) (x : GValue) (a : Int) (h0 : 0 ≤ a) (h1 : a < p.tree.nodes.length) :
    ACalls Tryz.prog 61 [.pt 1 0 0 0, .pt 2 0 0 0, .pt 3 0 0 0] (lkI p slots heap 0 a x) (fun r l' => r = rV (indexV p slots heap (x, 0) a).1 ∧ l' = lkI p slots heap (indexV p slots heap (x, 0) a).2 a x) := by
  have hsl := h.slots
  have htr := etraps_c p slots heap 0 2
  refine entM Tryz.func61 Tryz.ntmps61 ?_
  (refine S ?_; try exact True.intro)
  (repeat' (first
    | refine awp_seq_k fun K hK => ?_
    | refine wkA ?_
    | refine dQ 1 mixed ?_
    | (refine hK _ _ ?_; clear hK K)
    | (refine wcond (fun hc => ?_) (fun hc => ?_) <;> first | contradiction | (exfalso; omega) | skip)
    | refine cm (htr) ?_
    | refine cq (get_c _ _ _) ?_
    | refine cp (int_c _) ?_
    | refine cq (list_c _ _ hh) ?_
    | refine wkB ?_
    | exact True.intro
    | (clear hK K)))
  · have e : indexV p slots heap (x, 0) a = (v0, 2) := by unfold indexV; rw [if_neg (by simp), if_pos hc]
    rw [e]
    (refine retd [.cell 3 44] ?_; try simp only [go_sem])
    rfl
  · have e : indexV p slots heap (x, 0) a = (vI (nth (listV heap (getV slots (nth p.slots a.toNat) 4)) x.n.toNat), 0) := by unfold indexV; rw [if_neg (by simp), if_neg (show ¬(x.n < 0 ∨ ((listV heap (getV slots (nth p.slots a.toNat) 4)).length : Int) ≤ x.n) by omega)]
    rw [e]
    (refine retd [.cell 3 44] ?_; try simp only [go_sem])
def lkB (p : GProg) (slots : List GValue) (heap : List (List Int)) (tr : Int) (nd : GNode) (x y : GValue) : List (Nat × Row) := [(0, lkRow p slots heap tr), (1, .var 61 [.pt 0 0 0 0]), (2, .var 42 (eGNode nd)), (3, .var 44 (eGValue x)), (4, .var 44 (eGValue y))]
attribute [go_sem] lkB
theorem bin1_c (p : GProg) (slots : List GValue) (heap : List (List Int)) (nd : GNode) (x y : GValue) (hx : x.s.size ≤ 1000000) (hy : y.s.size ≤ 1000000) :
    ACalls Tryz.prog 63 [.pt 2 0 0 0, .pt 3 0 0 0, .pt 4 0 0 0, .pt 1 0 0 0] (lkB p slots heap 0 nd x y) (fun r l' => r = rV (binV nd.name x y).1 ∧ l' = lkB p slots heap (binV nd.name x y).2 nd x y) := by
  have htr := etraps_c p slots heap 0 (binV nd.name x y).2
  refine entM Tryz.func63 Tryz.ntmps63 ?_
  (refine S ?_; try exact True.intro)
  (repeat' (first
    | refine awp_seq_k fun K hK => ?_
    | refine wkA ?_
    | (refine hK _ _ ?_; clear hK K)
    | (refine wcond (fun hc => ?_) (fun hc => ?_) <;> first | contradiction | (exfalso; omega) | skip)
    | refine cm (htr) ?_
    | refine cp (bin_c _ _ _ hx hy) ?_
    | refine wkB ?_
    | exact True.intro
    | (clear hK K)))
  (refine retd [.cell 4 44] ?_; try simp only [go_sem])
def signX (heap : List (List Int)) (k : Int) (x : GValue) : GValue := if k = 6 then longV heap x else if k = 7 then signV (⟨#[45]⟩ : ByteArray) x else signV (⟨#[33]⟩ : ByteArray) x
def lkO (p : GProg) (slots : List GValue) (heap : List (List Int)) (tr a : Int) (nd : GNode) (x : GValue) : List (Nat × Row) := [(0, lkRow p slots heap tr), (1, .var 61 [.pt 0 0 0 0]), (2, .var 3 [rI a]), (3, .var 42 (eGNode nd)), (4, .var 44 (eGValue x))]
attribute [go_sem] lkO
theorem expr11_c (p : GProg) (slots : List GValue) (heap : List (List Int)) (hh : heap.length ≤ 1000000) (a : Int) (nd : GNode) (x : GValue) :
    ACalls Tryz.prog 46 [.pt 3 0 0 0, .pt 1 0 0 0, .pt 4 0 0 0] (lkO p slots heap 0 a nd x) (fun r l' => r = rV (signX heap nd.kind x) ∧ l' = lkO p slots heap 0 a nd x) := by
  have hl := long_c p slots heap hh 0 x
  refine entM Tryz.func46 Tryz.ntmps46 ?_
  (refine S ?_; try exact True.intro)
  (repeat' (first
    | refine awp_seq_k fun K hK => ?_
    | refine wkA ?_
    | (refine hK _ _ ?_; clear hK K)
    | (refine wcond (fun hc => ?_) (fun hc => ?_) <;> first | contradiction | (exfalso; omega) | skip)
    | refine cm (hl) ?_
    | refine cp (sign_v_c _ _) ?_
    | refine wkB ?_
    | exact True.intro
    | (clear hK K)))
  · have e : signX heap nd.kind x = longV heap x := by unfold signX; rw [if_pos hc]
    rw [e]
    (refine retd [.cell 3 44] ?_; try simp only [go_sem])
  · rename_i k6
    have e : signX heap nd.kind x = signV (⟨#[45]⟩ : ByteArray) x := by unfold signX; rw [if_neg k6, if_pos hc]
    rw [e]
    (refine retd [.cell 3 44] ?_; try simp only [go_sem])
  · rename_i k6
    have e : signX heap nd.kind x = signV (⟨#[33]⟩ : ByteArray) x := by unfold signX; rw [if_neg k6, if_neg hc]
    rw [e]
    (refine retd [.cell 3 44] ?_; try simp only [go_sem])
end Go.Proofs.YtbpmikjlfgfbmaaGreatDoor
