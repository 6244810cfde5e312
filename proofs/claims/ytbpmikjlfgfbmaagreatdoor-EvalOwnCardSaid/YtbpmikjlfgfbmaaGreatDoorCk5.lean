/- The document's checker: let, blocks, returns. The document's checker: statements. No conditions. -/
import Derived.Test.YtbpmikjlfgfbmaaGreatDoorCkF
set_option linter.all false
namespace Go.Proofs.YtbpmikjlfgfbmaaGreatDoor
open Go Go.Gd
attribute [go_sem] addV List.length_drop
set_option maxHeartbeats 4000000 in
set_option maxRecDepth 10000 in
theorem klet_c (n : Nat) (hx : KExprC n) (c : Ck) (a : Int) (h : CkIn c) (he : c.e = 0) (h0 : 0 ≤ a) (h1 : a < c.tree.nodes.length) (hn : a.toNat ≤ n) (hk : (c.node a).kind = 10) : ACalls Tryz.prog 85 [pR, rI a] (encK c) (fun v l => v = .tup [] ∧ l = encK (letK (exprK n) c a)) := by
  obtain ⟨sh, hkid⟩ := ck_node h h0 h1
  obtain ⟨x, hl, hxe⟩ := sh.right (by omega)
  have hl' : (nth c.tree.nodes a.toNat).l.length = 1 := by
    have : (c.node a).l.length = 1 := by rw [hl]; rfl
    exact this
  have hkx : c.kid a 0 = x := by unfold Ck.kid; rw [hl]; rfl
  have hm := hkid x (by rw [hl]; simp)
  have hex := hx c (c.kid a 0) h (by omega) (by omega) (by omega) (by rw [hkx]; exact hxe)
  have hmust : ACalls Tryz.prog 88 _ _ (fun v l => v = .tup [] ∧ l = encK (letA (exprK n) c a)) := kmust_c (exprK n c (c.kid a 0)).1 (!decide ((exprK n c (c.kid a 0)).2 = 0)) a
  have eA := ev_letA (ev_expr n) c a
  have eB := ev_letB (ev_expr n) c a
  have eC := ev_letC (ev_expr n) c a
  have hA := h.ev eA
  have hC := h.ev eC
  have hfind := kfind_c (letA (exprK n) c a) (c.node a).name hA
  have hfa := kfails_c (letA (exprK n) c a) 41 a
  have hfb := kfails_c (letB (exprK n) c a) 4 a
  have hsl := hC.slots
  have hcz := hC.size
  have hcv := hC.vars
  have hcc := eC.size
  have hc24 := h.room he
  rw [eC.tree] at hsl
  rw [let_eq]
  refine entM Tryz.func85 Tryz.ntmps85 ?_
  (refine S ?_; try exact True.intro)
  by_cases c1 : 0 ≤ (letA (exprK n) c a).find (c.node a).name
  · have e1 : letB (exprK n) c a = (letA (exprK n) c a).fails 41 a := if_pos c1
    rw [← e1] at hfa
    by_cases c2 : 24 ≤ (letB (exprK n) c a).size
    · have e2 : letC (exprK n) c a = (letB (exprK n) c a).fails 4 a := if_pos c2
      rw [← e2] at hfb
      (repeat' (first
    | refine awp_seq_k fun K hK => ?_
    | refine wkA ?_
    | refine dE 7 [0, 1, 2, 3, 4, 5, 6, 7, 8, 9, 10, 11] mixed ?_
    | refine dE 8 [0, 1, 2, 3, 4, 5, 6, 7, 8, 9, 10, 11, 12, 13, 14, 15, 16, 17] mixed ?_
    | (refine hK _ _ ?_; clear hK K)
    | (refine wcond (fun hc => ?_) (fun hc => ?_) <;> first | contradiction | (exfalso; omega) | skip)
    | refine cm (hex) ?_
    | refine cm (hmust) ?_
    | refine cm (hfind) ?_
    | refine cm (hfa) ?_
    | refine cm (hfb) ?_
    | refine ap_over (letC (exprK n) c a).vars (letC (exprK n) c a).more [⟨(c.node a).name, (exprK n c (c.kid a 0)).2, (letC (exprK n) c a).size⟩] ?_
    | refine wkB ?_
    | exact True.intro
    | (clear hK K)))
      (refine retd [] ?_; try simp only [go_sem])
    · have e2 : letC (exprK n) c a = letB (exprK n) c a := if_neg c2
      rw [e2] at hsl hcz hcv hcc
      rw [e2]
      (repeat' (first
    | refine awp_seq_k fun K hK => ?_
    | refine wkA ?_
    | refine dE 7 [0, 1, 2, 3, 4, 5, 6, 7, 8, 9, 10, 11] mixed ?_
    | refine dE 8 [0, 1, 2, 3, 4, 5, 6, 7, 8, 9, 10, 11, 12, 13, 14, 15, 16, 17] mixed ?_
    | (refine hK _ _ ?_; clear hK K)
    | (refine wcond (fun hc => ?_) (fun hc => ?_) <;> first | contradiction | (exfalso; omega) | skip)
    | refine cm (hex) ?_
    | refine cm (hmust) ?_
    | refine cm (hfind) ?_
    | refine cm (hfa) ?_
    | refine ap_over (letB (exprK n) c a).vars (letB (exprK n) c a).more [⟨(c.node a).name, (exprK n c (c.kid a 0)).2, (letB (exprK n) c a).size⟩] ?_
    | refine wkB ?_
    | exact True.intro
    | (clear hK K)))
      (refine retd [] ?_; try simp only [go_sem])
  · have e1 : letB (exprK n) c a = letA (exprK n) c a := if_neg c1
    rw [e1] at hfb
    by_cases c2 : 24 ≤ (letA (exprK n) c a).size
    · have e2 : letC (exprK n) c a = (letA (exprK n) c a).fails 4 a := by unfold letC; rw [e1]; exact if_pos c2
      rw [← e2] at hfb
      (repeat' (first
    | refine awp_seq_k fun K hK => ?_
    | refine wkA ?_
    | refine dE 7 [0, 1, 2, 3, 4, 5, 6, 7, 8, 9, 10, 11] mixed ?_
    | refine dE 8 [0, 1, 2, 3, 4, 5, 6, 7, 8, 9, 10, 11, 12, 13, 14, 15, 16, 17] mixed ?_
    | (refine hK _ _ ?_; clear hK K)
    | (refine wcond (fun hc => ?_) (fun hc => ?_) <;> first | contradiction | (exfalso; omega) | skip)
    | refine cm (hex) ?_
    | refine cm (hmust) ?_
    | refine cm (hfind) ?_
    | refine cm (hfb) ?_
    | refine ap_over (letC (exprK n) c a).vars (letC (exprK n) c a).more [⟨(c.node a).name, (exprK n c (c.kid a 0)).2, (letC (exprK n) c a).size⟩] ?_
    | refine wkB ?_
    | exact True.intro
    | (clear hK K)))
      (refine retd [] ?_; try simp only [go_sem])
    · have e2 : letC (exprK n) c a = letA (exprK n) c a := by unfold letC; rw [e1]; exact if_neg c2
      rw [e2] at hsl hcz hcv hcc
      rw [e2]
      (repeat' (first
    | refine awp_seq_k fun K hK => ?_
    | refine wkA ?_
    | refine dE 7 [0, 1, 2, 3, 4, 5, 6, 7, 8, 9, 10, 11] mixed ?_
    | refine dE 8 [0, 1, 2, 3, 4, 5, 6, 7, 8, 9, 10, 11, 12, 13, 14, 15, 16, 17] mixed ?_
    | (refine hK _ _ ?_; clear hK K)
    | (refine wcond (fun hc => ?_) (fun hc => ?_) <;> first | contradiction | (exfalso; omega) | skip)
    | refine cm (hex) ?_
    | refine cm (hmust) ?_
    | refine cm (hfind) ?_
    | refine ap_over (letA (exprK n) c a).vars (letA (exprK n) c a).more [⟨(c.node a).name, (exprK n c (c.kid a 0)).2, (letA (exprK n) c a).size⟩] ?_
    | refine wkB ?_
    | exact True.intro
    | (clear hK K)))
      (refine retd [] ?_; try simp only [go_sem])
set_option maxHeartbeats 4000000 in
set_option maxRecDepth 10000 in
theorem kblock_c (n : Nat) (hs : KStmtC n) : KBlockC n := by
  intro c a h h0 h1 hn hk
  obtain ⟨sh, hkid⟩ := ck_node h h0 h1
  have hlen : (nth c.tree.nodes a.toNat).l.length ≤ 300 := ck_len h h0 h1
  have e0 := ev_noteF c a
  have hq0 := h.ev e0
  have hfl := h.fns
  have hvz := h.vars
  have hsz := h.size
  refine entM Tryz.func60 Tryz.ntmps60 ?_
  (refine S ?_; try exact True.intro)
  (repeat' (first
    | refine awp_seq_k fun K hK => ?_
    | refine wkA ?_
    | refine dE 0 [0, 1, 2, 3, 4, 5, 6, 7, 8, 9, 10, 11] mixed ?_
    | refine dE 7 [0, 1, 2, 3, 4, 5, 6, 7, 8, 9, 10, 11, 12, 13, 14, 15] mixed ?_
    | (refine hK _ _ ?_; clear hK K)
    | (refine wcond (fun hc => ?_) (fun hc => ?_) <;> first | contradiction | (exfalso; omega) | skip)
    | refine wkB ?_
    | exact True.intro
    | (clear hK K)))
  have hKo := hK; clear hK
  refine awp_loop_inv (S := Nat × Ck) [(6, 1), (33, 19)] (fun s => s.1 ≤ (c.node a).l.length ∧ Sv (c.noteF a) s.2 ∧ stmtsK (statementK n) s.2 ((c.node a).l.drop s.1) = stmtsK (statementK n) (c.noteF a) (c.node a).l) (fun s => [(6, rI s.1)]) (fun s => ⟨[0, 1, 2, 3, 4, 5], encK s.2⟩) (fun s => (c.node a).l.length - s.1) (0, c.noteF a) ⟨by (try simp only); omega, .refl hq0, rfl⟩ (fle_at heq_ lle) ?_
  rintro ⟨i, q⟩ ⟨hi, hq, hA⟩ Kr hKr
  simp only at hi hq hA
  (refine S ?_; try exact True.intro)
  have lt1 := hq.inv.types
  have lt3 := hq.inv.fns
  have lt4 := hq.inv.vars
  have lt5 := hq.inv.size
  by_cases hgo : i < (c.node a).l.length ∧ q.e = 0
  · obtain ⟨hg1, hg2⟩ := hgo
    have hg1' : i < (nth c.tree.nodes a.toNat).l.length := hg1
    rw [drop_nth hg1, stmtsK, if_pos hg2] at hA
    have hm : nth (c.node a).l i ∈ (c.node a).l := nth_mem hg1
    have hb := hkid _ hm
    have hst := hs q (nth (c.node a).l i) hq.inv hg2 hb.1 (by rw [hq.tree]; show _ < (c.tree.nodes.length : Int); omega) (by omega) (by
      have : q.node (nth (c.node a).l i) = c.node (nth (c.node a).l i) := by unfold Ck.node; rw [hq.tree]; rfl
      rw [this]; exact sh.block hk _ hm)
    (have W := hg2; repeat' (first
    | refine awp_seq_k fun K hK => ?_
    | refine wkA ?_
    | refine dE 0 [0, 1, 2, 3, 4, 5, 6, 7, 8, 9, 10, 11] mixed ?_
    | refine dE 7 [0, 1, 2, 3, 4, 5, 6, 7, 8, 9, 10, 11, 12, 13, 14, 15] mixed ?_
    | (refine hK _ _ ?_; clear hK K)
    | (refine wcond (fun hc => ?_) (fun hc => ?_) <;> first | contradiction | (exfalso; omega) | skip)
    | (refine hKo _ _ ?_)
    | refine cm (hst) ?_
    | refine wkB ?_
    | exact True.intro
    | (clear hK K))); all_goals (try clear W)
    refine hKr _ _ (next_mk (i + 1, statementK n q (nth (c.node a).l i)) ⟨by (try simp only); omega, hq.trans (sv_statement n q _ hq.inv hg2), hA⟩ (by (try simp only); omega) heq_ lle)
  · have hz : q = stmtsK (statementK n) (c.noteF a) (c.node a).l := by
      by_cases hg1 : i < (c.node a).l.length
      · rw [drop_nth hg1, stmtsK, if_neg fun e => hgo ⟨hg1, e⟩] at hA
        exact hA
      · rw [List.drop_eq_nil_of_le (by omega), stmtsK] at hA
        exact hA
    have e1 : blockK (statementK n) c a = { q with vars := q.vars.take (min c.vars.length q.vars.length), more := q.vars.drop (min c.vars.length q.vars.length) ++ q.more } := by
      unfold blockK
      rw [← hz]
    obtain ⟨u, hu⟩ := hq.pre
    have hu : q.vars = c.vars ++ u := hu
    have hmin : min c.vars.length q.vars.length = c.vars.length := by rw [hu]; simp
    have hgo' : ¬(i < (nth c.tree.nodes a.toNat).l.length ∧ q.e = 0) := hgo
    (repeat' (first
    | refine awp_seq_k fun K hK => ?_
    | refine wkA ?_
    | refine dE 0 [0, 1, 2, 3, 4, 5, 6, 7, 8, 9, 10, 11] mixed ?_
    | refine dE 7 [0, 1, 2, 3, 4, 5, 6, 7, 8, 9, 10, 11, 12, 13, 14, 15] mixed ?_
    | (refine hK _ _ ?_; clear hK K)
    | (refine wcond (fun hc => ?_) (fun hc => ?_) <;> first | contradiction | (exfalso; omega) | skip)
    | (refine hKo _ _ ?_)
    | refine wkB ?_
    | exact True.intro
    | (clear hK K)))
    all_goals first | (exact absurd ⟨by have := hc.1; omega, hc.2⟩ hgo') | skip
    have ht : q.vars.take c.vars.length = c.vars := by rw [hu, List.take_left' rfl]
    have hd : q.vars.drop c.vars.length = u := by rw [hu, List.drop_left' rfl]
    rw [e1, hmin, ht, hd]
    (refine retf [] ?_ ?_ <;> (try simp only [go_sem]))
    simp only [hu, List.map_append, List.append_assoc, List.length_append, Nat.add_assoc]
    rw [if_neg (by omega), Int.toNat_natCast]
set_option maxHeartbeats 4000000 in
set_option maxRecDepth 10000 in
theorem kreturns_c (n : Nat) (hx : KExprC n) (c : Ck) (a : Int) (h : CkIn c) (h0 : 0 ≤ a) (h1 : a < c.tree.nodes.length) (hn : a.toNat ≤ n) (hk : (c.node a).kind = 17) : ACalls Tryz.prog 89 [pR, rI a] (encK c) (fun v l => v = .tup [] ∧ l = encK (returnsK (exprK n) c a)) := by
  obtain ⟨sh, hkid⟩ := ck_node h h0 h1
  have hfn := h.flo
  have hfh := h.fhi
  have hlen : (nth c.tree.nodes a.toNat).l.length ≤ 300 := ck_len h h0 h1
  have hfail := kfails_c c 43 a
  have hcast : decide (((c.node a).l.length : Int) = 1) = decide ((c.node a).l.length = 1) := by rw [decide_eq_decide]; omega
  by_cases b : decide ((c.node a).l.length = 1) ≠ (!decide ((nth c.tree.fns c.fn.toNat).ret = 0))
  · have e1 : returnsK (exprK n) c a = c.fails 43 a := if_pos b
    have hb : (decide (((nth c.tree.nodes a.toNat).l.length : Int) = 1) == !decide ((nth c.tree.fns c.fn.toNat).ret = 0)) = false := by
      rw [show ((nth c.tree.nodes a.toNat).l.length) = (c.node a).l.length from rfl, hcast]
      simpa using b
    rw [e1]
    refine entM Tryz.func89 Tryz.ntmps89 ?_
    (refine S ?_; try exact True.intro)
    (have W := hb; repeat' (first
    | refine awp_seq_k fun K hK => ?_
    | refine wkA ?_
    | refine dE 1 [0, 1, 2, 3, 4, 5, 6, 7, 8, 9, 10, 11, 12, 13] mixed ?_
    | (refine hK _ _ ?_; clear hK K)
    | (refine wcond (fun hc => ?_) (fun hc => ?_) <;> first | contradiction | (exfalso; omega) | skip)
    | refine cm (hfail) ?_
    | refine wkB ?_
    | exact True.intro
    | (clear hK K))); all_goals (try clear W)
    (refine retd [] ?_; try simp only [go_sem])
  · have hb : (decide (((nth c.tree.nodes a.toNat).l.length : Int) = 1) == !decide ((nth c.tree.fns c.fn.toNat).ret = 0)) = true := by
      rw [show ((nth c.tree.nodes a.toNat).l.length) = (c.node a).l.length from rfl, hcast]
      rw [Classical.not_not.1 b]; exact beq_self_eq_true _
    by_cases hl : (c.node a).l.length = 1
    · have hl' : (nth c.tree.nodes a.toNat).l.length = 1 := hl
      have e1 : returnsK (exprK n) c a = (exprK n c (c.kid a 0)).1.must (decide ((exprK n c (c.kid a 0)).2 = (nth c.tree.fns c.fn.toNat).ret)) a := by unfold returnsK; simp only; rw [if_neg b, if_pos hl]
      rcases sh.ret hk with h2 | ⟨x, h2, h3⟩
      · rw [h2] at hl; cases hl
      have hkx : c.kid a 0 = x := by unfold Ck.kid; rw [h2]; rfl
      have hm := hkid x (by rw [h2]; simp)
      have hex := hx c (c.kid a 0) h (by omega) (by omega) (by omega) (by rw [hkx]; exact .inl h3)
      have hmust := kmust_c (exprK n c (c.kid a 0)).1 (decide ((exprK n c (c.kid a 0)).2 = (nth c.tree.fns c.fn.toNat).ret)) a
      rw [e1]
      refine entM Tryz.func89 Tryz.ntmps89 ?_
      (refine S ?_; try exact True.intro)
      (have W := hb; repeat' (first
    | refine awp_seq_k fun K hK => ?_
    | refine wkA ?_
    | refine dE 1 [0, 1, 2, 3, 4, 5, 6, 7, 8, 9, 10, 11, 12, 13] mixed ?_
    | (refine hK _ _ ?_; clear hK K)
    | (refine wcond (fun hc => ?_) (fun hc => ?_) <;> first | contradiction | (exfalso; omega) | skip)
    | refine cm (hex) ?_
    | refine cm (hmust) ?_
    | refine wkB ?_
    | exact True.intro
    | (clear hK K))); all_goals (try clear W)
      (refine retd [] ?_; try simp only [go_sem])
    · have hl' : ¬ (nth c.tree.nodes a.toNat).l.length = 1 := hl
      have e1 : returnsK (exprK n) c a = c := by unfold returnsK; simp only; rw [if_neg b, if_neg hl]
      rw [e1]
      refine entM Tryz.func89 Tryz.ntmps89 ?_
      (refine S ?_; try exact True.intro)
      (have W := hb; repeat' (first
    | refine awp_seq_k fun K hK => ?_
    | refine wkA ?_
    | refine dE 1 [0, 1, 2, 3, 4, 5, 6, 7, 8, 9, 10, 11, 12, 13] mixed ?_
    | (refine hK _ _ ?_; clear hK K)
    | (refine wcond (fun hc => ?_) (fun hc => ?_) <;> first | contradiction | (exfalso; omega) | skip)
    | refine wkB ?_
    | exact True.intro
    | (clear hK K))); all_goals (try clear W)
      (refine retd [] ?_; try simp only [go_sem])
end Go.Proofs.YtbpmikjlfgfbmaaGreatDoor

namespace Go.Proofs.YtbpmikjlfgfbmaaGreatDoor
open Go Go.Gd
def KLetC (n : Nat) : Prop := ∀ (c : Ck) (a : Int), CkIn c → c.e = 0 → 0 ≤ a → a < c.tree.nodes.length → a.toNat ≤ n → (c.node a).kind = 10 → ACalls Tryz.prog 85 [pR, rI a] (encK c) (fun v l => v = .tup [] ∧ l = encK (letK (exprK n) c a))
def KRetC (n : Nat) : Prop := ∀ (c : Ck) (a : Int), CkIn c → 0 ≤ a → a < c.tree.nodes.length → a.toNat ≤ n → (c.node a).kind = 17 → ACalls Tryz.prog 89 [pR, rI a] (encK c) (fun v l => v = .tup [] ∧ l = encK (returnsK (exprK n) c a))
set_option maxHeartbeats 8000000 in
set_option maxRecDepth 10000 in
theorem kstatement_c (n : Nat) (hx : KExprC n) (hl : KLetC n) (hr : KRetC n) (hbl : KBlockC n) : KStmtC (n + 1) := by
  intro c a h he h0 h1 hn hk
  have ev := ev_noteF c a
  have hq := h.ev ev
  obtain ⟨sh, hkid⟩ := ck_node h h0 h1
  have hlen : (nth c.tree.nodes a.toNat).l.length ≤ 300 := ck_len h h0 h1
  have hfl := h.fns
  have hvz := h.vars
  have hsz := h.size
  have hmem : ∀ i, i < (c.node a).l.length → (c.kid a i).toNat < n ∧ 0 ≤ c.kid a i ∧ c.kid a i < c.tree.nodes.length := fun i hi => by
    have hm : c.kid a i ∈ (c.node a).l := nth_mem hi
    have := hkid _ hm
    omega
  have en := ev_named (c.noteF a) a
  have hqn := hq.ev en
  have hnm := knamed_c (c.noteF a) a hq h0 h1
  have e17 : (c.node a).kind = 10 ∨ (c.node a).kind = 11 ∨ (c.node a).kind = 12 ∨ (c.node a).kind = 13 ∨ (c.node a).kind = 14 ∨ (c.node a).kind = 17 ∨ ((c.node a).kind = 15 ∨ (c.node a).kind = 16) := by unfold isS at hk; omega
  rcases e17 with k | k | k | k | k | k | k
  · have hk' : (nth c.tree.nodes a.toNat).kind = 10 := k
    have k0 : ((c.noteF a).node a).kind = 10 := k
    have hlc := hl (c.noteF a) a hq he h0 h1 (by omega) k0
    rw [show statementK (n + 1) c a = letK (exprK n) (c.noteF a) a from by unfold statementK; simp only; rw [k0]; rfl]
    refine entM Tryz.func78 Tryz.ntmps78 ?_
    (refine S ?_; try exact True.intro)
    (have W := hk'; repeat' (first
    | refine awp_seq_k fun K hK => ?_
    | refine wkA ?_
    | refine dE 1 [0, 1, 2, 3, 4, 5, 6, 7, 8, 9, 10, 11] mixed ?_
    | (refine hK _ _ ?_; clear hK K)
    | (refine wcond (fun hc => ?_) (fun hc => ?_) <;> first | contradiction | (exfalso; omega) | skip)
    | refine cm (hlc) ?_
    | refine wkB ?_
    | exact True.intro
    | (clear hK K))); all_goals (try clear W)
    (refine retd [] ?_; try simp only [go_sem])
  · have hk' : (nth c.tree.nodes a.toNat).kind = 11 := k
    have k0 : ((c.noteF a).node a).kind = 11 := k
    obtain ⟨x, hl0, hx0⟩ := sh.right (by omega)
    have hl1 : (c.node a).l.length = 1 := by rw [hl0]; rfl
    have hl' : (nth c.tree.nodes a.toNat).l.length = 1 := hl1
    obtain ⟨g0a, g0b, g0c⟩ := hmem 0 (by omega)
    have hk0 : c.kid a 0 = x := by unfold Ck.kid; rw [hl0]; rfl
    have hex := hx ((c.noteF a).named a).1 (c.kid a 0) hqn g0b (by rw [en.tree]; exact g0c) g0a (by rw [en.node]; show isR (c.node (c.kid a 0)).kind; rw [hk0]; exact hx0)
    have hmust := kmust_c (exprK n ((c.noteF a).named a).1 (c.kid a 0)).1 (decide (((c.noteF a).named a).2 = (exprK n ((c.noteF a).named a).1 (c.kid a 0)).2)) a
    rw [show statementK (n + 1) c a = (exprK n ((c.noteF a).named a).1 (c.kid a 0)).1.must (decide (((c.noteF a).named a).2 = (exprK n ((c.noteF a).named a).1 (c.kid a 0)).2)) a from by unfold statementK; simp only; rw [k0]; rfl]
    refine entM Tryz.func78 Tryz.ntmps78 ?_
    (refine S ?_; try exact True.intro)
    (have W := hk'; repeat' (first
    | refine awp_seq_k fun K hK => ?_
    | refine wkA ?_
    | refine dE 1 [0, 1, 2, 3, 4, 5, 6, 7, 8, 9, 10, 11] mixed ?_
    | (refine hK _ _ ?_; clear hK K)
    | (refine wcond (fun hc => ?_) (fun hc => ?_) <;> first | contradiction | (exfalso; omega) | skip)
    | refine cm (hnm) ?_
    | refine cm (hex) ?_
    | refine cm (hmust) ?_
    | refine wkB ?_
    | exact True.intro
    | (clear hK K))); all_goals (try clear W)
    (refine retd [] ?_; try simp only [go_sem])
  · have hk' : (nth c.tree.nodes a.toNat).kind = 12 := k
    have k0 : ((c.noteF a).node a).kind = 12 := k
    obtain ⟨x, y, hl0, hx0, hx1⟩ := sh.two (by omega)
    have hl1 : (c.node a).l.length = 2 := by rw [hl0]; rfl
    have hl' : (nth c.tree.nodes a.toNat).l.length = 2 := hl1
    obtain ⟨g0a, g0b, g0c⟩ := hmem 0 (by omega)
    have hk0 : c.kid a 0 = x := by unfold Ck.kid; rw [hl0]; rfl
    obtain ⟨g1a, g1b, g1c⟩ := hmem 1 (by omega)
    have hk1 : c.kid a 1 = y := by unfold Ck.kid; rw [hl0]; rfl
    have ex1 := ev_expr n ((c.noteF a).named a).1 (c.kid a 0)
    have hex := hx ((c.noteF a).named a).1 (c.kid a 0) hqn g0b (by rw [en.tree]; exact g0c) g0a (by rw [en.node]; show isR (c.node (c.kid a 0)).kind; rw [hk0]; exact .inl hx0)
    have hey := hx (exprK n ((c.noteF a).named a).1 (c.kid a 0)).1 (c.kid a 1) (hqn.ev ex1) g1b (by rw [ex1.tree, en.tree]; exact g1c) g1a (by rw [ex1.node, en.node]; show isR (c.node (c.kid a 1)).kind; rw [hk1]; exact .inl hx1)
    have hmust := kmust_c (exprK n (exprK n ((c.noteF a).named a).1 (c.kid a 0)).1 (c.kid a 1)).1 (decide (((c.noteF a).named a).2 = 4) && decide ((exprK n ((c.noteF a).named a).1 (c.kid a 0)).2 = 1) && decide ((exprK n (exprK n ((c.noteF a).named a).1 (c.kid a 0)).1 (c.kid a 1)).2 = 1)) a
    rw [show statementK (n + 1) c a = (exprK n (exprK n ((c.noteF a).named a).1 (c.kid a 0)).1 (c.kid a 1)).1.must (decide (((c.noteF a).named a).2 = 4) && decide ((exprK n ((c.noteF a).named a).1 (c.kid a 0)).2 = 1) && decide ((exprK n (exprK n ((c.noteF a).named a).1 (c.kid a 0)).1 (c.kid a 1)).2 = 1)) a from by unfold statementK; simp only; rw [k0]; rfl]
    refine entM Tryz.func78 Tryz.ntmps78 ?_
    (refine S ?_; try exact True.intro)
    (have W := hk'; repeat' (first
    | refine awp_seq_k fun K hK => ?_
    | refine wkA ?_
    | refine dE 1 [0, 1, 2, 3, 4, 5, 6, 7, 8, 9, 10, 11] mixed ?_
    | (refine hK _ _ ?_; clear hK K)
    | (refine wcond (fun hc => ?_) (fun hc => ?_) <;> first | contradiction | (exfalso; omega) | skip)
    | refine cm (hnm) ?_
    | refine cm (hex) ?_
    | refine cm (hey) ?_
    | refine cm (hmust) ?_
    | refine wkB ?_
    | exact True.intro
    | (clear hK K))); all_goals (try clear W)
    (refine retd [] ?_; try simp only [go_sem])
  · have hk' : (nth c.tree.nodes a.toNat).kind = 13 := k
    have k0 : ((c.noteF a).node a).kind = 13 := k
    obtain ⟨x, hl0, hx0⟩ := sh.do_ (by omega)
    have hl1 : (c.node a).l.length = 1 := by rw [hl0]; rfl
    have hl' : (nth c.tree.nodes a.toNat).l.length = 1 := hl1
    obtain ⟨g0a, g0b, g0c⟩ := hmem 0 (by omega)
    have hk0 : c.kid a 0 = x := by unfold Ck.kid; rw [hl0]; rfl
    have hex := hx (c.noteF a) (c.kid a 0) hq g0b g0c g0a (by show isR (c.node (c.kid a 0)).kind; rw [hk0]; exact .inr (.inr (.inr hx0)))
    rw [show statementK (n + 1) c a = (exprK n (c.noteF a) (c.kid a 0)).1 from by unfold statementK; simp only; rw [k0]; rfl]
    refine entM Tryz.func78 Tryz.ntmps78 ?_
    (refine S ?_; try exact True.intro)
    (have W := hk'; repeat' (first
    | refine awp_seq_k fun K hK => ?_
    | refine wkA ?_
    | refine dE 1 [0, 1, 2, 3, 4, 5, 6, 7, 8, 9, 10, 11] mixed ?_
    | (refine hK _ _ ?_; clear hK K)
    | (refine wcond (fun hc => ?_) (fun hc => ?_) <;> first | contradiction | (exfalso; omega) | skip)
    | refine cm (hex) ?_
    | refine wkB ?_
    | exact True.intro
    | (clear hK K))); all_goals (try clear W)
    (refine retd [] ?_; try simp only [go_sem])
  · have hk' : (nth c.tree.nodes a.toNat).kind = 14 := k
    have k0 : ((c.noteF a).node a).kind = 14 := k
    obtain ⟨x, hl0, hx0⟩ := sh.one (by omega)
    have hl1 : (c.node a).l.length = 1 := by rw [hl0]; rfl
    have hl' : (nth c.tree.nodes a.toNat).l.length = 1 := hl1
    obtain ⟨g0a, g0b, g0c⟩ := hmem 0 (by omega)
    have hk0 : c.kid a 0 = x := by unfold Ck.kid; rw [hl0]; rfl
    have hex := hx (c.noteF a) (c.kid a 0) hq g0b g0c g0a (by show isR (c.node (c.kid a 0)).kind; rw [hk0]; exact .inl hx0)
    have hmust := kmust_c (exprK n (c.noteF a) (c.kid a 0)).1 (!decide ((exprK n (c.noteF a) (c.kid a 0)).2 = 4)) a
    rw [show statementK (n + 1) c a = (exprK n (c.noteF a) (c.kid a 0)).1.must (!decide ((exprK n (c.noteF a) (c.kid a 0)).2 = 4)) a from by unfold statementK; simp only; rw [k0]; rfl]
    refine entM Tryz.func78 Tryz.ntmps78 ?_
    (refine S ?_; try exact True.intro)
    (have W := hk'; repeat' (first
    | refine awp_seq_k fun K hK => ?_
    | refine wkA ?_
    | refine dE 1 [0, 1, 2, 3, 4, 5, 6, 7, 8, 9, 10, 11] mixed ?_
    | (refine hK _ _ ?_; clear hK K)
    | (refine wcond (fun hc => ?_) (fun hc => ?_) <;> first | contradiction | (exfalso; omega) | skip)
    | refine cm (hex) ?_
    | refine cm (hmust) ?_
    | refine wkB ?_
    | exact True.intro
    | (clear hK K))); all_goals (try clear W)
    (refine retd [] ?_; try simp only [go_sem])
  · have hk' : (nth c.tree.nodes a.toNat).kind = 17 := k
    have k0 : ((c.noteF a).node a).kind = 17 := k
    have hrc := hr (c.noteF a) a hq h0 h1 (by omega) k0
    rw [show statementK (n + 1) c a = returnsK (exprK n) (c.noteF a) a from by unfold statementK; simp only; rw [k0]; rfl]
    refine entM Tryz.func78 Tryz.ntmps78 ?_
    (refine S ?_; try exact True.intro)
    (have W := hk'; repeat' (first
    | refine awp_seq_k fun K hK => ?_
    | refine wkA ?_
    | refine dE 1 [0, 1, 2, 3, 4, 5, 6, 7, 8, 9, 10, 11] mixed ?_
    | (refine hK _ _ ?_; clear hK K)
    | (refine wcond (fun hc => ?_) (fun hc => ?_) <;> first | contradiction | (exfalso; omega) | skip)
    | refine cm (hrc) ?_
    | refine wkB ?_
    | exact True.intro
    | (clear hK K))); all_goals (try clear W)
    (refine retd [] ?_; try simp only [go_sem])
  · have hall : 1 ≤ (c.node a).l.length ∧ isE (c.node (c.kid a 0)).kind ∧ ∀ i, i < (c.node a).l.length → 1 ≤ i → (c.node (nth (c.node a).l i)).kind = 18 := by
      have fin : ∀ {x y : Int}, (c.node a).l = [x, y] → isE (kindAt c.tree.nodes x) → kindAt c.tree.nodes y = 18 → 1 ≤ (c.node a).l.length ∧ isE (c.node (c.kid a 0)).kind ∧ ∀ i, i < (c.node a).l.length → 1 ≤ i → (c.node (nth (c.node a).l i)).kind = 18 := fun {x y} e hx hy => by
        refine ⟨by rw [e]; simp, by have : c.kid a 0 = x := by unfold Ck.kid; rw [e]; rfl
                                    rw [this]; exact hx, fun i hi h1 => ?_⟩
        rw [e] at hi ⊢
        obtain rfl : i = 1 := by simp at hi; omega
        exact hy
      rcases k with k | k
      · obtain ⟨x, y, hxe, hye, hl0⟩ := sh.if_ k
        rcases hl0 with hl0 | ⟨d, hl0, hd⟩
        · exact fin hl0 hxe hye
        · refine ⟨by rw [hl0]; simp, by have : c.kid a 0 = x := by unfold Ck.kid; rw [hl0]; rfl
                                        rw [this]; exact hxe, fun i hi h1 => ?_⟩
          rw [hl0] at hi ⊢
          rcases (show i = 1 ∨ i = 2 by simp at hi; omega) with rfl | rfl
          · exact hye
          · exact hd
      · obtain ⟨x, y, hl0, hxe, hye⟩ := sh.while_ k
        exact fin hl0 hxe hye
    obtain ⟨hl1, hxe, hblk⟩ := hall
    have hl' : 1 ≤ (nth c.tree.nodes a.toNat).l.length := hl1
    obtain ⟨g0a, g0b, g0c⟩ := hmem 0 (by omega)
    have hex := hx (c.noteF a) (c.kid a 0) hq g0b g0c g0a (.inl hxe)
    have eM : Ev c ((exprK n (c.noteF a) (c.kid a 0)).1.must (decide ((exprK n (c.noteF a) (c.kid a 0)).2 = 2)) a) := (ev.trans (ev_expr n _ _)).trans (ev_must _ _ _)
    have hM := h.ev eM
    have hmust := kmust_c (exprK n (c.noteF a) (c.kid a 0)).1 (decide ((exprK n (c.noteF a) (c.kid a 0)).2 = 2)) a
    rcases k with k | k
    · have hk' : (nth c.tree.nodes a.toNat).kind = 15 := k
      have k0 : ((c.noteF a).node a).kind = 15 := k
      rw [show statementK (n + 1) c a = stmtsK (blockK (statementK n)) ((exprK n (c.noteF a) (c.kid a 0)).1.must (decide ((exprK n (c.noteF a) (c.kid a 0)).2 = 2)) a) ((c.node a).l.drop 1) from by unfold statementK; simp only; rw [k0]; rfl]
      generalize hY : stmtsK (blockK (statementK n)) ((exprK n (c.noteF a) (c.kid a 0)).1.must (decide ((exprK n (c.noteF a) (c.kid a 0)).2 = 2)) a) ((c.node a).l.drop 1) = Y
      refine entM Tryz.func78 Tryz.ntmps78 ?_
      (refine S ?_; try exact True.intro)
      (have W := hk'; repeat' (first
    | refine awp_seq_k fun K hK => ?_
    | refine wkA ?_
    | refine dE 1 [0, 1, 2, 3, 4, 5, 6, 7, 8, 9, 10, 11] mixed ?_
    | (refine hK _ _ ?_; clear hK K)
    | (refine wcond (fun hc => ?_) (fun hc => ?_) <;> first | contradiction | (exfalso; omega) | skip)
    | refine cm (hex) ?_
    | refine cm (hmust) ?_
    | refine wkB ?_
    | exact True.intro
    | (clear hK K))); all_goals (try clear W)
      refine awp_loop_inv (S := Nat × Ck) [(12, 1), (46, 21)] (fun s => s.1 ≤ (c.node a).l.length ∧ 1 ≤ s.1 ∧ CkIn s.2 ∧ s.2.tree = c.tree ∧ stmtsK (blockK (statementK n)) s.2 ((c.node a).l.drop s.1) = Y) (fun s => [(12, rI s.1)]) (fun s => ⟨[0, 1, 2, 3, 4, 5], encK s.2 ++ [(6, .var 42 (eGNode (c.node a)))]⟩) (fun s => (c.node a).l.length - s.1) (1, (exprK n (c.noteF a) (c.kid a 0)).1.must (decide ((exprK n (c.noteF a) (c.kid a 0)).2 = 2)) a) ⟨by (try simp only); omega, Nat.le_refl _, hM, eM.tree, hY⟩ (fle_at heq_ lle) ?_
      rintro ⟨i, z⟩ ⟨hi, hi1, hz, hzt, hA⟩ Kr hKr
      simp only at hi hi1 hz hzt hA
      have hi' : i ≤ (nth c.tree.nodes a.toNat).l.length := hi
      (refine S ?_; try exact True.intro)
      by_cases hgo : i < (c.node a).l.length ∧ z.e = 0
      · obtain ⟨hg1, hg2⟩ := hgo
        have hg1' : i < (nth c.tree.nodes a.toNat).l.length := hg1
        rw [drop_nth hg1, stmtsK, if_pos hg2] at hA
        have hm : nth (c.node a).l i ∈ (c.node a).l := nth_mem hg1
        have hb := hkid _ hm
        have hbc := hbl z (nth (c.node a).l i) hz hb.1 (by rw [hzt]; omega) (by omega) (by
          have : z.node (nth (c.node a).l i) = c.node (nth (c.node a).l i) := by unfold Ck.node; rw [hzt]
          rw [this]; exact hblk i hg1 hi1)
        have sz := (sv_block (fun q b hq he => sv_statement n q b hq he) hz (nth (c.node a).l i)).1
        (have W := hg2; repeat' (first
    | refine awp_seq_k fun K hK => ?_
    | refine wkA ?_
    | refine dE 1 [0, 1, 2, 3, 4, 5, 6, 7, 8, 9, 10, 11] mixed ?_
    | (refine hK _ _ ?_; clear hK K)
    | (refine wcond (fun hc => ?_) (fun hc => ?_) <;> first | contradiction | (exfalso; omega) | skip)
    | refine cm (hbc) ?_
    | refine wkB ?_
    | exact True.intro
    | (clear hK K))); all_goals (try clear W)
        refine hKr _ _ (next_mk (i + 1, blockK (statementK n) z (nth (c.node a).l i)) ⟨by (try simp only); omega, by (try simp only); omega, sz.inv, sz.tree.trans hzt, hA⟩ (by (try simp only); omega) heq_ lle)
      · have hz2 : z = Y := by
          by_cases hg1 : i < (c.node a).l.length
          · rw [drop_nth hg1, stmtsK, if_neg fun e => hgo ⟨hg1, e⟩] at hA
            exact hA
          · rw [List.drop_eq_nil_of_le (by omega), stmtsK] at hA
            exact hA
        have hgo' : ¬(i < (nth c.tree.nodes a.toNat).l.length ∧ z.e = 0) := hgo
        (repeat' (first
    | refine awp_seq_k fun K hK => ?_
    | refine wkA ?_
    | refine dE 1 [0, 1, 2, 3, 4, 5, 6, 7, 8, 9, 10, 11] mixed ?_
    | (refine hK _ _ ?_; clear hK K)
    | (refine wcond (fun hc => ?_) (fun hc => ?_) <;> first | contradiction | (exfalso; omega) | skip)
    | refine wkB ?_
    | exact True.intro
    | (clear hK K)))
        all_goals first | (exact absurd ⟨by have := hc.1; omega, hc.2⟩ hgo') | skip
        rw [← hz2]
        (refine retd [] ?_; try simp only [go_sem])
    · have hk' : (nth c.tree.nodes a.toNat).kind = 16 := k
      have k0 : ((c.noteF a).node a).kind = 16 := k
      rw [show statementK (n + 1) c a = stmtsK (blockK (statementK n)) ((exprK n (c.noteF a) (c.kid a 0)).1.must (decide ((exprK n (c.noteF a) (c.kid a 0)).2 = 2)) a) ((c.node a).l.drop 1) from by unfold statementK; simp only; rw [k0]; rfl]
      generalize hY : stmtsK (blockK (statementK n)) ((exprK n (c.noteF a) (c.kid a 0)).1.must (decide ((exprK n (c.noteF a) (c.kid a 0)).2 = 2)) a) ((c.node a).l.drop 1) = Y
      refine entM Tryz.func78 Tryz.ntmps78 ?_
      (refine S ?_; try exact True.intro)
      (have W := hk'; repeat' (first
    | refine awp_seq_k fun K hK => ?_
    | refine wkA ?_
    | refine dE 1 [0, 1, 2, 3, 4, 5, 6, 7, 8, 9, 10, 11] mixed ?_
    | (refine hK _ _ ?_; clear hK K)
    | (refine wcond (fun hc => ?_) (fun hc => ?_) <;> first | contradiction | (exfalso; omega) | skip)
    | refine cm (hex) ?_
    | refine cm (hmust) ?_
    | refine wkB ?_
    | exact True.intro
    | (clear hK K))); all_goals (try clear W)
      refine awp_loop_inv (S := Nat × Ck) [(12, 1), (46, 21)] (fun s => s.1 ≤ (c.node a).l.length ∧ 1 ≤ s.1 ∧ CkIn s.2 ∧ s.2.tree = c.tree ∧ stmtsK (blockK (statementK n)) s.2 ((c.node a).l.drop s.1) = Y) (fun s => [(12, rI s.1)]) (fun s => ⟨[0, 1, 2, 3, 4, 5], encK s.2 ++ [(6, .var 42 (eGNode (c.node a)))]⟩) (fun s => (c.node a).l.length - s.1) (1, (exprK n (c.noteF a) (c.kid a 0)).1.must (decide ((exprK n (c.noteF a) (c.kid a 0)).2 = 2)) a) ⟨by (try simp only); omega, Nat.le_refl _, hM, eM.tree, hY⟩ (fle_at heq_ lle) ?_
      rintro ⟨i, z⟩ ⟨hi, hi1, hz, hzt, hA⟩ Kr hKr
      simp only at hi hi1 hz hzt hA
      have hi' : i ≤ (nth c.tree.nodes a.toNat).l.length := hi
      (refine S ?_; try exact True.intro)
      by_cases hgo : i < (c.node a).l.length ∧ z.e = 0
      · obtain ⟨hg1, hg2⟩ := hgo
        have hg1' : i < (nth c.tree.nodes a.toNat).l.length := hg1
        rw [drop_nth hg1, stmtsK, if_pos hg2] at hA
        have hm : nth (c.node a).l i ∈ (c.node a).l := nth_mem hg1
        have hb := hkid _ hm
        have hbc := hbl z (nth (c.node a).l i) hz hb.1 (by rw [hzt]; omega) (by omega) (by
          have : z.node (nth (c.node a).l i) = c.node (nth (c.node a).l i) := by unfold Ck.node; rw [hzt]
          rw [this]; exact hblk i hg1 hi1)
        have sz := (sv_block (fun q b hq he => sv_statement n q b hq he) hz (nth (c.node a).l i)).1
        (have W := hg2; repeat' (first
    | refine awp_seq_k fun K hK => ?_
    | refine wkA ?_
    | refine dE 1 [0, 1, 2, 3, 4, 5, 6, 7, 8, 9, 10, 11] mixed ?_
    | (refine hK _ _ ?_; clear hK K)
    | (refine wcond (fun hc => ?_) (fun hc => ?_) <;> first | contradiction | (exfalso; omega) | skip)
    | refine cm (hbc) ?_
    | refine wkB ?_
    | exact True.intro
    | (clear hK K))); all_goals (try clear W)
        refine hKr _ _ (next_mk (i + 1, blockK (statementK n) z (nth (c.node a).l i)) ⟨by (try simp only); omega, by (try simp only); omega, sz.inv, sz.tree.trans hzt, hA⟩ (by (try simp only); omega) heq_ lle)
      · have hz2 : z = Y := by
          by_cases hg1 : i < (c.node a).l.length
          · rw [drop_nth hg1, stmtsK, if_neg fun e => hgo ⟨hg1, e⟩] at hA
            exact hA
          · rw [List.drop_eq_nil_of_le (by omega), stmtsK] at hA
            exact hA
        have hgo' : ¬(i < (nth c.tree.nodes a.toNat).l.length ∧ z.e = 0) := hgo
        (repeat' (first
    | refine awp_seq_k fun K hK => ?_
    | refine wkA ?_
    | refine dE 1 [0, 1, 2, 3, 4, 5, 6, 7, 8, 9, 10, 11] mixed ?_
    | (refine hK _ _ ?_; clear hK K)
    | (refine wcond (fun hc => ?_) (fun hc => ?_) <;> first | contradiction | (exfalso; omega) | skip)
    | refine wkB ?_
    | exact True.intro
    | (clear hK K)))
        all_goals first | (exact absurd ⟨by have := hc.1; omega, hc.2⟩ hgo') | skip
        rw [← hz2]
        (refine retd [] ?_; try simp only [go_sem])
end Go.Proofs.YtbpmikjlfgfbmaaGreatDoor
