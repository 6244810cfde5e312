/- The document's checker: functions. The document's checker: heads, all. The document's checker: all. No conditions. -/
import Derived.Test.YtbpmikjlfgfbmaaGreatDoorCk2
import Derived.Test.YtbpmikjlfgfbmaaGreatDoorCkF
import Derived.Test.YtbpmikjlfgfbmaaGreatDoorCk5
set_option linter.all false
namespace Go.Gd
open Go
/-- A thing's cell of which nothing is said any more. -/
theorem FLe.vague {F : List AV} {H : Hp} (j k : Nat) {t : TypeId} {cs : List AV} (hj : H.get j = some (.var t cs)) : FLe F H F (H.put j (.var t (cs.set k .any))) := fun w tm h1 h2 => by
  obtain ⟨a', b'⟩ := own_cells (cs' := cs.set k .any) h1 (j := j) (t := t) (cs := cs) hj (by simp) fun n x x' v hx hx' hv => by
    rw [List.getElem?_set] at hx'
    by_cases hn : k = n
    · subst hn
      rw [if_pos rfl] at hx'
      split at hx'
      · cases hx'; exact .any _
      · cases hx'
    · rw [if_neg hn] at hx'
      rw [hx] at hx'; cases hx'; exact hv
  exact ⟨w, rfl, a', h2, b'.toB⟩
theorem awp_vague {P : Program} {id : Nat} {l : List Oper} {b : Bool} {Q : Exit → List AV → Hp → Prop} {F : List AV} {H : Hp} {q : Prop} (j k : Nat) {t : TypeId} {cs : List AV} {i m sz n : Nat} (h : q) (hj : H.get j = some (.var t cs) := by rfl) (hc : cs[k]? = some (.rs i m sz n) := by rfl) (e : AWP P (.region id l.toArray b) Q F (H.put j (.var t (cs.set k .any))) = q := by first | (simp only [go_sem]; rfl) | rfl) : AWP P (.region id l.toArray b) Q F H := awp_weak (FLe.vague j k hj) (e ▸ h)
end Go.Gd
namespace Go.Proofs.YtbpmikjlfgfbmaaGreatDoor
open Go Go.Gd
theorem kexpr_all : ∀ n, KExprC n
  | 0 => fun c a h h0 h1 hn => by omega
  | n + 1 => kexpr_c n (ktells_c n (kexpr_all n) (kcall_c n (kexpr_all n)))
theorem kstmt_all : ∀ n, KStmtC n
  | 0 => fun c a h he h0 h1 hn => by omega
  | n + 1 => kstatement_c n (kexpr_all n) (fun c a h he h0 h1 hn hk => klet_c n (kexpr_all n) c a h he h0 h1 hn hk) (fun c a h h0 h1 hn hk => kreturns_c n (kexpr_all n) c a h h0 h1 hn hk) (kblock_c n (kstmt_all n))
def ckCells0 (c : Ck) : List AV := [slOf eGNode 5 c.tree.nodes, slOf eGFunc 5 c.tree.fns, .rs 1 c.types.length 1 c.types.length, .rs 2 c.slots.length 1 c.slots.length, .rs 3 c.fns.length 1 c.fns.length, .rs 4 c.size_.length 1 c.size_.length, rI c.fn, .any, rI c.size, rI c.e, rI c.at_]
def encK0 (c : Ck) : List (Nat × Row) := [(0, .var 83 (ckCells0 c)), (1, .vec 3 1 (c.types.map eI)), (2, .vec 3 1 (c.slots.map eI)), (3, .vec 3 1 (c.fns.map eI)), (4, .vec 3 1 (c.size_.map eI))]
attribute [go_sem] encK0 ckCells0
/-- Between functions. -/
structure CkIn0 (c : Ck) : Prop where
  tree : TreeOk c.tree
  types : c.types.length = c.tree.nodes.length
  slots : c.slots.length = c.tree.nodes.length
  fns : c.fns.length = c.tree.nodes.length
def addV' (c : Ck) (v : GVar) : Ck := { c with vars := c.vars ++ [v], more := c.more.drop 1, size := c.size + 1 }
attribute [go_sem] addV'
theorem in_addV' {c : Ck} (h : CkIn c) (v : GVar) (hs : c.size ≤ 20) : CkIn (addV' c v) := ⟨h.tree, h.types, h.slots, h.fns, h.size_, h.flo, h.fhi, by
  have := h.vars
  show ((c.vars ++ [v]).length : Int) ≤ c.size + 1
  simp
  omega, by show c.size + 1 ≤ 25; omega, fun _ => by show c.size + 1 ≤ 24; omega⟩
set_option maxHeartbeats 4000000 in
set_option maxRecDepth 10000 in
theorem kfunction_c (c : Ck) (k : Nat) (h : CkIn0 c) (hk : k < c.tree.fns.length) (hsz : c.size_.length < 6) : ACalls Tryz.prog 38 [pR, rI k] (encK0 c) (fun v l => v = .tup [] ∧ l = encK0 (functionK c k)) := by
  have hff := h.tree.fns
  have hfn := h.tree.fn _ (nth_mem hk)
  have hp3 := hfn.2
  have hbk := h.tree.body _ (nth_mem hk)
  have hbm := h.tree.chain.mem (nth c.tree.fns k).body (List.mem_map.2 ⟨_, nth_mem hk, rfl⟩)
  refine entM Tryz.func38 Tryz.ntmps38 ?_
  (refine S ?_; try exact True.intro)
  (repeat' (first
    | refine awp_seq_k fun K hK => ?_
    | refine wkA ?_
    | refine dE 9 [0, 1, 2, 3, 4, 5, 6, 7, 8, 9, 10, 11, 12, 13, 14, 15, 16, 17, 18, 19, 20, 21, 22, 23] mixed ?_
    | refine dE 13 [0, 1, 2, 3, 4, 5, 6, 7, 8, 9, 10, 11, 12, 13, 14, 15] mixed ?_
    | (refine hK _ _ ?_; clear hK K)
    | (refine wcond (fun hc => ?_) (fun hc => ?_) <;> first | contradiction | (exfalso; omega) | skip)
    | refine al 6 ?_
    | refine wkB ?_
    | exact True.intro
    | (clear hK K)))
  have hKo := hK; clear hK
  refine awp_weak (FLe.nilC 5 0 7 103 3 rfl (by decide) rfl rfl) ?_
  (refine S ?_; try exact True.intro)
  generalize hc0 : ({ c with fn := (k : Int), vars := [], more := [], size := 0 } : Ck) = c0
  have hi0 : CkIn c0 := by
    subst hc0
    exact ⟨h.tree, h.types, h.slots, h.fns, by show c.size_.length ≤ 6; omega, by show (0 : Int) ≤ k; omega, by show (k : Int) < (c.tree.fns.length : Int); omega, by show ((0 : Nat) : Int) ≤ 0; omega, by show (0 : Int) ≤ 25; omega, fun _ => by show (0 : Int) ≤ 24; omega⟩
  have hc1 : functionK c k = (fun c2 : Ck => { c2 with size_ := c2.size_ ++ [c2.size], vars := [], more := [] }) (if (paramsK (nth c.tree.fns k).body c0 (nth c.tree.fns k).params 0).e = 0 then blockK (statementK c.tree.nodes.length) (paramsK (nth c.tree.fns k).body c0 (nth c.tree.fns k).params 0) (nth c.tree.fns k).body else paramsK (nth c.tree.fns k).body c0 (nth c.tree.fns k).params 0) := by subst hc0; rfl
  refine awp_weak (FLe.perm (encK c0 ++ [(6, .var 78 (eGFunc (nth c.tree.fns k)))]) (fun i => by subst hc0; simp only [go_sem, lget]; (repeat' split) <;> first | rfl | omega)) ?_
  refine awp_loop_inv (S := Nat × Ck) [(5, 1), (25, 50)] (fun s => s.1 ≤ (nth c.tree.fns k).params.length ∧ CkIn s.2 ∧ s.2.size = s.1 ∧ s.2.vars.length = s.1 ∧ s.2.tree = c.tree ∧ s.2.size_ = c.size_ ∧ paramsK (nth c.tree.fns k).body s.2 ((nth c.tree.fns k).params.drop s.1) s.1 = paramsK (nth c.tree.fns k).body c0 (nth c.tree.fns k).params 0) (fun s => [(5, rI s.1)]) (fun s => ⟨[0, 1, 2, 3, 4], encK s.2 ++ [(6, .var 78 (eGFunc (nth c.tree.fns k)))]⟩) (fun s => (nth c.tree.fns k).params.length - s.1) (0, c0) ⟨by (try simp only); omega, hi0, by subst hc0; rfl, by subst hc0; rfl, by subst hc0; rfl, by subst hc0; rfl, rfl⟩ (fle_at rfl lle) ?_
  rintro ⟨i, q⟩ ⟨hi, hq, hqs, hqv, hqt, hqz, hA⟩ Kr hKr
  simp only at hi hq hqs hqv hqt hqz hA
  (refine S ?_; try exact True.intro)
  by_cases hlt : i < (nth c.tree.fns k).params.length
  · rw [drop_nth hlt, paramsK] at hA
    have hfind := kfind_c q (nth (nth c.tree.fns k).params i).name hq
    have hfa := kfails_c q 41 (nth c.tree.fns k).body
    by_cases hf : 0 ≤ q.find (nth (nth c.tree.fns k).params i).name
    · rw [if_pos hf] at hA
      have ef := ev_fails q (e := 41) (by decide) (nth c.tree.fns k).body
      have hv1 := ef.vars
      have hz1 := ef.size
      have hi1 := hq.ev ef
      have hvl : (q.fails 41 (nth c.tree.fns k).body).vars.length = i := by rw [hv1, hqv]
      (repeat' (first
    | refine awp_seq_k fun K hK => ?_
    | refine wkA ?_
    | refine dE 9 [0, 1, 2, 3, 4, 5, 6, 7, 8, 9, 10, 11, 12, 13, 14, 15, 16, 17, 18, 19, 20, 21, 22, 23] mixed ?_
    | refine dE 13 [0, 1, 2, 3, 4, 5, 6, 7, 8, 9, 10, 11, 12, 13, 14, 15] mixed ?_
    | (refine hK _ _ ?_; clear hK K)
    | (refine wcond (fun hc => ?_) (fun hc => ?_) <;> first | contradiction | (exfalso; omega) | skip)
    | (refine hKo _ _ ?_)
    | refine cm (hfind) ?_
    | refine cm (hfa) ?_
    | refine ap_over (q.fails 41 (nth c.tree.fns k).body).vars (q.fails 41 (nth c.tree.fns k).body).more [⟨(nth (nth c.tree.fns k).params i).name, (nth (nth c.tree.fns k).params i).ty, (i : Int)⟩] ?_
    | refine wkB ?_
    | exact True.intro
    | (clear hK K)))
      refine hKr _ _ (next_mk (i + 1, addV' (q.fails 41 (nth c.tree.fns k).body) ⟨(nth (nth c.tree.fns k).params i).name, (nth (nth c.tree.fns k).params i).ty, (i : Int)⟩) ⟨by (try simp only); omega, in_addV' hi1 _ (by omega), by show (q.fails 41 (nth c.tree.fns k).body).size + 1 = _; omega, by show ((q.fails 41 (nth c.tree.fns k).body).vars ++ [_]).length = i + 1; rw [List.length_append, hvl]; rfl, ef.tree.trans hqt, ef.size_.trans hqz, hA⟩ (by (try simp only); omega) heq_ lle)
    · rw [if_neg hf] at hA
      (repeat' (first
    | refine awp_seq_k fun K hK => ?_
    | refine wkA ?_
    | refine dE 9 [0, 1, 2, 3, 4, 5, 6, 7, 8, 9, 10, 11, 12, 13, 14, 15, 16, 17, 18, 19, 20, 21, 22, 23] mixed ?_
    | refine dE 13 [0, 1, 2, 3, 4, 5, 6, 7, 8, 9, 10, 11, 12, 13, 14, 15] mixed ?_
    | (refine hK _ _ ?_; clear hK K)
    | (refine wcond (fun hc => ?_) (fun hc => ?_) <;> first | contradiction | (exfalso; omega) | skip)
    | (refine hKo _ _ ?_)
    | refine cm (hfind) ?_
    | refine ap_over q.vars q.more [⟨(nth (nth c.tree.fns k).params i).name, (nth (nth c.tree.fns k).params i).ty, (i : Int)⟩] ?_
    | refine wkB ?_
    | exact True.intro
    | (clear hK K)))
      refine hKr _ _ (next_mk (i + 1, addV' q ⟨(nth (nth c.tree.fns k).params i).name, (nth (nth c.tree.fns k).params i).ty, (i : Int)⟩) ⟨by (try simp only); omega, in_addV' hq _ (by omega), by show q.size + 1 = _; omega, by show (q.vars ++ [_]).length = i + 1; rw [List.length_append, hqv]; rfl, hqt, hqz, hA⟩ (by (try simp only); omega) heq_ lle)
  · have hz : q = paramsK (nth c.tree.fns k).body c0 (nth c.tree.fns k).params 0 := by
      rw [List.drop_eq_nil_of_le (by omega)] at hA
      exact hA
    rw [← hz] at hc1
    by_cases he : q.e = 0
    · rw [if_pos he] at hc1
      have sb := (sv_block (fun q b hq he => sv_statement c.tree.nodes.length q b hq he) hq (nth c.tree.fns k).body).1
      have hbc := kblock_c c.tree.nodes.length (kstmt_all _) q (nth c.tree.fns k).body hq hbm.1 (by rw [hqt]; omega) (by omega) (by unfold Ck.node; rw [hqt]; exact hbk)
      have hzl : (blockK (statementK c.tree.nodes.length) q (nth c.tree.fns k).body).size_.length < 6 := by rw [sb.size_, hqz]; exact hsz
      (have W := he; repeat' (first
    | refine awp_vague (id := 13) 0 7 ?_
    | refine awp_seq_k fun K hK => ?_
    | refine wkA ?_
    | refine dE 9 [0, 1, 2, 3, 4, 5, 6, 7, 8, 9, 10, 11, 12, 13, 14, 15, 16, 17, 18, 19, 20, 21, 22, 23] mixed ?_
    | refine dE 13 [0, 1, 2, 3, 4, 5, 6, 7, 8, 9, 10, 11, 12, 13, 14, 15] mixed ?_
    | (refine hK _ _ ?_; clear hK K)
    | (refine wcond (fun hc => ?_) (fun hc => ?_) <;> first | contradiction | (exfalso; omega) | skip)
    | (refine hKo _ _ ?_)
    | refine cm (hbc) ?_
    | refine wkB ?_
    | exact True.intro
    | (clear hK K))); all_goals (try clear W)
      rw [hc1]
      (refine retd [] ?_; try simp only [go_sem])
    · rw [if_neg he] at hc1
      have hzl : q.size_.length < 6 := by rw [hqz]; exact hsz
      (have W := he; repeat' (first
    | refine awp_vague (id := 13) 0 7 ?_
    | refine awp_seq_k fun K hK => ?_
    | refine wkA ?_
    | refine dE 9 [0, 1, 2, 3, 4, 5, 6, 7, 8, 9, 10, 11, 12, 13, 14, 15, 16, 17, 18, 19, 20, 21, 22, 23] mixed ?_
    | refine dE 13 [0, 1, 2, 3, 4, 5, 6, 7, 8, 9, 10, 11, 12, 13, 14, 15] mixed ?_
    | (refine hK _ _ ?_; clear hK K)
    | (refine wcond (fun hc => ?_) (fun hc => ?_) <;> first | contradiction | (exfalso; omega) | skip)
    | (refine hKo _ _ ?_)
    | refine wkB ?_
    | exact True.intro
    | (clear hK K))); all_goals (try clear W)
      rw [hc1]
      (refine retd [] ?_; try simp only [go_sem])
end Go.Proofs.YtbpmikjlfgfbmaaGreatDoor

namespace Go.Proofs.YtbpmikjlfgfbmaaGreatDoor
open Go Go.Gd
set_option maxHeartbeats 1000000 in
set_option maxRecDepth 10000 in
theorem kfails0_c (c : Ck) (e a : Int) : ACalls Tryz.prog 58 [pR, rI e, rI a] (encK0 c) (fun v l => v = .tup [] ∧ l = encK0 (c.fails e a)) := by
  refine entM Tryz.func58 Tryz.ntmps58 ?_
  (refine S ?_; try exact True.intro)
  (repeat' (first
    | refine awp_seq_k fun K hK => ?_
    | refine wkA ?_
    | (refine hK _ _ ?_; clear hK K)
    | (refine wcond (fun hc => ?_) (fun hc => ?_) <;> first | contradiction | (exfalso; omega) | skip)
    | refine wkB ?_
    | exact True.intro
    | (clear hK K)))
  · (refine retf [] ?_ ?_ <;> (try simp only [go_sem]))
    simp only [Ck.fails, if_pos hc, encK0, ckCells0]
  · (refine retf [] ?_ ?_ <;> (try simp only [go_sem]))
    simp only [Ck.fails, if_neg hc, encK0, ckCells0]
theorem ev_twice (x : GFunc) : ∀ (l : List GFunc) (c : Ck), Ev c (twiceK x c l)
  | [], c => by unfold twiceK; exact .refl c
  | f :: l, c => by
    unfold twiceK
    refine Ev.trans ?_ (ev_twice x l _)
    split
    · exact ev_fails c (by decide) _
    · exact .refl c
theorem ev_headsL (fns : List GFunc) : ∀ (n : Nat) (c : Ck) (m : Bool) (i : Nat), Ev c (headsL fns c m i n).1
  | 0, c, m, i => by unfold headsL; exact .refl c
  | n + 1, c, m, i => by
    unfold headsL
    exact (ev_twice _ _ _).trans (ev_headsL fns n _ _ _)
theorem ev_heads (c : Ck) : Ev c (headsK c) := by
  unfold headsK
  simp only
  split
  · exact ev_headsL _ _ _ _ _
  · exact (ev_headsL _ _ _ _ _).trans (ev_fails _ (by decide) _)
set_option maxHeartbeats 4000000 in
set_option maxRecDepth 10000 in
theorem kheads_c (c : Ck) (h : c.tree.fns.length ≤ 6) : ACalls Tryz.prog 37 [pR] (encK0 c) (fun v l => v = .tup [] ∧ l = encK0 (headsK c)) := by
  refine entM Tryz.func37 Tryz.ntmps37 ?_
  (refine S ?_; try exact True.intro)
  (repeat' (first
    | refine awp_seq_k fun K hK => ?_
    | refine wkA ?_
    | refine dE 8 [0, 1, 2, 3, 4, 5, 6, 7, 8, 9, 10] mixed ?_
    | (refine hK _ _ ?_; clear hK K)
    | (refine wcond (fun hc => ?_) (fun hc => ?_) <;> first | contradiction | (exfalso; omega) | skip)
    | refine wkB ?_
    | exact True.intro
    | (clear hK K)))
  have hKo := hK; clear hK
  refine awp_loop_inv (S := Nat × Ck × Bool) [(3, 3), (12, 55)] (fun s => s.1 ≤ c.tree.fns.length ∧ headsL c.tree.fns s.2.1 s.2.2 s.1 (c.tree.fns.length - s.1) = headsL c.tree.fns c false 0 c.tree.fns.length ∧ s.2.1.tree = c.tree) (fun s => [(4, rI s.1), (3, rB s.2.2)]) (fun s => ⟨[0, 1, 2, 3, 4], encK0 s.2.1⟩) (fun s => c.tree.fns.length - s.1) (0, c, false) ⟨by (try simp only); omega, rfl, rfl⟩ (fle_at heq_ lle) ?_
  rintro ⟨i, q, m⟩ ⟨hi, hA, hqt⟩ Kr hKr
  simp only at hi hA hqt
  (refine S ?_; try exact True.intro)
  by_cases hlt : i < c.tree.fns.length
  · rw [show c.tree.fns.length - i = (c.tree.fns.length - (i + 1)) + 1 by omega, headsL] at hA
    (repeat' (first
    | refine awp_seq_k fun K hK => ?_
    | refine wkA ?_
    | refine dE 8 [0, 1, 2, 3, 4, 5, 6, 7, 8, 9, 10] mixed ?_
    | (refine hK _ _ ?_; clear hK K)
    | (refine wcond (fun hc => ?_) (fun hc => ?_) <;> first | contradiction | (exfalso; omega) | skip)
    | (refine hKo _ _ ?_)
    | refine wkB ?_
    | exact True.intro
    | (clear hK K)))
    have hKi := hK; clear hK
    have hKb := hK; clear hK
    refine awp_loop_inv (S := Nat × Ck) [(5, 1), (18, 23)] (fun s => s.1 ≤ i ∧ twiceK (nth c.tree.fns i) s.2 ((c.tree.fns.take i).drop s.1) = twiceK (nth c.tree.fns i) q (c.tree.fns.take i)) (fun s => [(5, rI s.1)]) (fun s => ⟨[0, 1, 2, 3, 4], encK0 s.2⟩) (fun s => i - s.1) (0, q) ⟨by (try simp only); omega, rfl⟩ (fle_at heq_ lle) ?_
    rintro ⟨k, z⟩ ⟨hk, hB⟩ Kj hKj
    simp only at hk hB
    (refine S ?_; try exact True.intro)
    by_cases hkl : k < i
    · have hkt : k < (c.tree.fns.take i).length := by rw [List.length_take]; omega
      have hnt : nth (c.tree.fns.take i) k = nth c.tree.fns k := by simp [nth, List.getD_eq_getElem?_getD, List.getElem?_take, hkl]
      rw [drop_nth hkt, hnt, twiceK] at hB
      have hfa := kfails0_c z 41 (nth c.tree.fns i).body
      (repeat' (first
    | refine awp_seq_k fun K hK => ?_
    | refine wkA ?_
    | refine dE 8 [0, 1, 2, 3, 4, 5, 6, 7, 8, 9, 10] mixed ?_
    | (refine hK _ _ ?_; clear hK K)
    | (refine wcond (fun hc => ?_) (fun hc => ?_) <;> first | contradiction | (exfalso; omega) | skip)
    | (refine hKi _ _ ?_)
    | refine cm (hfa) ?_
    | refine wkB ?_
    | exact True.intro
    | (clear hK K)))
      · rw [if_pos hc] at hB
        refine hKj _ _ (next_mk (k + 1, z.fails 41 (nth c.tree.fns i).body) ⟨by (try simp only); omega, hB⟩ (by (try simp only); omega) heq_ lle)
      · rw [if_neg hc] at hB
        refine hKj _ _ (next_mk (k + 1, z) ⟨by (try simp only); omega, hB⟩ (by (try simp only); omega) heq_ lle)
    · rw [List.drop_eq_nil_of_le (by rw [List.length_take]; omega), twiceK] at hB
      (repeat' (first
    | refine awp_seq_k fun K hK => ?_
    | refine wkA ?_
    | refine dE 8 [0, 1, 2, 3, 4, 5, 6, 7, 8, 9, 10] mixed ?_
    | (refine hK _ _ ?_; clear hK K)
    | (refine wcond (fun hc => ?_) (fun hc => ?_) <;> first | contradiction | (exfalso; omega) | skip)
    | (refine hKi _ _ ?_)
    | (refine hKb _ _ ?_)
    | refine wkB ?_
    | exact True.intro
    | (clear hK K)))
      refine hKr _ _ (next_mk (i + 1, z, m || isMain (nth c.tree.fns i)) ⟨by (try simp only); omega, by rw [← hB] at hA; exact hA, by rw [hB]; exact (ev_twice _ _ _).tree.trans hqt⟩ (by (try simp only); omega) heq_ (by simp only [go_sem, LLe, Nat.reduceAdd, AV.raw.injEq, Value.int.injEq, Value.slice.injEq, Value.pointer.injEq, AV.rs.injEq, isMain]; try omega))
  · rw [show c.tree.fns.length - i = 0 by omega, headsL] at hA
    have hz : headsK c = if m = true then q else q.fails 44 0 := by unfold headsK; rw [← hA]
    have hfa := kfails0_c q 44 0
    cases m
    · rw [if_neg (by decide)] at hz
      (repeat' (first
    | refine awp_seq_k fun K hK => ?_
    | refine wkA ?_
    | refine dE 8 [0, 1, 2, 3, 4, 5, 6, 7, 8, 9, 10] mixed ?_
    | (refine hK _ _ ?_; clear hK K)
    | (refine wcond (fun hc => ?_) (fun hc => ?_) <;> first | contradiction | (exfalso; omega) | skip)
    | (refine hKo _ _ ?_)
    | refine cm (hfa) ?_
    | refine wkB ?_
    | exact True.intro
    | (clear hK K)))
      rw [hz]
      (refine retf [] ?_ ?_ <;> (try simp only [go_sem]))
    · rw [if_pos rfl] at hz
      (repeat' (first
    | refine awp_seq_k fun K hK => ?_
    | refine wkA ?_
    | refine dE 8 [0, 1, 2, 3, 4, 5, 6, 7, 8, 9, 10] mixed ?_
    | (refine hK _ _ ?_; clear hK K)
    | (refine wcond (fun hc => ?_) (fun hc => ?_) <;> first | contradiction | (exfalso; omega) | skip)
    | (refine hKo _ _ ?_)
    | refine wkB ?_
    | exact True.intro
    | (clear hK K)))
      rw [hz]
      (refine retf [] ?_ ?_ <;> (try simp only [go_sem]))
end Go.Proofs.YtbpmikjlfgfbmaaGreatDoor

namespace Go.Proofs.YtbpmikjlfgfbmaaGreatDoor
open Go Go.Gd
theorem in_params (body : Int) : ∀ (ps : List GParam) (c : Ck) (i : Int), CkIn c → c.size + ps.length ≤ 20 → CkIn (paramsK body c ps i) ∧ (paramsK body c ps i).tree = c.tree ∧ (paramsK body c ps i).size_ = c.size_
  | [], c, i, h, hs => by unfold paramsK; exact ⟨h, rfl, rfl⟩
  | p :: ps, c, i, h, hs => by
    unfold paramsK
    simp only [List.length_cons] at hs
    have fin : ∀ c1 : Ck, Ev c c1 → CkIn (paramsK body (addV' c1 ⟨p.name, p.ty, i⟩) ps (i + 1)) ∧ (paramsK body (addV' c1 ⟨p.name, p.ty, i⟩) ps (i + 1)).tree = c.tree ∧ (paramsK body (addV' c1 ⟨p.name, p.ty, i⟩) ps (i + 1)).size_ = c.size_ := fun c1 s => by
      have h1 := h.ev s
      have hz := s.size
      obtain ⟨a, b, d⟩ := in_params body ps (addV' c1 ⟨p.name, p.ty, i⟩) (i + 1) (in_addV' h1 _ (by omega)) (by show c1.size + 1 + _ ≤ 20; omega)
      exact ⟨a, b.trans s.tree, d.trans s.size_⟩
    simp only
    split
    · exact fin _ (ev_fails c (by decide) body)
    · exact fin _ (.refl c)
theorem in_function {c : Ck} (h : CkIn0 c) {k : Nat} (hk : k < c.tree.fns.length) (hsz : c.size_.length < 6) : CkIn0 (functionK c k) ∧ (functionK c k).tree = c.tree ∧ (functionK c k).size_.length = c.size_.length + 1 := by
  have hp3 := (h.tree.fn _ (nth_mem hk)).2
  have hi0 : CkIn { c with fn := (k : Int), vars := [], more := [], size := 0 } := ⟨h.tree, h.types, h.slots, h.fns, by show c.size_.length ≤ 6; omega, by show (0 : Int) ≤ k; omega, by show (k : Int) < (c.tree.fns.length : Int); omega, by show ((0 : Nat) : Int) ≤ 0; omega, by show (0 : Int) ≤ 25; omega, fun _ => by show (0 : Int) ≤ 24; omega⟩
  obtain ⟨a, b, d⟩ := in_params (nth c.tree.fns k).body (nth c.tree.fns k).params _ 0 hi0 (by show (0 : Int) + _ ≤ 20; omega)
  unfold functionK
  simp only
  split
  · have s := (sv_block (fun q b hq he => sv_statement c.tree.nodes.length q b hq he) a (nth c.tree.fns k).body).1
    have hi := s.inv
    refine ⟨⟨hi.tree, hi.types, hi.slots, hi.fns⟩, s.tree.trans b, ?_⟩
    show ((blockK (statementK c.tree.nodes.length) _ _).size_ ++ [_]).length = _
    rw [List.length_append, s.size_, d]; rfl
  · refine ⟨⟨a.tree, a.types, a.slots, a.fns⟩, b, ?_⟩
    show ((paramsK _ _ _ _).size_ ++ [_]).length = _
    rw [List.length_append, d]; rfl
/-- Ahead of the heads, the first n nodes. -/
def ckN (t : GTree) (n : Nat) : Ck := ⟨t, (t.nodes.take n).map fun _ => 0, (t.nodes.take n).map fun _ => -1, (t.nodes.take n).map fun _ => 0, [], 0, [], [], 0, 0, 0⟩
theorem ckN_all (t : GTree) {n : Nat} (h : t.nodes.length ≤ n) : ckN t n = ck0 t := by simp [ckN, ck0, List.take_of_length_le h]
theorem ckN_next (t : GTree) {n : Nat} (h : n < t.nodes.length) : ckN t (n + 1) = { ckN t n with types := (ckN t n).types ++ [0], slots := (ckN t n).slots ++ [-1], fns := (ckN t n).fns ++ [0] } := by
  simp [ckN, take_nth h]
theorem ckN_len (t : GTree) {n : Nat} (h : n ≤ t.nodes.length) : (ckN t n).types.length = n ∧ (ckN t n).slots.length = n ∧ (ckN t n).fns.length = n := by
  simp [ckN]; omega
@[go_sem] theorem eGTree_app (t : GTree) (l : List AV) : eGTree t ++ l = slOf eGNode 5 t.nodes :: slOf eGFunc 5 t.fns :: l := rfl
set_option maxHeartbeats 4000000 in
set_option maxRecDepth 10000 in
theorem kall_c (t : GTree) (h : TreeOk t) : PCall Tryz.prog 22 [.agg (eGTree t)] (.tup [.agg (eGProg (checkAll t).1), rI (checkAll t).2.1, rI (checkAll t).2.2]) := by
  have hf := h.fns
  have hm := h.many
  refine entP Tryz.func22 Tryz.ntmps22 ?_
  (repeat' (first
    | refine awp_seq_k fun K hK => ?_
    | refine wkA ?_
    | refine dA 14 [11] [0, 1, 2, 3, 4, 5, 6, 7, 8, 9, 10, 11] mixed ?_
    | (refine hK _ _ ?_; clear hK K)
    | (refine wcond (fun hc => ?_) (fun hc => ?_) <;> first | contradiction | (exfalso; omega) | skip)
    | refine bx 10 ?_
    | refine al 11 ?_
    | refine bx 0 ?_
    | refine wkB ?_
    | exact True.intro
    | (clear hK K)))
  have hKo := hK; clear hK
  refine awp_weak (FLe.nilC 1 0 2 3 1 rfl (by decide) rfl rfl) ?_
  (refine S ?_; try exact True.intro)
  refine awp_weak (FLe.nilC 2 0 3 3 1 rfl (by decide) rfl rfl) ?_
  (refine S ?_; try exact True.intro)
  refine awp_weak (FLe.nilC 3 0 4 3 1 rfl (by decide) rfl rfl) ?_
  (refine S ?_; try exact True.intro)
  refine awp_weak (FLe.nilC 4 0 5 3 1 rfl (by decide) rfl rfl) ?_
  (refine S ?_; try exact True.intro)
  refine awp_weak (FLe.vague 0 7 rfl) ?_
  (refine S ?_; try exact True.intro)
  refine awp_weak (FLe.perm (encK0 (ckN t 0) ++ [(10, .var 30 (eGTree t)), (11, .var 33 [.raw (.slice none 0 0), .raw (.slice none 0 0), .raw (.slice none 0 0), .raw (.slice none 0 0), .raw (.slice none 0 0), .raw (.slice none 0 0)])]) (fun i => by simp only [go_sem, lget, ckN]; (repeat' split) <;> first | rfl | omega)) ?_
  refine awp_loop_inv (S := Nat) [(6, 1), (12, 40)] (fun k => k ≤ t.nodes.length) (fun k => [(6, rI k)]) (fun k => ⟨[], encK0 (ckN t k) ++ [(10, .var 30 (eGTree t)), (11, .var 33 [.raw (.slice none 0 0), .raw (.slice none 0 0), .raw (.slice none 0 0), .raw (.slice none 0 0), .raw (.slice none 0 0), .raw (.slice none 0 0)])]⟩) (fun k => t.nodes.length - k) 0 (Nat.zero_le _) (fle_at rfl lle) ?_
  rintro k hk Kr hKr
  obtain ⟨l1, l2, l3⟩ := ckN_len t hk
  (refine S ?_; try exact True.intro)
  by_cases hlt : k < t.nodes.length
  · (repeat' (first
    | refine awp_seq_k fun K hK => ?_
    | refine wkA ?_
    | refine dA 14 [11] [0, 1, 2, 3, 4, 5, 6, 7, 8, 9, 10, 11] mixed ?_
    | (refine hK _ _ ?_; clear hK K)
    | (refine wcond (fun hc => ?_) (fun hc => ?_) <;> first | contradiction | (exfalso; omega) | skip)
    | (refine hKo _ _ ?_)
    | refine wkB ?_
    | exact True.intro
    | (clear hK K)))
    refine hKr _ _ (next_mk (k + 1) (by omega) (by omega) (by rw [ckN_next t hlt]; exact heq_) lle)
  · have hall := ckN_all t (n := k) (by omega)
    rw [hall] at *
    have hh := kheads_c (ck0 t) hf
    (repeat' (first
    | refine awp_seq_k fun K hK => ?_
    | refine wkA ?_
    | refine dA 14 [11] [0, 1, 2, 3, 4, 5, 6, 7, 8, 9, 10, 11] mixed ?_
    | (refine hK _ _ ?_; clear hK K)
    | (refine wcond (fun hc => ?_) (fun hc => ?_) <;> first | contradiction | (exfalso; omega) | skip)
    | (refine hKo _ _ ?_)
    | refine cm (hh) ?_
    | refine wkB ?_
    | exact True.intro
    | (clear hK K)))
    have hKo2 := hK; clear hK
    have eh := ev_heads (ck0 t)
    have hi0 : CkIn0 (headsK (ck0 t)) := ⟨by rw [eh.tree]; exact h, by rw [eh.types, eh.tree]; simp [ck0], by rw [eh.slots, eh.tree]; simp [ck0], by rw [eh.fns, eh.tree]; simp [ck0]⟩
    refine awp_loop_inv (S := Nat × Ck) [(7, 1), (54, 17)] (fun s => s.1 ≤ t.fns.length ∧ CkIn0 s.2 ∧ s.2.tree = t ∧ s.2.size_.length = s.1 ∧ functionsK s.2 s.1 (t.fns.length - s.1) = ckAll t) (fun s => [(7, rI s.1)]) (fun s => ⟨[], encK0 s.2 ++ [(10, .var 30 (eGTree t)), (11, .var 33 [.raw (.slice none 0 0), .raw (.slice none 0 0), .raw (.slice none 0 0), .raw (.slice none 0 0), .raw (.slice none 0 0), .raw (.slice none 0 0)])]⟩) (fun s => t.fns.length - s.1) (0, headsK (ck0 t)) ⟨Nat.zero_le _, hi0, eh.tree, by rw [eh.size_]; rfl, rfl⟩ (fle_at heq_ lle) ?_
    rintro ⟨i, q⟩ ⟨hi, hq, hqt, hqz, hA⟩ Kr2 hKr2
    simp only at hi hq hqt hqz hA
    (refine S ?_; try exact True.intro)
    by_cases hgo : i < t.fns.length ∧ q.e = 0
    · obtain ⟨hg1, hg2⟩ := hgo
      rw [show t.fns.length - i = (t.fns.length - (i + 1)) + 1 by omega, functionsK, if_pos hg2] at hA
      have hkf : i < q.tree.fns.length := by rw [hqt]; exact hg1
      have hfc := kfunction_c q i hq hkf (by omega)
      obtain ⟨f1, f2, f3⟩ := in_function hq hkf (by omega)
      (have W := hg2; repeat' (first
    | refine awp_seq_k fun K hK => ?_
    | refine wkA ?_
    | refine dA 14 [11] [0, 1, 2, 3, 4, 5, 6, 7, 8, 9, 10, 11] mixed ?_
    | (refine hK _ _ ?_; clear hK K)
    | (refine wcond (fun hc => ?_) (fun hc => ?_) <;> first | contradiction | (exfalso; omega) | skip)
    | (refine hKo2 _ _ ?_)
    | refine cm (hfc) ?_
    | refine wkB ?_
    | exact True.intro
    | (clear hK K))); all_goals (try clear W)
      refine hKr2 _ _ (next_mk (i + 1, functionK q i) ⟨by (try simp only); omega, f1, f2.trans hqt, by (try simp only); omega, hA⟩ (by (try simp only); omega) heq_ lle)
    · have hz : q = ckAll t := by
        rw [← hA]
        by_cases hg1 : i < t.fns.length
        · rw [show t.fns.length - i = (t.fns.length - (i + 1)) + 1 by omega, functionsK, if_neg fun e => hgo ⟨hg1, e⟩]
        · rw [show t.fns.length - i = 0 by omega, functionsK]
      by_cases he : q.e = 0
      · have hr : checkAll t = (q.prog, 0, 0) := by unfold checkAll; rw [← hz, if_neg (fun h => h he)]
        have hlen : ¬ i < t.fns.length := fun h => hgo ⟨h, he⟩
        (have W := he; repeat' (first
    | refine awp_seq_k fun K hK => ?_
    | refine wkA ?_
    | refine dA 14 [11] [0, 1, 2, 3, 4, 5, 6, 7, 8, 9, 10, 11] mixed ?_
    | (refine hK _ _ ?_; clear hK K)
    | (refine wcond (fun hc => ?_) (fun hc => ?_) <;> first | contradiction | (exfalso; omega) | skip)
    | (refine hKo2 _ _ ?_)
    | refine wkB ?_
    | exact True.intro
    | (clear hK K))); all_goals (try clear W)
        rw [hr]
        refine retv [.cell 2 33, .tmp 3, .tmp 4] ?_
        refine VToL.tup (ds := [.agg (eGProg q.prog), rI 0, rI 0]) ?_
        refine And.intro (VToL.agg (ds := eGProg q.prog) ?_) (And.intro (.same _ rfl) (And.intro (.same _ rfl) trivial))
        simp only [eGProg, Ck.prog]
        exact vtl
      · have hr : checkAll t = (prog0, q.at_, q.e) := by unfold checkAll; rw [← hz, if_pos he]
        (have W := he; repeat' (first
    | refine awp_seq_k fun K hK => ?_
    | refine wkA ?_
    | refine dA 14 [11] [0, 1, 2, 3, 4, 5, 6, 7, 8, 9, 10, 11] mixed ?_
    | (refine hK _ _ ?_; clear hK K)
    | (refine wcond (fun hc => ?_) (fun hc => ?_) <;> first | contradiction | (exfalso; omega) | skip)
    | (refine hKo2 _ _ ?_)
    | refine wkB ?_
    | exact True.intro
    | (clear hK K))); all_goals (try clear W)
        rw [hr]
        refine retv [.cell 2 33, .tmp 3, .tmp 4] ?_
        refine VToL.tup (ds := [.agg (eGProg prog0), rI _, rI _]) ?_
        refine And.intro (VToL.agg (ds := eGProg prog0) ?_) (And.intro (.same _ rfl) (And.intro (.same _ rfl) trivial))
        simp only [eGProg, prog0]
        exact vtl
end Go.Proofs.YtbpmikjlfgfbmaaGreatDoor
