/- What is unlike in two calls: the document's. No conditions. -/
import Derived.Test.YtflopjbjlbkgnaaDoorDf1
set_option linter.all false
namespace Go.Proofs.YtflopjbjlbkgnaaDoor
open Go Go.Gd
set_option maxHeartbeats 4000000
set_option maxRecDepth 10000
theorem rcalls_c (a b : GView) (n : Nat) (ha : DvOk a) (hb : DvOk b) (hn : n ≤ 1000) : PCall Tryd.prog 17 [.agg (eGView a), .agg (eGView b), rI n] (slOf eS 1 (callL a b n)) := by
  have hit := itoa_c n (by unfold rng; omega)
  have his := itoa_size (n := n) (by unfold rng; omega)
  have h1 := head_c a n ha hn
  have h2 := head_c b n hb hn
  have z1 := ha.head n
  have z2 := hb.head n
  have c1 := rcall_c a n ha hn
  have c2 := rcall_c b n hb hn
  have o1 := ha.callS n
  have o2 := hb.callS n
  have ov1 := o1.n
  have ov2 := o2.n
  unfold callL linesC
  generalize headT a n = X at *
  generalize headT b n = Y at *
  generalize callS a n = c at *
  generalize callS b n = d at *
  by_cases hx : X = Y
  all_goals
    generalize hM0 : putL (itoaB n ++ (⟨#[32]⟩ : ByteArray) ++ (⟨#[97, 116, 32]⟩ : ByteArray)) X Y = M0 at *
    unfold putL lineT at hM0
    first | rw [if_pos hx] at hM0 | rw [if_neg hx, ← at_app] at hM0
    refine entP Tryd.func17 Tryd.ntmps17 ?_
    (have W := hx; repeat' (first
    | refine awp_seq_k fun K hK => ?_
    | refine wkA ?_
    | (with_reducible refine gR 12 ?_); refine dE 12 [0, 1, 2, 3, 4, 5, 6, 7, 8, 9] mixed ?_
    | (with_reducible refine gR 14 ?_); refine dE 14 [0, 1, 2, 3, 4, 5, 6, 7, 8, 9, 10, 11, 12, 13, 14, 15, 16, 17, 18, 19, 20, 21, 22, 23] mixed ?_
    | (with_reducible refine gR 18 ?_); refine dE 18 [0, 1, 2, 3, 4, 5, 6, 7, 8, 9] mixed ?_
    | (with_reducible refine gR 19 ?_); refine dE 19 [0, 1, 2, 3, 4, 5, 6, 7, 8, 9, 10, 11, 12, 13, 14, 15, 16, 17, 18, 19, 20] mixed ?_
    | (with_reducible refine gR 24 ?_); refine dE 24 [0, 1, 2, 3, 4, 5, 6, 7, 8, 9, 10, 11] mixed ?_
    | (refine hK _ _ ?_; clear hK K)
    | (refine wcond (fun hc => ?_) (fun hc => ?_) <;> first | contradiction | (exfalso; omega) | skip)
    | refine bx 0 ?_
    | refine bx 1 ?_
    | refine litO 2 ?_
    | refine al 3 ?_
    | refine al 4 ?_
    | refine cp (hit) ?_
    | refine cp (h1) ?_
    | refine cp (h2) ?_
    | refine cp (c1) ?_
    | refine cp (c2) ?_
    | refine wkB ?_
    | exact True.intro
    | (clear hK K))); all_goals (try clear W)
    (repeat clear hc)
    have hKo := hK; clear hK
    have hm0 : M0.length ≤ 1 := by rw [← hM0]; simp
    obtain ⟨A, hA0, hAs, hAe, hAl⟩ := rows_of M0 (mineF n d.vars) (fun x => putL_len _ _ _) c.vars
    refine awp_loop_inv (S := Nat) [(7, 1), (13, 2), (46, 47)] (fun k => k ≤ c.vars.length) (fun k => [(13, rI k), (7, .rs 2 (A k).length 1 (A k).length)]) (fun k => ⟨[], [(0, .var 25 (eGView a)), (1, .var 25 (eGView b)), (2, .vec 9 1 ((A k).map eS)), (3, .var 36 (eGSeen c)), (4, .var 36 (eGSeen d))]⟩) (fun k => c.vars.length - k) 0 (by omega) (fle_at (by rw [hA0, ← hM0]; rfl) (by rw [hA0, ← hM0]; exact lle)) ?_
    rintro k hk Kr hKr
    have hl1 := hAl k
    by_cases hlt : k < c.vars.length
    · have hfs := hAs k hlt
      have hxv := o1.var _ (nth_mem hlt)
      have hfc := find_c d.vars (nth c.vars k).name (by omega)
      have hfz := find_size d.vars (nth c.vars k).name o2.var
      obtain ⟨hx1, hx2⟩ := hxv
      generalize hxk : nth c.vars k = x at *
      unfold mineF putL lineT at hfs
      generalize hT : findT d.vars x.name = T at *
      by_cases ht : T = x.text
      · rw [if_pos ht.symm, List.append_nil] at hfs
        (refine S ?_; try exact True.intro)
        (have W := And.intro hxk (ht); repeat' (first
    | refine awp_seq_k fun K hK => ?_
    | refine wkA ?_
    | (with_reducible refine gR 12 ?_); refine dE 12 [0, 1, 2, 3, 4, 5, 6, 7, 8, 9] mixed ?_
    | (with_reducible refine gR 14 ?_); refine dE 14 [0, 1, 2, 3, 4, 5, 6, 7, 8, 9, 10, 11, 12, 13, 14, 15, 16, 17, 18, 19, 20, 21, 22, 23] mixed ?_
    | (with_reducible refine gR 18 ?_); refine dE 18 [0, 1, 2, 3, 4, 5, 6, 7, 8, 9] mixed ?_
    | (with_reducible refine gR 19 ?_); refine dE 19 [0, 1, 2, 3, 4, 5, 6, 7, 8, 9, 10, 11, 12, 13, 14, 15, 16, 17, 18, 19, 20] mixed ?_
    | (with_reducible refine gR 24 ?_); refine dE 24 [0, 1, 2, 3, 4, 5, 6, 7, 8, 9, 10, 11] mixed ?_
    | (refine hK _ _ ?_; clear hK K)
    | (refine wcond (fun hc => ?_) (fun hc => ?_) <;> first | contradiction | (exfalso; omega) | skip)
    | refine cq (hfc) ?_
    | refine cp (hfc) ?_
    | (refine hKo _ _ ?_)
    | refine wkB ?_
    | exact True.intro
    | (clear hK K))); all_goals (try clear W)
        refine hKr _ _ (next_mk (k + 1) (by omega) (by show c.vars.length - (k + 1) < c.vars.length - k; omega) (by rw [hfs]) (by rw [hfs]; exact lle))
      · rw [if_neg (fun e => ht e.symm)] at hfs
        have ht' := eq_false ht
        (refine S ?_; try exact True.intro)
        (have W := And.intro hxk (ht'); repeat' (first
    | refine awp_seq_k fun K hK => ?_
    | refine wkA ?_
    | (with_reducible refine gR 12 ?_); refine dE 12 [0, 1, 2, 3, 4, 5, 6, 7, 8, 9] mixed ?_
    | (with_reducible refine gR 14 ?_); refine dE 14 [0, 1, 2, 3, 4, 5, 6, 7, 8, 9, 10, 11, 12, 13, 14, 15, 16, 17, 18, 19, 20, 21, 22, 23] mixed ?_
    | (with_reducible refine gR 18 ?_); refine dE 18 [0, 1, 2, 3, 4, 5, 6, 7, 8, 9] mixed ?_
    | (with_reducible refine gR 19 ?_); refine dE 19 [0, 1, 2, 3, 4, 5, 6, 7, 8, 9, 10, 11, 12, 13, 14, 15, 16, 17, 18, 19, 20] mixed ?_
    | (with_reducible refine gR 24 ?_); refine dE 24 [0, 1, 2, 3, 4, 5, 6, 7, 8, 9, 10, 11] mixed ?_
    | (refine hK _ _ ?_; clear hK K)
    | (refine wcond (fun hc => ?_) (fun hc => ?_) <;> first | contradiction | (exfalso; omega) | skip)
    | refine cq (hfc) ?_
    | refine cp (hfc) ?_
    | (refine hKo _ _ ?_)
    | refine wkB ?_
    | exact True.intro
    | (clear hK K))); all_goals (try clear W)
        refine hKr _ _ (next_mk (k + 1) (by omega) (by show c.vars.length - (k + 1) < c.vars.length - k; omega) (by rw [hfs, List.map_append]; rfl) (by rw [hfs]; exact lle))
    have hke : k = c.vars.length := by omega
    subst hke
    clear hAs hA0
    generalize hM1 : A c.vars.length = M1 at *
    (refine S ?_; try exact True.intro)
    (repeat' (first
    | refine awp_seq_k fun K hK => ?_
    | refine wkA ?_
    | (with_reducible refine gR 12 ?_); refine dE 12 [0, 1, 2, 3, 4, 5, 6, 7, 8, 9] mixed ?_
    | (with_reducible refine gR 14 ?_); refine dE 14 [0, 1, 2, 3, 4, 5, 6, 7, 8, 9, 10, 11, 12, 13, 14, 15, 16, 17, 18, 19, 20, 21, 22, 23] mixed ?_
    | (with_reducible refine gR 18 ?_); refine dE 18 [0, 1, 2, 3, 4, 5, 6, 7, 8, 9] mixed ?_
    | (with_reducible refine gR 19 ?_); refine dE 19 [0, 1, 2, 3, 4, 5, 6, 7, 8, 9, 10, 11, 12, 13, 14, 15, 16, 17, 18, 19, 20] mixed ?_
    | (with_reducible refine gR 24 ?_); refine dE 24 [0, 1, 2, 3, 4, 5, 6, 7, 8, 9, 10, 11] mixed ?_
    | (refine hK _ _ ?_; clear hK K)
    | (refine wcond (fun hc => ?_) (fun hc => ?_) <;> first | contradiction | (exfalso; omega) | skip)
    | (refine hKo _ _ ?_)
    | refine wkB ?_
    | exact True.intro
    | (clear hK K)))
    have hKo := hK; clear hK
    obtain ⟨A2, hA0, hAs, hAe2, hAl2⟩ := rows_of M1 (otherF n c.vars) (fun x => otherF_len _ _ _) d.vars
    refine awp_loop_inv (S := Nat) [(7, 1), (15, 1), (93, 37)] (fun k => k ≤ d.vars.length) (fun k => [(15, rI k), (7, .rs 2 (A2 k).length 1 (A2 k).length)]) (fun k => ⟨[], [(0, .var 25 (eGView a)), (1, .var 25 (eGView b)), (2, .vec 9 1 ((A2 k).map eS)), (3, .var 36 (eGSeen c)), (4, .var 36 (eGSeen d))]⟩) (fun k => d.vars.length - k) 0 (by omega) (fle_at (by rw [hA0]) (by rw [hA0]; exact lle)) ?_
    rintro k hk Ks hKs
    have hl2 := hAl2 k
    by_cases hlt : k < d.vars.length
    · have hfs := hAs k hlt
      have hxv := o2.var _ (nth_mem hlt)
      have hfc := find_c c.vars (nth d.vars k).name (by omega)
      obtain ⟨hx1, hx2⟩ := hxv
      generalize hxk : nth d.vars k = x at *
      unfold otherF lineT at hfs
      generalize hT : findT c.vars x.name = T at *
      by_cases ht : T = (⟨#[45]⟩ : ByteArray)
      · rw [if_pos ht, ← dash_app] at hfs
        (refine S ?_; try exact True.intro)
        (have W := And.intro hxk (ht); repeat' (first
    | refine awp_seq_k fun K hK => ?_
    | refine wkA ?_
    | (with_reducible refine gR 12 ?_); refine dE 12 [0, 1, 2, 3, 4, 5, 6, 7, 8, 9] mixed ?_
    | (with_reducible refine gR 14 ?_); refine dE 14 [0, 1, 2, 3, 4, 5, 6, 7, 8, 9, 10, 11, 12, 13, 14, 15, 16, 17, 18, 19, 20, 21, 22, 23] mixed ?_
    | (with_reducible refine gR 18 ?_); refine dE 18 [0, 1, 2, 3, 4, 5, 6, 7, 8, 9] mixed ?_
    | (with_reducible refine gR 19 ?_); refine dE 19 [0, 1, 2, 3, 4, 5, 6, 7, 8, 9, 10, 11, 12, 13, 14, 15, 16, 17, 18, 19, 20] mixed ?_
    | (with_reducible refine gR 24 ?_); refine dE 24 [0, 1, 2, 3, 4, 5, 6, 7, 8, 9, 10, 11] mixed ?_
    | (refine hK _ _ ?_; clear hK K)
    | (refine wcond (fun hc => ?_) (fun hc => ?_) <;> first | contradiction | (exfalso; omega) | skip)
    | refine cq (hfc) ?_
    | refine cp (hfc) ?_
    | (refine hKo _ _ ?_)
    | refine wkB ?_
    | exact True.intro
    | (clear hK K))); all_goals (try clear W)
        refine hKs _ _ (next_mk (k + 1) (by omega) (by show d.vars.length - (k + 1) < d.vars.length - k; omega) (by rw [hfs, List.map_append]; rfl) (by rw [hfs]; exact lle))
      · rw [if_neg ht, List.append_nil] at hfs
        have ht' := eq_false ht
        (refine S ?_; try exact True.intro)
        (have W := And.intro hxk (ht'); repeat' (first
    | refine awp_seq_k fun K hK => ?_
    | refine wkA ?_
    | (with_reducible refine gR 12 ?_); refine dE 12 [0, 1, 2, 3, 4, 5, 6, 7, 8, 9] mixed ?_
    | (with_reducible refine gR 14 ?_); refine dE 14 [0, 1, 2, 3, 4, 5, 6, 7, 8, 9, 10, 11, 12, 13, 14, 15, 16, 17, 18, 19, 20, 21, 22, 23] mixed ?_
    | (with_reducible refine gR 18 ?_); refine dE 18 [0, 1, 2, 3, 4, 5, 6, 7, 8, 9] mixed ?_
    | (with_reducible refine gR 19 ?_); refine dE 19 [0, 1, 2, 3, 4, 5, 6, 7, 8, 9, 10, 11, 12, 13, 14, 15, 16, 17, 18, 19, 20] mixed ?_
    | (with_reducible refine gR 24 ?_); refine dE 24 [0, 1, 2, 3, 4, 5, 6, 7, 8, 9, 10, 11] mixed ?_
    | (refine hK _ _ ?_; clear hK K)
    | (refine wcond (fun hc => ?_) (fun hc => ?_) <;> first | contradiction | (exfalso; omega) | skip)
    | refine cq (hfc) ?_
    | refine cp (hfc) ?_
    | (refine hKo _ _ ?_)
    | refine wkB ?_
    | exact True.intro
    | (clear hK K))); all_goals (try clear W)
        refine hKs _ _ (next_mk (k + 1) (by omega) (by show d.vars.length - (k + 1) < d.vars.length - k; omega) (by rw [hfs]) (by rw [hfs]; exact lle))
    have hke : k = d.vars.length := by omega
    subst hke
    clear hAs hA0
    generalize hM2 : A2 d.vars.length = M2 at *
    (refine S ?_; try exact True.intro)
    (repeat' (first
    | refine awp_seq_k fun K hK => ?_
    | refine wkA ?_
    | (with_reducible refine gR 12 ?_); refine dE 12 [0, 1, 2, 3, 4, 5, 6, 7, 8, 9] mixed ?_
    | (with_reducible refine gR 14 ?_); refine dE 14 [0, 1, 2, 3, 4, 5, 6, 7, 8, 9, 10, 11, 12, 13, 14, 15, 16, 17, 18, 19, 20, 21, 22, 23] mixed ?_
    | (with_reducible refine gR 18 ?_); refine dE 18 [0, 1, 2, 3, 4, 5, 6, 7, 8, 9] mixed ?_
    | (with_reducible refine gR 19 ?_); refine dE 19 [0, 1, 2, 3, 4, 5, 6, 7, 8, 9, 10, 11, 12, 13, 14, 15, 16, 17, 18, 19, 20] mixed ?_
    | (with_reducible refine gR 24 ?_); refine dE 24 [0, 1, 2, 3, 4, 5, 6, 7, 8, 9, 10, 11] mixed ?_
    | (refine hK _ _ ?_; clear hK K)
    | (refine wcond (fun hc => ?_) (fun hc => ?_) <;> first | contradiction | (exfalso; omega) | skip)
    | (refine hKo _ _ ?_)
    | refine wkB ?_
    | exact True.intro
    | (clear hK K)))
    have hKo := hK; clear hK
    refine awp_loop_inv (S := Nat × Bool) [(16, 2), (137, 21)] (fun s => s.1 ≤ c.vars.length ∧ (s.2 = true → c.vars.length = d.vars.length ∧ ∀ j, j < s.1 → nth c.vars j = nth d.vars j) ∧ (s.2 = false → c.vars ≠ d.vars)) (fun s => [(17, rI s.1), (16, rB s.2)]) (fun _ => ⟨[], [(0, .var 25 (eGView a)), (1, .var 25 (eGView b)), (2, .vec 9 1 (M2.map eS)), (3, .var 36 (eGSeen c)), (4, .var 36 (eGSeen d))]⟩) (fun s => c.vars.length - s.1) (0, decide ((c.vars.length : Int) = d.vars.length)) ⟨Nat.zero_le _, fun h => ⟨by have h := of_decide_eq_true h; omega, fun j hj => absurd hj (Nat.not_lt_zero _)⟩, fun h e => by rw [e] at h; simp at h⟩ (fle_at rfl lle) ?_
    rintro ⟨k, eq⟩ ⟨hk, hq1, hq2⟩ Kt hKt
    cases eq
    · have hne := hq2 rfl
      rw [hAe] at hAe2
      by_cases hM : M2 = []
      · subst hM
        (refine S ?_; try exact True.intro)
        (repeat' (first
    | refine awp_seq_k fun K hK => ?_
    | refine wkA ?_
    | (with_reducible refine gR 12 ?_); refine dE 12 [0, 1, 2, 3, 4, 5, 6, 7, 8, 9] mixed ?_
    | (with_reducible refine gR 14 ?_); refine dE 14 [0, 1, 2, 3, 4, 5, 6, 7, 8, 9, 10, 11, 12, 13, 14, 15, 16, 17, 18, 19, 20, 21, 22, 23] mixed ?_
    | (with_reducible refine gR 18 ?_); refine dE 18 [0, 1, 2, 3, 4, 5, 6, 7, 8, 9] mixed ?_
    | (with_reducible refine gR 19 ?_); refine dE 19 [0, 1, 2, 3, 4, 5, 6, 7, 8, 9, 10, 11, 12, 13, 14, 15, 16, 17, 18, 19, 20] mixed ?_
    | (with_reducible refine gR 24 ?_); refine dE 24 [0, 1, 2, 3, 4, 5, 6, 7, 8, 9, 10, 11] mixed ?_
    | (refine hK _ _ ?_; clear hK K)
    | (refine wcond (fun hc => ?_) (fun hc => ?_) <;> first | contradiction | (exfalso; omega) | skip)
    | (refine hKo _ _ ?_)
    | refine wkB ?_
    | exact True.intro
    | (clear hK K)))
        refine retv [.tmp 6] ?_
        rw [← hAe2, if_pos ⟨rfl, hne⟩]
        refine VTo.row (e := 9) [itoaB n ++ (⟨#[32]⟩ : ByteArray) ++ (⟨#[118, 97, 114, 115]⟩ : ByteArray)] rfl ?_ rfl
        rw [← vars_app]; rfl
      · have hM' : M2.length ≠ 0 := fun h => hM (List.length_eq_zero_iff.1 h)
        (refine S ?_; try exact True.intro)
        (have W := hM'; repeat' (first
    | refine awp_seq_k fun K hK => ?_
    | refine wkA ?_
    | (with_reducible refine gR 12 ?_); refine dE 12 [0, 1, 2, 3, 4, 5, 6, 7, 8, 9] mixed ?_
    | (with_reducible refine gR 14 ?_); refine dE 14 [0, 1, 2, 3, 4, 5, 6, 7, 8, 9, 10, 11, 12, 13, 14, 15, 16, 17, 18, 19, 20, 21, 22, 23] mixed ?_
    | (with_reducible refine gR 18 ?_); refine dE 18 [0, 1, 2, 3, 4, 5, 6, 7, 8, 9] mixed ?_
    | (with_reducible refine gR 19 ?_); refine dE 19 [0, 1, 2, 3, 4, 5, 6, 7, 8, 9, 10, 11, 12, 13, 14, 15, 16, 17, 18, 19, 20] mixed ?_
    | (with_reducible refine gR 24 ?_); refine dE 24 [0, 1, 2, 3, 4, 5, 6, 7, 8, 9, 10, 11] mixed ?_
    | (refine hK _ _ ?_; clear hK K)
    | (refine wcond (fun hc => ?_) (fun hc => ?_) <;> first | contradiction | (exfalso; omega) | skip)
    | (refine hKo _ _ ?_)
    | refine wkB ?_
    | exact True.intro
    | (clear hK K))); all_goals (try clear W)
        refine retv [.tmp 6] ?_
        rw [← hAe2, if_neg (fun h => hM h.1), List.append_nil]
        exact VTo.row (e := 9) M2 rfl rfl rfl
    · obtain ⟨hle, hj⟩ := hq1 rfl
      by_cases hlt : k < c.vars.length
      · generalize hxk : nth c.vars k = x at *
        generalize hyk : nth d.vars k = y at *
        have hlt2 : k < d.vars.length := by omega
        (refine S ?_; try exact True.intro)
        (have W := And.intro hxk (hyk); repeat' (first
    | refine awp_seq_k fun K hK => ?_
    | refine wkA ?_
    | (with_reducible refine gR 12 ?_); refine dE 12 [0, 1, 2, 3, 4, 5, 6, 7, 8, 9] mixed ?_
    | (with_reducible refine gR 14 ?_); refine dE 14 [0, 1, 2, 3, 4, 5, 6, 7, 8, 9, 10, 11, 12, 13, 14, 15, 16, 17, 18, 19, 20, 21, 22, 23] mixed ?_
    | (with_reducible refine gR 18 ?_); refine dE 18 [0, 1, 2, 3, 4, 5, 6, 7, 8, 9] mixed ?_
    | (with_reducible refine gR 19 ?_); refine dE 19 [0, 1, 2, 3, 4, 5, 6, 7, 8, 9, 10, 11, 12, 13, 14, 15, 16, 17, 18, 19, 20] mixed ?_
    | (with_reducible refine gR 24 ?_); refine dE 24 [0, 1, 2, 3, 4, 5, 6, 7, 8, 9, 10, 11] mixed ?_
    | (refine hK _ _ ?_; clear hK K)
    | (refine wcond (fun hc => ?_) (fun hc => ?_) <;> first | contradiction | (exfalso; omega) | skip)
    | (refine hKo _ _ ?_)
    | refine wkB ?_
    | exact True.intro
    | (clear hK K))); all_goals (try clear W)
        refine hKt _ _ (next_mk (k + 1, decide (x = y)) ⟨hlt, fun h => ⟨hle, fun j hj' => ?_⟩, fun h e => ?_⟩ (by show c.vars.length - (k + 1) < c.vars.length - k; omega) rfl lle)
        · have hj' : j < k + 1 := hj'
          by_cases h2 : j < k
          · exact hj j h2
          · rw [show j = k by omega, hxk, hyk]; exact of_decide_eq_true h
        · have h := of_decide_eq_false h
          exact h (by rw [← hxk, ← hyk, e])
      · have he : c.vars = d.vars := list_ext_nth hle fun j hj' => hj j (by show j < k; have : k ≤ c.vars.length := hk; omega)
        rw [hAe] at hAe2
        (refine S ?_; try exact True.intro)
        (repeat' (first
    | refine awp_seq_k fun K hK => ?_
    | refine wkA ?_
    | (with_reducible refine gR 12 ?_); refine dE 12 [0, 1, 2, 3, 4, 5, 6, 7, 8, 9] mixed ?_
    | (with_reducible refine gR 14 ?_); refine dE 14 [0, 1, 2, 3, 4, 5, 6, 7, 8, 9, 10, 11, 12, 13, 14, 15, 16, 17, 18, 19, 20, 21, 22, 23] mixed ?_
    | (with_reducible refine gR 18 ?_); refine dE 18 [0, 1, 2, 3, 4, 5, 6, 7, 8, 9] mixed ?_
    | (with_reducible refine gR 19 ?_); refine dE 19 [0, 1, 2, 3, 4, 5, 6, 7, 8, 9, 10, 11, 12, 13, 14, 15, 16, 17, 18, 19, 20] mixed ?_
    | (with_reducible refine gR 24 ?_); refine dE 24 [0, 1, 2, 3, 4, 5, 6, 7, 8, 9, 10, 11] mixed ?_
    | (refine hK _ _ ?_; clear hK K)
    | (refine wcond (fun hc => ?_) (fun hc => ?_) <;> first | contradiction | (exfalso; omega) | skip)
    | (refine hKo _ _ ?_)
    | refine wkB ?_
    | exact True.intro
    | (clear hK K)))
        refine retv [.tmp 6] ?_
        rw [← hAe2, if_neg (fun h => h.2 he), List.append_nil]
        exact VTo.row (e := 9) M2 rfl rfl rfl
end Go.Proofs.YtflopjbjlbkgnaaDoor
