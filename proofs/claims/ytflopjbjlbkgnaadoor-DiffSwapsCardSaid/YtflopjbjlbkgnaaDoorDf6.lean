/- What is unlike in what was printed, and in two calls: the program's. No conditions. -/
import Derived.Test.YtflopjbjlbkgnaaDoorDf4
import Derived.Test.YtflopjbjlbkgnaaDoorDf5
set_option linter.all false
namespace Go.Proofs.YtflopjbjlbkgnaaDoor
open Go Go.Gd
set_option maxHeartbeats 4000000
set_option maxRecDepth 10000
theorem printed_c (L a b : List ByteArray) (hL : L.length ≤ 10000000) (a2 : a.length ≤ 1000) (b2 : b.length ≤ 1000) (oa : ∀ t ∈ a, t.size ≤ 1000) (ob : ∀ t ∈ b, t.size ≤ 1000) : ACalls Tryd.prog 13 [.pt 0 0 0 0, slOf eS 1 a, slOf eS 1 b] (lnE L) (fun r l' => r = .tup [] ∧ l' = lnE (L ++ outL a b)) := by
  generalize hR : L ++ outL a b = R
  refine entM Tryd.func13 Tryd.ntmps13 ?_
  (refine S ?_; try exact True.intro)
  (repeat' (first
    | refine awp_seq_k fun K hK => ?_
    | refine wkA ?_
    | (with_reducible refine gR 1 ?_); refine dE 1 [0, 1, 2, 3, 4, 5, 6, 7, 8, 9, 10, 11, 12, 13, 14, 15, 16, 17] mixed ?_
    | (refine hK _ _ ?_; clear hK K)
    | (refine wcond (fun hc => ?_) (fun hc => ?_) <;> first | contradiction | (exfalso; omega) | skip)
    | refine wkB ?_
    | exact True.intro
    | (clear hK K)))
  have hKo := hK; clear hK
  refine awp_loop_inv (S := Nat) [(6, 1), (11, 20)] (fun k => k ≤ a.length ∧ k ≤ b.length ∧ ∀ j, j < k → nth a j = nth b j) (fun k => [(6, rI k)]) (fun _ => ⟨[0, 1], lnE L⟩) (fun k => a.length - k) 0 ⟨by omega, by omega, fun j hj => by omega⟩ (fle_at rfl lle) ?_
  rintro k ⟨hk1, hk2, hk3⟩ Ks hKs
  (refine S ?_; try exact True.intro)
  (repeat' (first
    | refine awp_seq_k fun K hK => ?_
    | refine wkA ?_
    | (with_reducible refine gR 1 ?_); refine dE 1 [0, 1, 2, 3, 4, 5, 6, 7, 8, 9, 10, 11, 12, 13, 14, 15, 16, 17] mixed ?_
    | (refine hK _ _ ?_; clear hK K)
    | (refine wcond (fun hc => ?_) (fun hc => ?_) <;> first | contradiction | (exfalso; omega) | skip)
    | (refine hKo _ _ ?_)
    | refine wkB ?_
    | exact True.intro
    | (clear hK K)))
  · obtain ⟨g0, g3⟩ := hc
    have g12 : k < a.length ∧ k < b.length := by split at g0 <;> omega
    obtain ⟨g1, g2⟩ := g12
    refine hKs _ _ (next_mk (k + 1) ⟨by omega, by omega, fun j hj => ?_⟩ (by show a.length - (k + 1) < a.length - k; omega) rfl lle)
    by_cases h : j < k
    · exact hk3 j h
    · rw [show j = k by omega]; exact g3
  have hpre : preN a b = k := pre_is _ _ _ hk1 hk2 hk3 fun h1 h2 e => by
    rcases hc with h | h
    · split at h <;> omega
    · exact h e
  clear hc hk3
  have hKo := hK; clear hK
  have hdl : (a.drop k).length = a.length - k := List.length_drop
  have hdl2 : (b.drop k).length = b.length - k := List.length_drop
  have oA : ∀ t ∈ a.drop k, t.size ≤ 1000 := fun t ht => oa t (List.mem_of_mem_drop ht)
  have oB : ∀ t ∈ b.drop k, t.size ≤ 1000 := fun t ht => ob t (List.mem_of_mem_drop ht)
  unfold outL at hR
  rw [hpre] at hR
  generalize hAd : a.drop k = Ad at *
  generalize hBd : b.drop k = Bd at *
  have hta : List.take (a.length - k) Ad = Ad := List.take_of_length_le (by omega)
  have htb : List.take (b.length - k) Bd = Bd := List.take_of_length_le (by omega)
  rw [hta]
  obtain ⟨A, hA0, hAs, hAe, hAl⟩ := rows_map L outA Ad
  refine awp_loop_inv (S := Nat) [(8, 1), (35, 18)] (fun i => i ≤ Ad.length) (fun i => [(35, rI i)]) (fun i => ⟨[0, 1], lnE (A i)⟩) (fun i => Ad.length - i) 0 (by omega) (fle_at (by rw [hA0]; try rfl) lle) ?_
  rintro i hi Kt hKt
  have hl := hAl i
  by_cases hlt : i < Ad.length
  · have hs := hAs i hlt
    have hz := oA _ (nth_mem hlt)
    generalize hx : nth Ad i = x at *
    unfold outA at hs
    (refine S ?_; try exact True.intro)
    (have W := hx; repeat' (first
    | refine awp_seq_k fun K hK => ?_
    | refine wkA ?_
    | (with_reducible refine gR 1 ?_); refine dE 1 [0, 1, 2, 3, 4, 5, 6, 7, 8, 9, 10, 11, 12, 13, 14, 15, 16, 17] mixed ?_
    | (refine hK _ _ ?_; clear hK K)
    | (refine wcond (fun hc => ?_) (fun hc => ?_) <;> first | contradiction | (exfalso; omega) | skip)
    | (refine hKo _ _ ?_)
    | refine wkB ?_
    | exact True.intro
    | (clear hK K))); all_goals (try clear W)
    refine hKt _ _ (next_mk (i + 1) (by omega) (by show Ad.length - (i + 1) < Ad.length - i; omega) (by rw [hs]; first | done | rfl | (unfold lnE; simp only [List.map_append, List.length_append, List.length_cons, List.length_nil]; first | done | rfl)) lle)
  have hie : i = Ad.length := by omega
  subst hie
  clear hAs hA0 hlt
  generalize A Ad.length = M1 at *
  (refine S ?_; try exact True.intro)
  (repeat' (first
    | refine awp_seq_k fun K hK => ?_
    | refine wkA ?_
    | (with_reducible refine gR 1 ?_); refine dE 1 [0, 1, 2, 3, 4, 5, 6, 7, 8, 9, 10, 11, 12, 13, 14, 15, 16, 17] mixed ?_
    | (refine hK _ _ ?_; clear hK K)
    | (refine wcond (fun hc => ?_) (fun hc => ?_) <;> first | contradiction | (exfalso; omega) | skip)
    | (refine hKo _ _ ?_)
    | refine wkB ?_
    | exact True.intro
    | (clear hK K)))
  have hKo := hK; clear hK
  rw [hBd, htb]
  obtain ⟨A2, hA0, hAs, hAe2, hAl2⟩ := rows_map M1 outB Bd
  refine awp_loop_inv (S := Nat) [(10, 1), (57, 16)] (fun i => i ≤ Bd.length) (fun i => [(57, rI i)]) (fun i => ⟨[0, 1], lnE (A2 i)⟩) (fun i => Bd.length - i) 0 (by omega) (fle_at (by rw [hA0]; try rfl) lle) ?_
  rintro i hi Ku hKu
  have hl2 := hAl2 i
  by_cases hlt : i < Bd.length
  · have hs := hAs i hlt
    have hz := oB _ (nth_mem hlt)
    generalize hx : nth Bd i = x at *
    unfold outB at hs
    (refine S ?_; try exact True.intro)
    (have W := hx; repeat' (first
    | refine awp_seq_k fun K hK => ?_
    | refine wkA ?_
    | (with_reducible refine gR 1 ?_); refine dE 1 [0, 1, 2, 3, 4, 5, 6, 7, 8, 9, 10, 11, 12, 13, 14, 15, 16, 17] mixed ?_
    | (refine hK _ _ ?_; clear hK K)
    | (refine wcond (fun hc => ?_) (fun hc => ?_) <;> first | contradiction | (exfalso; omega) | skip)
    | (refine hKo _ _ ?_)
    | refine wkB ?_
    | exact True.intro
    | (clear hK K))); all_goals (try clear W)
    refine hKu _ _ (next_mk (i + 1) (by omega) (by show Bd.length - (i + 1) < Bd.length - i; omega) (by rw [hs]; first | done | rfl | (unfold lnE; simp only [List.map_append, List.length_append, List.length_cons, List.length_nil]; first | done | rfl)) lle)
  have hie : i = Bd.length := by omega
  subst hie
  clear hAs hA0 hlt
  generalize A2 Bd.length = M2 at *
  have hMR : M2 = R := by rw [hAe2, hAe, List.append_assoc, hR]
  subst hMR
  (refine S ?_; try exact True.intro)
  (repeat' (first
    | refine awp_seq_k fun K hK => ?_
    | refine wkA ?_
    | (with_reducible refine gR 1 ?_); refine dE 1 [0, 1, 2, 3, 4, 5, 6, 7, 8, 9, 10, 11, 12, 13, 14, 15, 16, 17] mixed ?_
    | (refine hK _ _ ?_; clear hK K)
    | (refine wcond (fun hc => ?_) (fun hc => ?_) <;> first | contradiction | (exfalso; omega) | skip)
    | (refine hKo _ _ ?_)
    | refine wkB ?_
    | exact True.intro
    | (clear hK K)))
  (refine retf [] ?_ ?_ <;> (try simp only [go_sem]))
theorem call_c (L : List ByteArray) (n : Nat) (a b : GView) (hL : L.length ≤ 10000000) (ha : DvOk a) (hb : DvOk b) (hn : n ≤ 1000) : ACalls Tryd.prog 12 [.pt 0 0 0 0, rI n, .agg (eGView a), .agg (eGView b)] (lnE L) (fun r l' => r = .tup [] ∧ l' = lnE (L ++ callL a b n)) := by
  have hit := itoa_c n (by unfold rng; omega)
  have his := itoa_size (n := n) (by unfold rng; omega)
  have h1 := at_c a n ha hn
  have h2 := at_c b n hb hn
  have z1 := ha.head n
  have z2 := hb.head n
  have o1 := ha.callS n
  have o2 := hb.callS n
  have ov1 := o1.n
  have ov2 := o2.n
  generalize hR : L ++ callL a b n = R
  unfold callL linesC at hR
  generalize headT a n = X at *
  generalize headT b n = Y at *
  generalize callS a n = c at *
  generalize callS b n = d at *
  have t1 := texts_c7 c.vars (by omega)
  have t2 := texts_c8 d.vars (by omega)
  have q1 := eqsh_c c.vars d.vars (by omega)
  have hat : (itoaB n ++ (⟨#[32]⟩ : ByteArray) ++ (⟨#[97, 116, 32]⟩ : ByteArray)).size ≤ 100000 := by
    rw [ByteArray.size_append, ByteArray.size_append]
    show (itoaB n).size + 1 + 3 ≤ _
    omega
  have p1 := put_c L (itoaB n ++ (⟨#[32]⟩ : ByteArray) ++ (⟨#[97, 116, 32]⟩ : ByteArray)) X Y (by omega) hat (by omega) (by omega)
  generalize hM0 : L ++ putL (itoaB n ++ (⟨#[32]⟩ : ByteArray) ++ (⟨#[97, 116, 32]⟩ : ByteArray)) X Y = M0 at *
  refine entM Tryd.func12 Tryd.ntmps12 ?_
  (refine S ?_; try exact True.intro)
  (repeat' (first
    | refine awp_seq_k fun K hK => ?_
    | refine wkA ?_
    | (with_reducible refine gR 1 ?_); refine dQ 1 mixed ?_
    | (with_reducible refine gR 5 ?_); refine dC 5 ([], [], [48, 51]) [] [0, 1, 3, 4, 2, 5, 6, 7] mixed ?_
    | (with_reducible refine gR 9 ?_); refine dC 9 ([0, 1], [], [70, 71]) [] [0, 1, 2, 3, 4, 5, 6, 7, 8, 9, 10, 11, 12] mixed ?_
    | (with_reducible refine gR 15 ?_); refine dE 15 [0, 1, 2, 3, 4, 5, 6, 7, 8, 9, 10, 11, 12, 13, 14, 15, 16, 17, 18, 19] mixed ?_
    | (refine hK _ _ ?_; clear hK K)
    | (refine wcond (fun hc => ?_) (fun hc => ?_) <;> first | contradiction | (exfalso; omega) | skip)
    | refine bxF 2 ?_
    | refine bxF 3 ?_
    | refine alF 4 ?_
    | refine alF 5 ?_
    | refine cp (hit) ?_
    | refine cq (hit) ?_
    | refine cp (h1) ?_
    | refine cp (h2) ?_
    | refine cm (p1) ?_
    | (refine cN t1 ?_)
    | (refine cN t2 ?_)
    | refine wkB ?_
    | exact True.intro
    | (clear hK K)))
  (repeat clear hc)
  have hm0 : M0.length ≤ L.length + 1 := by
    rw [← hM0, List.length_append]
    have := putL_len (itoaB n ++ (⟨#[32]⟩ : ByteArray) ++ (⟨#[97, 116, 32]⟩ : ByteArray)) X Y
    omega
  clear p1 t1 t2 h1 h2 hit
  have hKo := hK; clear hK
  obtain ⟨A, hA0, hAs, hAe, hAl⟩ := rows_of M0 (mineF n d.vars) (fun x => putL_len _ _ _) c.vars
  refine awp_loop_inv (S := Nat) [(17, 1), (55, 18)] (fun k => k ≤ c.vars.length) (fun k => [(55, rI k)]) (fun k => ⟨[0, 1], [(0, .var 41 [.rs 1 (A k).length 1 (A k).length]), (1, .vec 9 1 ((A k).map eS)), (2, .var 25 (eGView a)), (3, .var 25 (eGView b)), (4, .var 36 (eGSeen c)), (5, .var 36 (eGSeen d)), (7, .mp ((namT c.vars).1.map Value.string) ((namT c.vars).2.map rS)), (8, .mp ((namT d.vars).1.map Value.string) ((namT d.vars).2.map rS))]⟩) (fun k => c.vars.length - k) 0 (by omega) (fle_at (by rw [hA0]; try rfl) lle) ?_
  rintro k hk Kr hKr
  have hl1 := hAl k
  by_cases hlt : k < c.vars.length
  · have hfs := hAs k hlt
    obtain ⟨hx1, hx2⟩ := o1.var _ (nth_mem hlt)
    have hof := of_c8 d.vars (nth c.vars k).name
    have hfz := find_size d.vars (nth c.vars k).name o2.var
    have hps : (itoaB n ++ (⟨#[32]⟩ : ByteArray) ++ (nth c.vars k).name ++ (⟨#[32]⟩ : ByteArray)).size ≤ 100000 := by
      rw [ByteArray.size_append, ByteArray.size_append, ByteArray.size_append]
      show (itoaB n).size + 1 + _ + 1 ≤ _
      omega
    have hpu := put_c (A k) (itoaB n ++ (⟨#[32]⟩ : ByteArray) ++ (nth c.vars k).name ++ (⟨#[32]⟩ : ByteArray)) (nth c.vars k).text (findT d.vars (nth c.vars k).name) (by omega) hps (by omega) (by omega)
    generalize hxk : nth c.vars k = x at *
    unfold mineF at hfs
    rw [← hfs] at hpu
    generalize hA' : A (k + 1) = A' at hpu
    clear hfs
    (refine S ?_; try exact True.intro)
    (have W := hxk; repeat' (first
    | refine awp_seq_k fun K hK => ?_
    | refine wkA ?_
    | (with_reducible refine gR 1 ?_); refine dQ 1 mixed ?_
    | (with_reducible refine gR 5 ?_); refine dC 5 ([], [], [48, 51]) [] [0, 1, 3, 4, 2, 5, 6, 7] mixed ?_
    | (with_reducible refine gR 9 ?_); refine dC 9 ([0, 1], [], [70, 71]) [] [0, 1, 2, 3, 4, 5, 6, 7, 8, 9, 10, 11, 12] mixed ?_
    | (with_reducible refine gR 15 ?_); refine dE 15 [0, 1, 2, 3, 4, 5, 6, 7, 8, 9, 10, 11, 12, 13, 14, 15, 16, 17, 18, 19] mixed ?_
    | (refine hK _ _ ?_; clear hK K)
    | (refine wcond (fun hc => ?_) (fun hc => ?_) <;> first | contradiction | (exfalso; omega) | skip)
    | refine alF 6 ?_
    | (refine cNA hof ?_)
    | (refine cNA hpu ?_)
    | (refine hKo _ _ ?_)
    | refine wkB ?_
    | exact True.intro
    | (clear hK K))); all_goals (try clear W)
    refine hKr _ _ (next_drop [6] (k + 1) (by omega) (by show c.vars.length - (k + 1) < c.vars.length - k; omega) rfl Sd (by rw [hA']; rfl) vtl)
  have hke : k = c.vars.length := by omega
  subst hke
  clear hAs hA0 hlt
  generalize A c.vars.length = M1 at *
  (refine S ?_; try exact True.intro)
  (repeat' (first
    | refine awp_seq_k fun K hK => ?_
    | refine wkA ?_
    | (with_reducible refine gR 1 ?_); refine dQ 1 mixed ?_
    | (with_reducible refine gR 5 ?_); refine dC 5 ([], [], [48, 51]) [] [0, 1, 3, 4, 2, 5, 6, 7] mixed ?_
    | (with_reducible refine gR 9 ?_); refine dC 9 ([0, 1], [], [70, 71]) [] [0, 1, 2, 3, 4, 5, 6, 7, 8, 9, 10, 11, 12] mixed ?_
    | (with_reducible refine gR 15 ?_); refine dE 15 [0, 1, 2, 3, 4, 5, 6, 7, 8, 9, 10, 11, 12, 13, 14, 15, 16, 17, 18, 19] mixed ?_
    | (refine hK _ _ ?_; clear hK K)
    | (refine wcond (fun hc => ?_) (fun hc => ?_) <;> first | contradiction | (exfalso; omega) | skip)
    | (refine hKo _ _ ?_)
    | refine wkB ?_
    | exact True.intro
    | (clear hK K)))
  have hKo := hK; clear hK
  obtain ⟨A2, hA0, hAs, hAe2, hAl2⟩ := rows_of M1 (otherF n c.vars) (fun x => otherF_len _ _ _) d.vars
  refine awp_loop_inv (S := Nat) [(19, 1), (76, 29)] (fun k => k ≤ d.vars.length) (fun k => [(76, rI k)]) (fun k => ⟨[0, 1], [(0, .var 41 [.rs 1 (A2 k).length 1 (A2 k).length]), (1, .vec 9 1 ((A2 k).map eS)), (2, .var 25 (eGView a)), (3, .var 25 (eGView b)), (4, .var 36 (eGSeen c)), (5, .var 36 (eGSeen d)), (7, .mp ((namT c.vars).1.map Value.string) ((namT c.vars).2.map rS)), (8, .mp ((namT d.vars).1.map Value.string) ((namT d.vars).2.map rS))]⟩) (fun k => d.vars.length - k) 0 (by omega) (fle_at (by rw [hA0]; try rfl) lle) ?_
  rintro k hk Ks hKs
  have hl2 := hAl2 k
  by_cases hlt : k < d.vars.length
  · have hfs := hAs k hlt
    obtain ⟨hx1, hx2⟩ := o2.var _ (nth_mem hlt)
    have hof := of_c7 c.vars (nth d.vars k).name
    generalize hxk : nth d.vars k = x at *
    unfold otherF lineT at hfs
    generalize findT c.vars x.name = T at *
    by_cases ht : T = (⟨#[45]⟩ : ByteArray)
    · rw [if_pos ht] at hfs
      (refine S ?_; try exact True.intro)
      (have W := And.intro hxk (ht); repeat' (first
    | refine awp_seq_k fun K hK => ?_
    | refine wkA ?_
    | (with_reducible refine gR 1 ?_); refine dQ 1 mixed ?_
    | (with_reducible refine gR 5 ?_); refine dC 5 ([], [], [48, 51]) [] [0, 1, 3, 4, 2, 5, 6, 7] mixed ?_
    | (with_reducible refine gR 9 ?_); refine dC 9 ([0, 1], [], [70, 71]) [] [0, 1, 2, 3, 4, 5, 6, 7, 8, 9, 10, 11, 12] mixed ?_
    | (with_reducible refine gR 15 ?_); refine dE 15 [0, 1, 2, 3, 4, 5, 6, 7, 8, 9, 10, 11, 12, 13, 14, 15, 16, 17, 18, 19] mixed ?_
    | (refine hK _ _ ?_; clear hK K)
    | (refine wcond (fun hc => ?_) (fun hc => ?_) <;> first | contradiction | (exfalso; omega) | skip)
    | refine alF 6 ?_
    | refine cm (hof) ?_
    | (refine hKo _ _ ?_)
    | refine wkB ?_
    | exact True.intro
    | (clear hK K))); all_goals (try clear W)
      refine hKs _ _ (next_drop [6] (k + 1) (by omega) (by show d.vars.length - (k + 1) < d.vars.length - k; omega) rfl Sd (by rw [hfs]; simp only [List.map_append, List.length_append, List.length_cons, List.length_nil]; rfl) vtl)
    · rw [if_neg ht, List.append_nil] at hfs
      have ht' := eq_false ht
      (refine S ?_; try exact True.intro)
      (have W := And.intro hxk (ht'); repeat' (first
    | refine awp_seq_k fun K hK => ?_
    | refine wkA ?_
    | (with_reducible refine gR 1 ?_); refine dQ 1 mixed ?_
    | (with_reducible refine gR 5 ?_); refine dC 5 ([], [], [48, 51]) [] [0, 1, 3, 4, 2, 5, 6, 7] mixed ?_
    | (with_reducible refine gR 9 ?_); refine dC 9 ([0, 1], [], [70, 71]) [] [0, 1, 2, 3, 4, 5, 6, 7, 8, 9, 10, 11, 12] mixed ?_
    | (with_reducible refine gR 15 ?_); refine dE 15 [0, 1, 2, 3, 4, 5, 6, 7, 8, 9, 10, 11, 12, 13, 14, 15, 16, 17, 18, 19] mixed ?_
    | (refine hK _ _ ?_; clear hK K)
    | (refine wcond (fun hc => ?_) (fun hc => ?_) <;> first | contradiction | (exfalso; omega) | skip)
    | refine alF 6 ?_
    | refine cm (hof) ?_
    | (refine hKo _ _ ?_)
    | refine wkB ?_
    | exact True.intro
    | (clear hK K))); all_goals (try clear W)
      refine hKs _ _ (next_drop [6] (k + 1) (by omega) (by show d.vars.length - (k + 1) < d.vars.length - k; omega) rfl Sd (by rw [hfs]; rfl) vtl)
  have hke : k = d.vars.length := by omega
  subst hke
  clear hAs hA0 hlt
  generalize A2 d.vars.length = M2 at *
  have hM2 : M2 = L ++ (putL (itoaB n ++ (⟨#[32]⟩ : ByteArray) ++ (⟨#[97, 116, 32]⟩ : ByteArray)) X Y ++ c.vars.flatMap (mineF n d.vars) ++ d.vars.flatMap (otherF n c.vars)) := by
    rw [hAe2, hAe, ← hM0, List.append_assoc, List.append_assoc, List.append_assoc]
  generalize putL (itoaB n ++ (⟨#[32]⟩ : ByteArray) ++ (⟨#[97, 116, 32]⟩ : ByteArray)) X Y ++ c.vars.flatMap (mineF n d.vars) ++ d.vars.flatMap (otherF n c.vars) = N at *
  rw [← List.append_assoc, ← hM2] at hR
  have hlen : M2.length = L.length + N.length := by rw [hM2, List.length_append]
  by_cases hN : N = []
  · have hn0 : (M2.length : Int) = L.length := by rw [hlen, hN]; simp
    by_cases hcd : c.vars = d.vars
    · rw [if_neg (fun h => h.2 hcd), List.append_nil] at hR
      subst hR
      rw [decide_eq_true hcd] at q1
      (refine S ?_; try exact True.intro)
      (have W := hn0; repeat' (first
    | refine awp_seq_k fun K hK => ?_
    | refine wkA ?_
    | (with_reducible refine gR 1 ?_); refine dQ 1 mixed ?_
    | (with_reducible refine gR 5 ?_); refine dC 5 ([], [], [48, 51]) [] [0, 1, 3, 4, 2, 5, 6, 7] mixed ?_
    | (with_reducible refine gR 9 ?_); refine dC 9 ([0, 1], [], [70, 71]) [] [0, 1, 2, 3, 4, 5, 6, 7, 8, 9, 10, 11, 12] mixed ?_
    | (with_reducible refine gR 15 ?_); refine dE 15 [0, 1, 2, 3, 4, 5, 6, 7, 8, 9, 10, 11, 12, 13, 14, 15, 16, 17, 18, 19] mixed ?_
    | (refine hK _ _ ?_; clear hK K)
    | (refine wcond (fun hc => ?_) (fun hc => ?_) <;> first | contradiction | (exfalso; omega) | skip)
    | refine cq (q1) ?_
    | (first | refine cg (q1) ?_ | refine cg' (q1) ?_)
    | (refine hKo _ _ ?_)
    | refine wkB ?_
    | exact True.intro
    | (clear hK K))); all_goals (try clear W)
      (refine retd [] ?_; try simp only [go_sem])
    · rw [if_pos ⟨hN, hcd⟩] at hR
      subst hR
      rw [decide_eq_false hcd] at q1
      (refine S ?_; try exact True.intro)
      (have W := hn0; repeat' (first
    | refine awp_seq_k fun K hK => ?_
    | refine wkA ?_
    | (with_reducible refine gR 1 ?_); refine dQ 1 mixed ?_
    | (with_reducible refine gR 5 ?_); refine dC 5 ([], [], [48, 51]) [] [0, 1, 3, 4, 2, 5, 6, 7] mixed ?_
    | (with_reducible refine gR 9 ?_); refine dC 9 ([0, 1], [], [70, 71]) [] [0, 1, 2, 3, 4, 5, 6, 7, 8, 9, 10, 11, 12] mixed ?_
    | (with_reducible refine gR 15 ?_); refine dE 15 [0, 1, 2, 3, 4, 5, 6, 7, 8, 9, 10, 11, 12, 13, 14, 15, 16, 17, 18, 19] mixed ?_
    | (refine hK _ _ ?_; clear hK K)
    | (refine wcond (fun hc => ?_) (fun hc => ?_) <;> first | contradiction | (exfalso; omega) | skip)
    | refine cq (q1) ?_
    | (first | refine cg (q1) ?_ | refine cg' (q1) ?_)
    | (refine hKo _ _ ?_)
    | refine wkB ?_
    | exact True.intro
    | (clear hK K))); all_goals (try clear W)
      (refine retd [] ?_; try simp only [go_sem])
  · rw [if_neg (fun h => hN h.1), List.append_nil] at hR
    subst hR
    have hn0 : ((M2.length : Int) = L.length) = False := eq_false fun e => hN (List.length_eq_zero_iff.1 (by omega))
    generalize decide (c.vars = d.vars) = e at q1
    cases e
    all_goals
      (refine S ?_; try exact True.intro)
      (have W := hn0; repeat' (first
    | refine awp_seq_k fun K hK => ?_
    | refine wkA ?_
    | (with_reducible refine gR 1 ?_); refine dQ 1 mixed ?_
    | (with_reducible refine gR 5 ?_); refine dC 5 ([], [], [48, 51]) [] [0, 1, 3, 4, 2, 5, 6, 7] mixed ?_
    | (with_reducible refine gR 9 ?_); refine dC 9 ([0, 1], [], [70, 71]) [] [0, 1, 2, 3, 4, 5, 6, 7, 8, 9, 10, 11, 12] mixed ?_
    | (with_reducible refine gR 15 ?_); refine dE 15 [0, 1, 2, 3, 4, 5, 6, 7, 8, 9, 10, 11, 12, 13, 14, 15, 16, 17, 18, 19] mixed ?_
    | (refine hK _ _ ?_; clear hK K)
    | (refine wcond (fun hc => ?_) (fun hc => ?_) <;> first | contradiction | (exfalso; omega) | skip)
    | refine cq (q1) ?_
    | (first | refine cg (q1) ?_ | refine cg' (q1) ?_)
    | (refine ⟨rB false, ?_⟩; (refine S ?_; try exact True.intro))
    | (refine hKo _ _ ?_)
    | refine wkB ?_
    | exact True.intro
    | (clear hK K))); all_goals (try clear W)
      (refine retd [] ?_; try simp only [go_sem])
end Go.Proofs.YtflopjbjlbkgnaaDoor
