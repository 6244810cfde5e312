/- How a view stands, and what is unlike in two views: the document's. What is unlike in two views: the document's. No conditions. -/
import Derived.Test.YtflopjbjlbkgnaaDoorDf1
import Derived.Test.YtflopjbjlbkgnaaDoorDf2
set_option linter.all false
namespace Go.Proofs.YtflopjbjlbkgnaaDoor
open Go Go.Gd
set_option maxHeartbeats 4000000
set_option maxRecDepth 10000
/-- What is told of how a view stands, without calls and texts. -/
def standI (s t : Int) : ByteArray := (⟨#[105, 110, 32]⟩ : ByteArray) ++ itoaB 0 ++ (if s = 0 then (⟨#[32, 114, 117, 110, 115]⟩ : ByteArray) else if s = 1 then (⟨#[32, 119, 97, 105, 116, 115]⟩ : ByteArray) else if s = 2 then (⟨#[32, 101, 110, 100, 115]⟩ : ByteArray) else (⟨#[32, 102, 97, 108, 108, 115, 32]⟩ : ByteArray) ++ itoaB t)
theorem lines0_c (s t : Int) (h : rng t) : PCall Tryd.prog 27 [.agg [.raw (.slice none 0 0), .raw (.slice none 0 0), rI 0, rI s, rI t]] (slOf eS 1 [standI s t]) := by
  have h0 := itoa_c 0 (by unfold rng; decide)
  have z0 : (itoaB 0).size ≤ 21 := itoa_size (by unfold rng; decide)
  have h1 := itoa_c t h
  have z1 := itoa_size h
  unfold standI
  refine entP Tryd.func27 Tryd.ntmps27 ?_
  (repeat' (first
    | refine awp_seq_k fun K hK => ?_
    | refine wkA ?_
    | (with_reducible refine gR 6 ?_); refine dQ 6 mixed ?_
    | (with_reducible refine gR 10 ?_); refine dE 10 [0, 1, 2, 3, 4, 5, 6, 7, 8, 9, 10, 11, 12, 13, 14, 15, 16, 17] mixed ?_
    | (refine hK _ _ ?_; clear hK K)
    | (refine wcond (fun hc => ?_) (fun hc => ?_) <;> first | contradiction | (exfalso; omega) | skip)
    | refine bx 0 ?_
    | refine litO 1 ?_
    | refine wkB ?_
    | exact True.intro
    | (clear hK K)))
  have hKo := hK; clear hK
  refine awp_loop_inv (S := Unit) [(3, 5), (11, 48)] (fun _ => True) (fun _ => [(3, .rs 1 0 1 0), (4, rI 0)]) (fun _ => ⟨[], [(0, .var 25 [.raw (.slice none 0 0), .raw (.slice none 0 0), rI 0, rI s, rI t]), (1, .vec 9 1 [])]⟩) (fun _ => 0) () trivial (fle_at rfl lle) ?_
  rintro _ _ Kr hKr
  (refine S ?_; try exact True.intro)
  (repeat' (first
    | refine awp_seq_k fun K hK => ?_
    | refine wkA ?_
    | (with_reducible refine gR 6 ?_); refine dQ 6 mixed ?_
    | (with_reducible refine gR 10 ?_); refine dE 10 [0, 1, 2, 3, 4, 5, 6, 7, 8, 9, 10, 11, 12, 13, 14, 15, 16, 17] mixed ?_
    | (refine hK _ _ ?_; clear hK K)
    | (refine wcond (fun hc => ?_) (fun hc => ?_) <;> first | contradiction | (exfalso; omega) | skip)
    | (refine hKo _ _ ?_)
    | refine wkB ?_
    | exact True.intro
    | (clear hK K)))
  have hKo := hK; clear hK
  refine awp_loop_inv (S := Unit) [(3, 1), (8, 1), (59, 16)] (fun _ => True) (fun _ => [(3, .rs 1 0 1 0), (8, rI 0)]) (fun _ => ⟨[], [(0, .var 25 [.raw (.slice none 0 0), .raw (.slice none 0 0), rI 0, rI s, rI t]), (1, .vec 9 1 [])]⟩) (fun _ => 0) () trivial (fle_at rfl lle) ?_
  rintro _ _ Ks hKs
  by_cases e0 : s = 0
  · subst e0
    (refine S ?_; try exact True.intro)
    (repeat' (first
    | refine awp_seq_k fun K hK => ?_
    | refine wkA ?_
    | (with_reducible refine gR 6 ?_); refine dQ 6 mixed ?_
    | (with_reducible refine gR 10 ?_); refine dE 10 [0, 1, 2, 3, 4, 5, 6, 7, 8, 9, 10, 11, 12, 13, 14, 15, 16, 17] mixed ?_
    | (refine hK _ _ ?_; clear hK K)
    | (refine wcond (fun hc => ?_) (fun hc => ?_) <;> first | contradiction | (exfalso; omega) | skip)
    | refine cp (h0) ?_
    | refine cp (h1) ?_
    | (refine hKo _ _ ?_)
    | refine wkB ?_
    | exact True.intro
    | (clear hK K)))
    refine retv [.tmp 2] ?_
    exact VTo.row (e := 9) [_] rfl rfl rfl
  by_cases e1 : s = 1
  · subst e1
    (refine S ?_; try exact True.intro)
    (repeat' (first
    | refine awp_seq_k fun K hK => ?_
    | refine wkA ?_
    | (with_reducible refine gR 6 ?_); refine dQ 6 mixed ?_
    | (with_reducible refine gR 10 ?_); refine dE 10 [0, 1, 2, 3, 4, 5, 6, 7, 8, 9, 10, 11, 12, 13, 14, 15, 16, 17] mixed ?_
    | (refine hK _ _ ?_; clear hK K)
    | (refine wcond (fun hc => ?_) (fun hc => ?_) <;> first | contradiction | (exfalso; omega) | skip)
    | refine cp (h0) ?_
    | refine cp (h1) ?_
    | (refine hKo _ _ ?_)
    | refine wkB ?_
    | exact True.intro
    | (clear hK K)))
    refine retv [.tmp 2] ?_
    exact VTo.row (e := 9) [_] rfl rfl rfl
  by_cases e2 : s = 2
  · subst e2
    (refine S ?_; try exact True.intro)
    (repeat' (first
    | refine awp_seq_k fun K hK => ?_
    | refine wkA ?_
    | (with_reducible refine gR 6 ?_); refine dQ 6 mixed ?_
    | (with_reducible refine gR 10 ?_); refine dE 10 [0, 1, 2, 3, 4, 5, 6, 7, 8, 9, 10, 11, 12, 13, 14, 15, 16, 17] mixed ?_
    | (refine hK _ _ ?_; clear hK K)
    | (refine wcond (fun hc => ?_) (fun hc => ?_) <;> first | contradiction | (exfalso; omega) | skip)
    | refine cp (h0) ?_
    | refine cp (h1) ?_
    | (refine hKo _ _ ?_)
    | refine wkB ?_
    | exact True.intro
    | (clear hK K)))
    refine retv [.tmp 2] ?_
    exact VTo.row (e := 9) [_] rfl rfl rfl
  (refine S ?_; try exact True.intro)
  (have W := And.intro e0 (And.intro e1 (e2)); repeat' (first
    | refine awp_seq_k fun K hK => ?_
    | refine wkA ?_
    | (with_reducible refine gR 6 ?_); refine dQ 6 mixed ?_
    | (with_reducible refine gR 10 ?_); refine dE 10 [0, 1, 2, 3, 4, 5, 6, 7, 8, 9, 10, 11, 12, 13, 14, 15, 16, 17] mixed ?_
    | (refine hK _ _ ?_; clear hK K)
    | (refine wcond (fun hc => ?_) (fun hc => ?_) <;> first | contradiction | (exfalso; omega) | skip)
    | refine cp (h0) ?_
    | refine cp (h1) ?_
    | (refine hKo _ _ ?_)
    | refine wkB ?_
    | exact True.intro
    | (clear hK K))); all_goals (try clear W)
  refine retv [.tmp 2] ?_
  refine VTo.row (e := 9) [_] rfl ?_ rfl
  rw [if_neg e0, if_neg e1, if_neg e2, ← ByteArray.append_assoc]; rfl
theorem stand_ext (s t : Int) : (standI s t).extract 5 (standI s t).size = standW s t := by
  apply ba_ext
  unfold standI standW
  rw [itoa_zero]
  split
  · rfl
  split
  · rfl
  split
  · rfl
  · have e : (⟨#[105, 110, 32]⟩ : ByteArray) ++ (⟨#[48]⟩ : ByteArray) ++ ((⟨#[32, 102, 97, 108, 108, 115, 32]⟩ : ByteArray) ++ itoaB t) = (⟨#[105, 110, 32, 48, 32]⟩ : ByteArray) ++ ((⟨#[102, 97, 108, 108, 115, 32]⟩ : ByteArray) ++ itoaB t) := by
      apply ba_ext; simp
    rw [e]
    generalize (⟨#[102, 97, 108, 108, 115, 32]⟩ : ByteArray) ++ itoaB t = X
    rw [ByteArray.size_append]
    show (((⟨#[105, 110, 32, 48, 32]⟩ : ByteArray) ++ X).extract 5 (5 + X.size)).data.toList = _
    have e2 : X.data.toList.length = X.size := by simp
    simp [ByteArray.data_extract]
    rw [← e2, List.take_length]
theorem stand_size (s t : Int) : 5 ≤ (standI s t).size := by
  unfold standI
  rw [itoa_zero, ByteArray.size_append, ByteArray.size_append]
  have h : 5 ≤ (if s = 0 then (⟨#[32, 114, 117, 110, 115]⟩ : ByteArray) else if s = 1 then (⟨#[32, 119, 97, 105, 116, 115]⟩ : ByteArray) else if s = 2 then (⟨#[32, 101, 110, 100, 115]⟩ : ByteArray) else (⟨#[32, 102, 97, 108, 108, 115, 32]⟩ : ByteArray) ++ itoaB t).size := by
    split
    · decide
    split
    · decide
    split
    · decide
    · rw [ByteArray.size_append]
      exact Nat.le_trans (show 5 ≤ ((⟨#[32, 102, 97, 108, 108, 115, 32]⟩ : ByteArray)).size by decide) (Nat.le_add_right _ _)
  omega
theorem stand_sz (s t : Int) (h : rng t) : (standW s t).size ≤ 40 := by
  have := itoa_size h
  unfold standW
  split
  · decide
  split
  · decide
  split
  · decide
  · rw [ByteArray.size_append]
    show 6 + _ ≤ _
    omega
theorem rstands_c (v : GView) (h : rng v.trap) : PCall Tryd.prog 18 [.agg (eGView v)] (rS (standW v.status v.trap)) := by
  have hl := lines0_c v.status v.trap h
  have he := stand_ext v.status v.trap
  have hz := stand_size v.status v.trap
  generalize standI v.status v.trap = X at *
  rw [← he]
  refine entP Tryd.func18 Tryd.ntmps18 ?_
  (repeat' (first
    | refine awp_seq_k fun K hK => ?_
    | refine wkA ?_
    | (refine hK _ _ ?_; clear hK K)
    | (refine wcond (fun hc => ?_) (fun hc => ?_) <;> first | contradiction | (exfalso; omega) | skip)
    | refine bx 0 ?_
    | refine cp (hl) ?_
    | refine wkB ?_
    | exact True.intro
    | (clear hK K)))
  (refine retd [.tmp 2] ?_; try simp only [go_sem])
end Go.Proofs.YtflopjbjlbkgnaaDoor

namespace Go.Gd
open Go
theorem callL_len (a b : GView) (n : Nat) (ha : DvOk a) (hb : DvOk b) : (callL a b n).length ≤ 2002 := by
  have h1 := flat_le (f := mineF n (callS b n).vars) (fun x => putL_len _ _ _) (callS a n).vars
  have h2 := flat_le (f := otherF n (callS a n).vars) (fun x => otherF_len _ _ _) (callS b n).vars
  have h3 := putL_len (itoaB n ++ (⟨#[32]⟩ : ByteArray) ++ (⟨#[97, 116, 32]⟩ : ByteArray)) (headT a n) (headT b n)
  have h4 := (ha.callS n).n
  have h5 := (hb.callS n).n
  have h6 : (if linesC n a b = [] ∧ (callS a n).vars ≠ (callS b n).vars then [itoaB n ++ (⟨#[32]⟩ : ByteArray) ++ (⟨#[118, 97, 114, 115]⟩ : ByteArray)] else []).length ≤ 1 := by split <;> simp
  unfold callL
  rw [List.length_append]
  have h7 : (linesC n a b).length ≤ 2001 := by
    unfold linesC
    rw [List.length_append, List.length_append]
    omega
  omega
theorem manyC_len (a b : GView) (ha : DvOk a) (hb : DvOk b) : ∀ k, (manyC a b k).length ≤ 2002 * k
  | 0 => Nat.le_refl _
  | k + 1 => by
    have := manyC_len a b ha hb k
    have := callL_len a b k ha hb
    rw [manyC_snoc, List.length_append]
    omega
/-- Rows that grow by one each. -/
theorem rows_map (M : List ByteArray) (g : ByteArray → ByteArray) (l : List ByteArray) : ∃ A : Nat → List ByteArray, A 0 = M ∧ (∀ k, k < l.length → A (k + 1) = A k ++ [g (nth l k)]) ∧ A l.length = M ++ l.map g ∧ ∀ k, (A k).length ≤ M.length + l.length := by
  refine ⟨fun k => M ++ (l.take k).map g, by simp, fun k hk => by show M ++ _ = _; rw [take_nth hk, List.map_append, ← List.append_assoc]; rfl, by show M ++ _ = _; rw [List.take_length], fun k => ?_⟩
  show (M ++ _).length ≤ _
  rw [List.length_append, List.length_map, List.length_take]
  omega
theorem nth_drop {α : Type} [Inhabited α] (l : List α) (n k : Nat) : nth (l.drop n) k = nth l (n + k) := by
  unfold nth
  rw [List.getD_eq_getElem?_getD, List.getElem?_drop, List.getD_eq_getElem?_getD]
end Go.Gd
namespace Go.Proofs.YtflopjbjlbkgnaaDoor
open Go Go.Gd
set_option maxHeartbeats 4000000
set_option maxRecDepth 10000
theorem rOf_c (a b : GView) (ha : DvOk a) (hb : DvOk b) : PCall Tryd.prog 9 [.agg (eGView a), .agg (eGView b)] (slOf eS 1 (diffL a b)) := by
  have a1 := ha.calls
  have b1 := hb.calls
  have a2 := ha.outs
  have b2 := hb.outs
  have i1 := itoa_c a.in_ ha.in_
  have i2 := itoa_c b.in_ hb.in_
  have z1 := itoa_size ha.in_
  have z2 := itoa_size hb.in_
  have s1 := rstands_c a ha.trap
  have s2 := rstands_c b hb.trap
  have y1 := stand_sz a.status a.trap ha.trap
  have y2 := stand_sz b.status b.trap hb.trap
  refine entP Tryd.func9 Tryd.ntmps9 ?_
  (repeat' (first
    | refine awp_seq_k fun K hK => ?_
    | refine wkA ?_
    | (with_reducible refine gR 8 ?_); refine dE 8 [0, 1, 2, 3, 4, 5, 6, 7, 8, 9, 10, 11, 12, 13, 14, 15, 16, 17, 18, 19, 20, 21, 22, 23, 24] mixed ?_
    | (with_reducible refine gR 19 ?_); refine dC 19 ([], [100, 105], []) [] [0, 1, 2, 3, 4, 5, 6, 7, 8, 9, 10, 11, 12] mixed ?_
    | (with_reducible refine gR 21 ?_); refine dC 21 ([], [123, 126], []) [] [0, 1, 2, 3, 4, 5, 6, 7, 8, 9] mixed ?_
    | (refine hK _ _ ?_; clear hK K)
    | (refine wcond (fun hc => ?_) (fun hc => ?_) <;> first | contradiction | (exfalso; omega) | skip)
    | refine bx 0 ?_
    | refine bx 1 ?_
    | refine litO 2 ?_
    | refine wkB ?_
    | exact True.intro
    | (clear hK K)))
  have hKo := hK; clear hK
  have hm0 : manyC a b 0 = [] := rfl
  refine awp_loop_inv (S := Nat) [(5, 3), (12, 18)] (fun k => k ≤ max a.calls.length b.calls.length) (fun k => [(6, rI k), (5, .rs 2 (manyC a b k).length 1 (manyC a b k).length)]) (fun k => ⟨[], [(0, .var 25 (eGView a)), (1, .var 25 (eGView b)), (2, .vec 9 1 ((manyC a b k).map eS))]⟩) (fun k => max a.calls.length b.calls.length - k) 0 (by omega) (fle_at rfl (by rw [hm0]; exact lle)) ?_
  rintro k hk Kr hKr
  have hml := manyC_len a b ha hb k
  by_cases hlt : k < max a.calls.length b.calls.length
  · have hrc := rcalls_c a b k ha hb (by omega)
    have hcl := callL_len a b k ha hb
    have hsn := manyC_snoc a b k
    generalize manyC a b k = A at *
    generalize callL a b k = B at *
    (refine S ?_; try exact True.intro)
    (repeat' (first
    | refine awp_seq_k fun K hK => ?_
    | refine wkA ?_
    | (with_reducible refine gR 8 ?_); refine dE 8 [0, 1, 2, 3, 4, 5, 6, 7, 8, 9, 10, 11, 12, 13, 14, 15, 16, 17, 18, 19, 20, 21, 22, 23, 24] mixed ?_
    | (with_reducible refine gR 19 ?_); refine dC 19 ([], [100, 105], []) [] [0, 1, 2, 3, 4, 5, 6, 7, 8, 9, 10, 11, 12] mixed ?_
    | (with_reducible refine gR 21 ?_); refine dC 21 ([], [123, 126], []) [] [0, 1, 2, 3, 4, 5, 6, 7, 8, 9] mixed ?_
    | (refine hK _ _ ?_; clear hK K)
    | (refine wcond (fun hc => ?_) (fun hc => ?_) <;> first | contradiction | (exfalso; omega) | skip)
    | refine cp (hrc) ?_
    | (refine hKo _ _ ?_)
    | refine wkB ?_
    | exact True.intro
    | (clear hK K)))
    refine hKr _ _ (next_mk (k + 1) (by omega) (by show max a.calls.length b.calls.length - (k + 1) < max a.calls.length b.calls.length - k; omega) (by rw [hsn, List.map_append]) (by rw [hsn]; exact lle))
  have hke : k = max a.calls.length b.calls.length := by omega
  subst hke
  generalize hM : manyC a b (max a.calls.length b.calls.length) = M at *
  (refine S ?_; try exact True.intro)
  (repeat' (first
    | refine awp_seq_k fun K hK => ?_
    | refine wkA ?_
    | (with_reducible refine gR 8 ?_); refine dE 8 [0, 1, 2, 3, 4, 5, 6, 7, 8, 9, 10, 11, 12, 13, 14, 15, 16, 17, 18, 19, 20, 21, 22, 23, 24] mixed ?_
    | (with_reducible refine gR 19 ?_); refine dC 19 ([], [100, 105], []) [] [0, 1, 2, 3, 4, 5, 6, 7, 8, 9, 10, 11, 12] mixed ?_
    | (with_reducible refine gR 21 ?_); refine dC 21 ([], [123, 126], []) [] [0, 1, 2, 3, 4, 5, 6, 7, 8, 9] mixed ?_
    | (refine hK _ _ ?_; clear hK K)
    | (refine wcond (fun hc => ?_) (fun hc => ?_) <;> first | contradiction | (exfalso; omega) | skip)
    | (refine hKo _ _ ?_)
    | refine wkB ?_
    | exact True.intro
    | (clear hK K)))
  have hKo := hK; clear hK
  refine awp_loop_inv (S := Nat) [(8, 1), (30, 27)] (fun k => k ≤ a.out_.length ∧ k ≤ b.out_.length ∧ ∀ j, j < k → nth a.out_ j = nth b.out_ j) (fun k => [(8, rI k)]) (fun _ => ⟨[], [(0, .var 25 (eGView a)), (1, .var 25 (eGView b)), (2, .vec 9 1 (M.map eS))]⟩) (fun k => a.out_.length - k) 0 ⟨by omega, by omega, fun j hj => by omega⟩ (fle_at rfl lle) ?_
  rintro k ⟨hk1, hk2, hk3⟩ Ks hKs
  (refine S ?_; try exact True.intro)
  (repeat' (first
    | refine awp_seq_k fun K hK => ?_
    | refine wkA ?_
    | (with_reducible refine gR 8 ?_); refine dE 8 [0, 1, 2, 3, 4, 5, 6, 7, 8, 9, 10, 11, 12, 13, 14, 15, 16, 17, 18, 19, 20, 21, 22, 23, 24] mixed ?_
    | (with_reducible refine gR 19 ?_); refine dC 19 ([], [100, 105], []) [] [0, 1, 2, 3, 4, 5, 6, 7, 8, 9, 10, 11, 12] mixed ?_
    | (with_reducible refine gR 21 ?_); refine dC 21 ([], [123, 126], []) [] [0, 1, 2, 3, 4, 5, 6, 7, 8, 9] mixed ?_
    | (refine hK _ _ ?_; clear hK K)
    | (refine wcond (fun hc => ?_) (fun hc => ?_) <;> first | contradiction | (exfalso; omega) | skip)
    | (refine hKo _ _ ?_)
    | refine wkB ?_
    | exact True.intro
    | (clear hK K)))
  · obtain ⟨⟨g1, g2⟩, g3⟩ := hc
    refine hKs _ _ (next_mk (k + 1) ⟨by omega, by omega, fun j hj => ?_⟩ (by show a.out_.length - (k + 1) < a.out_.length - k; omega) rfl lle)
    by_cases h : j < k
    · exact hk3 j h
    · rw [show j = k by omega]; exact g3
  have hpre : preN a.out_ b.out_ = k := pre_is _ _ _ hk1 hk2 hk3 fun h1 h2 e => by
    rcases hc with (h | h) | h
    · omega
    · omega
    · exact h e
  clear hc hk3
  have hKo := hK; clear hK
  obtain ⟨A, hA0, hAs, hAe, hAl⟩ := rows_map M outA (a.out_.drop k)
  have hdl : (a.out_.drop k).length = a.out_.length - k := List.length_drop
  refine awp_loop_inv (S := Nat) [(5, 1), (9, 1), (58, 17)] (fun i => i ≤ (a.out_.drop k).length) (fun i => [(9, rI ((k + i : Nat) : Int)), (5, .rs 2 (A i).length 1 (A i).length)]) (fun i => ⟨[], [(0, .var 25 (eGView a)), (1, .var 25 (eGView b)), (2, .vec 9 1 ((A i).map eS))]⟩) (fun i => (a.out_.drop k).length - i) 0 (by omega) (fle_at (by rw [hA0]) (by rw [hA0]; exact lle)) ?_
  rintro i hi Kt hKt
  have hl := hAl i
  by_cases hlt : i < (a.out_.drop k).length
  · have hs := hAs i hlt
    have hz := ha.out _ (nth_mem (l := a.out_) (k := k + i) (by omega))
    rw [nth_drop] at hs
    have hki : k + i < a.out_.length := by omega
    have hk1' : ((k + (i + 1) : Nat) : Int) = ((k + i : Nat) : Int) + 1 := by omega
    generalize k + i = q at *
    generalize hx : nth a.out_ q = x at *
    unfold outA at hs
    rw [← bar_app] at hs
    (refine S ?_; try exact True.intro)
    (have W := hx; repeat' (first
    | refine awp_seq_k fun K hK => ?_
    | refine wkA ?_
    | (with_reducible refine gR 8 ?_); refine dE 8 [0, 1, 2, 3, 4, 5, 6, 7, 8, 9, 10, 11, 12, 13, 14, 15, 16, 17, 18, 19, 20, 21, 22, 23, 24] mixed ?_
    | (with_reducible refine gR 19 ?_); refine dC 19 ([], [100, 105], []) [] [0, 1, 2, 3, 4, 5, 6, 7, 8, 9, 10, 11, 12] mixed ?_
    | (with_reducible refine gR 21 ?_); refine dC 21 ([], [123, 126], []) [] [0, 1, 2, 3, 4, 5, 6, 7, 8, 9] mixed ?_
    | (refine hK _ _ ?_; clear hK K)
    | (refine wcond (fun hc => ?_) (fun hc => ?_) <;> first | contradiction | (exfalso; omega) | skip)
    | (refine hKo _ _ ?_)
    | refine wkB ?_
    | exact True.intro
    | (clear hK K))); all_goals (try clear W)
    refine hKt _ _ (next_mk (i + 1) (by omega) (by show (a.out_.drop k).length - (i + 1) < (a.out_.drop k).length - i; omega) (by rw [hs, List.map_append]; rfl) (by rw [hs, hk1']; exact lle))
  have hie : i = (a.out_.drop k).length := by omega
  subst hie
  rw [show k + (a.out_.drop k).length = a.out_.length by omega]
  clear hAs hA0 hlt
  generalize hM1 : A (a.out_.drop k).length = M1 at *
  (refine S ?_; try exact True.intro)
  (repeat' (first
    | refine awp_seq_k fun K hK => ?_
    | refine wkA ?_
    | (with_reducible refine gR 8 ?_); refine dE 8 [0, 1, 2, 3, 4, 5, 6, 7, 8, 9, 10, 11, 12, 13, 14, 15, 16, 17, 18, 19, 20, 21, 22, 23, 24] mixed ?_
    | (with_reducible refine gR 19 ?_); refine dC 19 ([], [100, 105], []) [] [0, 1, 2, 3, 4, 5, 6, 7, 8, 9, 10, 11, 12] mixed ?_
    | (with_reducible refine gR 21 ?_); refine dC 21 ([], [123, 126], []) [] [0, 1, 2, 3, 4, 5, 6, 7, 8, 9] mixed ?_
    | (refine hK _ _ ?_; clear hK K)
    | (refine wcond (fun hc => ?_) (fun hc => ?_) <;> first | contradiction | (exfalso; omega) | skip)
    | (refine hKo _ _ ?_)
    | refine wkB ?_
    | exact True.intro
    | (clear hK K)))
  have hKo := hK; clear hK
  obtain ⟨A2, hA0, hAs, hAe2, hAl2⟩ := rows_map M1 outB (b.out_.drop k)
  have hdl2 : (b.out_.drop k).length = b.out_.length - k := List.length_drop
  refine awp_loop_inv (S := Nat) [(5, 1), (10, 1), (76, 16)] (fun i => i ≤ (b.out_.drop k).length) (fun i => [(10, rI ((k + i : Nat) : Int)), (5, .rs 2 (A2 i).length 1 (A2 i).length)]) (fun i => ⟨[], [(0, .var 25 (eGView a)), (1, .var 25 (eGView b)), (2, .vec 9 1 ((A2 i).map eS))]⟩) (fun i => (b.out_.drop k).length - i) 0 (by omega) (fle_at (by rw [hA0]) (by rw [hA0]; exact lle)) ?_
  rintro i hi Ku hKu
  have hl2 := hAl2 i
  by_cases hlt : i < (b.out_.drop k).length
  · have hs := hAs i hlt
    have hz := hb.out _ (nth_mem (l := b.out_) (k := k + i) (by omega))
    rw [nth_drop] at hs
    have hki : k + i < b.out_.length := by omega
    have hk1' : ((k + (i + 1) : Nat) : Int) = ((k + i : Nat) : Int) + 1 := by omega
    generalize k + i = q at *
    generalize hx : nth b.out_ q = x at *
    unfold outB at hs
    (refine S ?_; try exact True.intro)
    (have W := hx; repeat' (first
    | refine awp_seq_k fun K hK => ?_
    | refine wkA ?_
    | (with_reducible refine gR 8 ?_); refine dE 8 [0, 1, 2, 3, 4, 5, 6, 7, 8, 9, 10, 11, 12, 13, 14, 15, 16, 17, 18, 19, 20, 21, 22, 23, 24] mixed ?_
    | (with_reducible refine gR 19 ?_); refine dC 19 ([], [100, 105], []) [] [0, 1, 2, 3, 4, 5, 6, 7, 8, 9, 10, 11, 12] mixed ?_
    | (with_reducible refine gR 21 ?_); refine dC 21 ([], [123, 126], []) [] [0, 1, 2, 3, 4, 5, 6, 7, 8, 9] mixed ?_
    | (refine hK _ _ ?_; clear hK K)
    | (refine wcond (fun hc => ?_) (fun hc => ?_) <;> first | contradiction | (exfalso; omega) | skip)
    | (refine hKo _ _ ?_)
    | refine wkB ?_
    | exact True.intro
    | (clear hK K))); all_goals (try clear W)
    refine hKu _ _ (next_mk (i + 1) (by omega) (by show (b.out_.drop k).length - (i + 1) < (b.out_.drop k).length - i; omega) (by rw [hs, List.map_append]; rfl) (by rw [hs, hk1']; exact lle))
  have hie : i = (b.out_.drop k).length := by omega
  subst hie
  rw [show k + (b.out_.drop k).length = b.out_.length by omega]
  clear hAs hA0 hlt
  generalize hM2 : A2 (b.out_.drop k).length = M2 at *
  have hML : M2 = M ++ outL a.out_ b.out_ := by
    unfold outL
    rw [hAe2, hAe, hpre, List.append_assoc]
  have hD : diffL a b = M2 ++ putL (⟨#[105, 110, 32]⟩ : ByteArray) (itoaB a.in_) (itoaB b.in_) ++ (if a.status ≠ b.status ∨ a.trap ≠ b.trap then [standW a.status a.trap ++ (⟨#[32, 124, 32]⟩ : ByteArray) ++ standW b.status b.trap] else []) := by
    unfold diffL
    rw [hM, hML]
  unfold putL lineT at hD
  have hii : a.in_ = b.in_ ↔ itoaB a.in_ = itoaB b.in_ := ⟨fun e => by rw [e], itoa_inj⟩
  by_cases hin : a.in_ = b.in_ <;> by_cases hst : a.status ≠ b.status ∨ a.trap ≠ b.trap
  all_goals
    first | rw [if_pos (hii.1 hin)] at hD | rw [if_neg (fun e => hin (hii.2 e))] at hD
    first | rw [if_pos hst] at hD | rw [if_neg hst] at hD
    (refine S ?_; try exact True.intro)
    (have W := hin; repeat' (first
    | refine awp_seq_k fun K hK => ?_
    | refine wkA ?_
    | (with_reducible refine gR 8 ?_); refine dE 8 [0, 1, 2, 3, 4, 5, 6, 7, 8, 9, 10, 11, 12, 13, 14, 15, 16, 17, 18, 19, 20, 21, 22, 23, 24] mixed ?_
    | (with_reducible refine gR 19 ?_); refine dC 19 ([], [100, 105], []) [] [0, 1, 2, 3, 4, 5, 6, 7, 8, 9, 10, 11, 12] mixed ?_
    | (with_reducible refine gR 21 ?_); refine dC 21 ([], [123, 126], []) [] [0, 1, 2, 3, 4, 5, 6, 7, 8, 9] mixed ?_
    | (refine hK _ _ ?_; clear hK K)
    | (refine wcond (fun hc => ?_) (fun hc => ?_) <;> first | contradiction | (exfalso; omega) | skip)
    | refine cp (i1) ?_
    | refine cq (i1) ?_
    | refine cp (i2) ?_
    | refine cq (i2) ?_
    | refine cq (s1) ?_
    | refine cq (s2) ?_
    | (refine hKo _ _ ?_)
    | refine wkB ?_
    | exact True.intro
    | (clear hK K))); all_goals (try clear W)
    refine retv [.tmp 4] ?_
    rw [hD]
    refine VTo.row (e := 9) _ rfl ?_ ?_
    · (simp only [List.append_nil, List.map_append]; try rfl)
    · (simp only [List.append_nil, List.length_append]; try rfl)
end Go.Proofs.YtflopjbjlbkgnaaDoor
