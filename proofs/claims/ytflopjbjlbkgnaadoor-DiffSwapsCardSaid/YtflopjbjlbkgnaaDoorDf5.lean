/- What is unlike in two views: the program's small functions. No conditions. -/
import Derived.Test.YtflopjbjlbkgnaaDoorDf1
import Derived.Test.YtflopjbjlbkgnaaDoorDf4
set_option linter.all false
namespace Go.Proofs.YtflopjbjlbkgnaaDoor
open Go Go.Gd
set_option maxHeartbeats 4000000
set_option maxRecDepth 10000
def lnE (L : List ByteArray) : List (Nat × Row) := [(0, .var 41 [.rs 1 L.length 1 L.length]), (1, .vec 9 1 (L.map eS))]
attribute [go_sem] lnE
@[go_sem] theorem allL_rS (q : Nat → Bool) : ∀ (l : List ByteArray), allL q (l.map rS) = true
  | [] => rfl
  | x :: l => by
    have := allL_rS q l
    simp only [List.map_cons, allL, AV.all, this, Bool.and_self]
@[go_sem] theorem allL_rS1 (q : Nat → Bool) (l : List ByteArray) (x : ByteArray) : allL q (l.map rS ++ [rS x]) = true := by
  rw [show l.map rS ++ [rS x] = (l ++ [x]).map rS by simp]
  exact allL_rS q _
theorem put_c (L : List ByteArray) (h x y : ByteArray) (hL : L.length ≤ 100000000) (hh : h.size ≤ 100000) (hx : x.size ≤ 100000) (hy : y.size ≤ 100000) : ACalls Tryd.prog 14 [.pt 0 0 0 0, rS h, rS x, rS y] (lnE L) (fun r l' => r = .tup [] ∧ l' = lnE (L ++ putL h x y)) := by
  unfold putL lineT
  by_cases e : x = y
  · rw [if_pos e, List.append_nil]
    refine entM Tryd.func14 Tryd.ntmps14 ?_
    (refine S ?_; try exact True.intro)
    (have W := e; repeat' (first
    | refine awp_seq_k fun K hK => ?_
    | refine wkA ?_
    | (refine hK _ _ ?_; clear hK K)
    | (refine wcond (fun hc => ?_) (fun hc => ?_) <;> first | contradiction | (exfalso; omega) | skip)
    | refine wkB ?_
    | exact True.intro
    | (clear hK K))); all_goals (try clear W)
    (refine retf [] ?_ ?_ <;> (try simp only [go_sem]))
  · rw [if_neg e]
    have e' := eq_false e
    refine entM Tryd.func14 Tryd.ntmps14 ?_
    (refine S ?_; try exact True.intro)
    (have W := e'; repeat' (first
    | refine awp_seq_k fun K hK => ?_
    | refine wkA ?_
    | (refine hK _ _ ?_; clear hK K)
    | (refine wcond (fun hc => ?_) (fun hc => ?_) <;> first | contradiction | (exfalso; omega) | skip)
    | refine wkB ?_
    | exact True.intro
    | (clear hK K))); all_goals (try clear W)
    (refine retf [] ?_ ?_ <;> (try simp only [go_sem]))
    rfl
theorem at_c (v : GView) (n : Nat) (h : DvOk v) (hn : n ≤ 1000) : PCall Tryd.prog 19 [.agg (eGView v), rI n] (.tup [.agg (eGSeen (callS v n)), rS (headT v n)]) := by
  have hcl := h.calls
  unfold headT callS
  by_cases hlt : n < v.calls.length
  · have hc := h.call _ (nth_mem hlt)
    have hcn := hc.name
    have hit := itoa_c _ hc.line
    have his := itoa_size hc.line
    rw [if_pos hlt, if_pos hlt]
    generalize hx : nth v.calls n = c at *
    refine entP Tryd.func19 Tryd.ntmps19 ?_
    (have W := hx; repeat' (first
    | refine awp_seq_k fun K hK => ?_
    | refine wkA ?_
    | (with_reducible refine gR 4 ?_); refine dC 4 ([1], [24], []) [] [0, 1, 2, 3, 4, 5, 6, 7, 8, 9] mixed ?_
    | (refine hK _ _ ?_; clear hK K)
    | (refine wcond (fun hc => ?_) (fun hc => ?_) <;> first | contradiction | (exfalso; omega) | skip)
    | refine bx 0 ?_
    | refine al 1 ?_
    | refine al 2 ?_
    | refine cp (hit) ?_
    | refine cq (hit) ?_
    | refine wkB ?_
    | exact True.intro
    | (clear hK K))); all_goals (try clear W)
    (refine retd [.cell 4 36, .tmp 5] ?_; try simp only [go_sem])
  · rw [if_neg hlt, if_neg hlt]
    refine entP Tryd.func19 Tryd.ntmps19 ?_
    (repeat' (first
    | refine awp_seq_k fun K hK => ?_
    | refine wkA ?_
    | (with_reducible refine gR 4 ?_); refine dQ 4 mixed ?_
    | (refine hK _ _ ?_; clear hK K)
    | (refine wcond (fun hc => ?_) (fun hc => ?_) <;> first | contradiction | (exfalso; omega) | skip)
    | refine bx 0 ?_
    | refine al 1 ?_
    | refine wkB ?_
    | exact True.intro
    | (clear hK K)))
    refine retv [.cell 4 36, .tmp 5] ?_
    exact VToL.tup (ds := [.agg (eGSeen ⟨⟨#[]⟩, 0, []⟩), rS (⟨#[45]⟩ : ByteArray)]) ⟨VToL.agg (ds := eGSeen ⟨⟨#[]⟩, 0, []⟩) ⟨.same _ rfl, .same _ rfl, .nil _ _, trivial⟩, .same _ rfl, trivial⟩
theorem texts_c7 (l : List GShown) (hl : l.length ≤ 1000000) : ACalls Tryd.prog 20 [slOf eGShown 2 l] [] (fun r l' => r = .mr 7 ∧ l' = [(7, .mp ((namT l).1.map Value.string) ((namT l).2.map rS))]) := by
  refine entM Tryd.func20 Tryd.ntmps20 ?_
  (refine S ?_; try exact True.intro)
  (repeat' (first
    | refine awp_seq_k fun K hK => ?_
    | refine wkA ?_
    | (refine hK _ _ ?_; clear hK K)
    | (refine wcond (fun hc => ?_) (fun hc => ?_) <;> first | contradiction | (exfalso; omega) | skip)
    | refine mkM 7 ?_
    | refine wkB ?_
    | exact True.intro
    | (clear hK K)))
  have hKo := hK; clear hK
  refine awp_loop_inv (S := Nat) [(5, 3), (11, 19)] (fun k => k ≤ l.length) (fun k => [(11, rI k)]) (fun k => ⟨[], [(7, .mp ((namT (l.take k)).1.map Value.string) ((namT (l.take k)).2.map rS))]⟩) (fun k => l.length - k) 0 (by omega) (fle_at rfl lle) ?_
  rintro k hk Kr hKr
  by_cases hlt : k < l.length
  · have hs := namT_snoc (l.take k) (nth l k)
    rw [← take_nth hlt] at hs
    obtain ⟨h1, h2⟩ := namT_ok (l.take k)
    have h3 := h2 (nth l k).name
    have hlen : (namT (l.take k)).1.length = ((namT (l.take k)).2.map rS).length := by rw [List.length_map]; exact h1
    generalize hx : nth l k = x at *
    unfold putT at hs
    generalize namT (l.take k) = A at *
    cases hm : mget x.name A.1 (A.2.map rS) with
    | some v =>
      rw [hm] at hs
      rw [if_pos (show (some v).isSome = true from rfl)] at hs
      (refine S ?_; try exact True.intro)
      (have W := hx; repeat' (first
    | refine awp_seq_k fun K hK => ?_
    | refine wkA ?_
    | (refine hK _ _ ?_; clear hK K)
    | (refine wcond (fun hc => ?_) (fun hc => ?_) <;> first | contradiction | (exfalso; omega) | skip)
    | refine alF 5 ?_
    | refine getS A.1 (.string ⟨#[]⟩) (.tup [v, rB true]) mp_50 (by kernel_rfl) (by unfold mlook; rw [if_pos rfl, hm]) ?_
    | (refine hKo _ _ ?_)
    | refine wkB ?_
    | exact True.intro
    | (clear hK K))); all_goals (try clear W)
      refine hKr _ _ (next_drop [5] (k + 1) (by omega) (by show l.length - (k + 1) < l.length - k; omega) rfl Sd (by rw [hs]; rfl) vtl)
    | none =>
      rw [hm] at hs
      rw [if_neg (by simp)] at hs
      obtain ⟨e1, e2⟩ := mnew (n := x.name) (x := rS x.text) hlen hm
      (refine S ?_; try exact True.intro)
      (have W := And.intro hx (And.intro e1 (e2)); repeat' (first
    | refine awp_seq_k fun K hK => ?_
    | refine wkA ?_
    | (refine hK _ _ ?_; clear hK K)
    | (refine wcond (fun hc => ?_) (fun hc => ?_) <;> first | contradiction | (exfalso; omega) | skip)
    | refine alF 5 ?_
    | refine getS A.1 (.string ⟨#[]⟩) (.tup [rS ⟨#[]⟩, rB false]) mp_50 (by kernel_rfl) (by unfold mlook; rw [if_pos rfl, hm]) ?_
    | refine putS A.1 mp_50 ?_
    | (refine hKo _ _ ?_)
    | refine wkB ?_
    | exact True.intro
    | (clear hK K))); all_goals (try clear W)
      refine hKr _ _ (next_drop [5] (k + 1) (by omega) (by show l.length - (k + 1) < l.length - k; omega) rfl Sd (by rw [hs]; simp only [List.map_append]; rfl) vtl)
  · have hke : k = l.length := by omega
    subst hke
    rw [List.take_length]
    (refine S ?_; try exact True.intro)
    (repeat' (first
    | refine awp_seq_k fun K hK => ?_
    | refine wkA ?_
    | (refine hK _ _ ?_; clear hK K)
    | (refine wcond (fun hc => ?_) (fun hc => ?_) <;> first | contradiction | (exfalso; omega) | skip)
    | (refine hKo _ _ ?_)
    | refine wkB ?_
    | exact True.intro
    | (clear hK K)))
    (refine retf [.tmp 2] ?_ ?_ <;> (try simp only [go_sem]))
theorem of_c7 (l : List GShown) (n : ByteArray) : ACalls Tryd.prog 21 [.mr 7, rS n] [(7, .mp ((namT l).1.map Value.string) ((namT l).2.map rS))] (fun r l' => r = rS (findT l n) ∧ l' = [(7, .mp ((namT l).1.map Value.string) ((namT l).2.map rS))]) := by
  obtain ⟨h1, h2⟩ := namT_ok l
  have h3 := h2 n
  rw [findT_o]
  generalize namT l = A at *
  cases hf : findO l n with
  | some t =>
    rw [hf] at h3
    refine entM Tryd.func21 Tryd.ntmps21 ?_
    (refine S ?_; try exact True.intro)
    (repeat' (first
    | refine awp_seq_k fun K hK => ?_
    | refine wkA ?_
    | (refine hK _ _ ?_; clear hK K)
    | (refine wcond (fun hc => ?_) (fun hc => ?_) <;> first | contradiction | (exfalso; omega) | skip)
    | refine getS A.1 (.string ⟨#[]⟩) (.tup [rS t, rB true]) mp_50 (by kernel_rfl) (by unfold mlook; rw [if_pos rfl, h3]; rfl) ?_
    | refine wkB ?_
    | exact True.intro
    | (clear hK K)))
    (refine retf [.tmp 4] ?_ ?_ <;> (try simp only [go_sem]))
  | none =>
    rw [hf] at h3
    refine entM Tryd.func21 Tryd.ntmps21 ?_
    (refine S ?_; try exact True.intro)
    (repeat' (first
    | refine awp_seq_k fun K hK => ?_
    | refine wkA ?_
    | (refine hK _ _ ?_; clear hK K)
    | (refine wcond (fun hc => ?_) (fun hc => ?_) <;> first | contradiction | (exfalso; omega) | skip)
    | refine getS A.1 (.string ⟨#[]⟩) (.tup [rS ⟨#[]⟩, rB false]) mp_50 (by kernel_rfl) (by unfold mlook; rw [if_pos rfl, h3]; rfl) ?_
    | refine wkB ?_
    | exact True.intro
    | (clear hK K)))
    (refine retf [.tmp 4] ?_ ?_ <;> (try simp only [go_sem]))
theorem texts_c8 (l : List GShown) (hl : l.length ≤ 1000000) : ACalls Tryd.prog 20 [slOf eGShown 2 l] [] (fun r l' => r = .mr 8 ∧ l' = [(8, .mp ((namT l).1.map Value.string) ((namT l).2.map rS))]) := by
  refine entM Tryd.func20 Tryd.ntmps20 ?_
  (refine S ?_; try exact True.intro)
  (repeat' (first
    | refine awp_seq_k fun K hK => ?_
    | refine wkA ?_
    | (refine hK _ _ ?_; clear hK K)
    | (refine wcond (fun hc => ?_) (fun hc => ?_) <;> first | contradiction | (exfalso; omega) | skip)
    | refine mkM 8 ?_
    | refine wkB ?_
    | exact True.intro
    | (clear hK K)))
  have hKo := hK; clear hK
  refine awp_loop_inv (S := Nat) [(5, 3), (11, 19)] (fun k => k ≤ l.length) (fun k => [(11, rI k)]) (fun k => ⟨[], [(8, .mp ((namT (l.take k)).1.map Value.string) ((namT (l.take k)).2.map rS))]⟩) (fun k => l.length - k) 0 (by omega) (fle_at rfl lle) ?_
  rintro k hk Kr hKr
  by_cases hlt : k < l.length
  · have hs := namT_snoc (l.take k) (nth l k)
    rw [← take_nth hlt] at hs
    obtain ⟨h1, h2⟩ := namT_ok (l.take k)
    have h3 := h2 (nth l k).name
    have hlen : (namT (l.take k)).1.length = ((namT (l.take k)).2.map rS).length := by rw [List.length_map]; exact h1
    generalize hx : nth l k = x at *
    unfold putT at hs
    generalize namT (l.take k) = A at *
    cases hm : mget x.name A.1 (A.2.map rS) with
    | some v =>
      rw [hm] at hs
      rw [if_pos (show (some v).isSome = true from rfl)] at hs
      (refine S ?_; try exact True.intro)
      (have W := hx; repeat' (first
    | refine awp_seq_k fun K hK => ?_
    | refine wkA ?_
    | (refine hK _ _ ?_; clear hK K)
    | (refine wcond (fun hc => ?_) (fun hc => ?_) <;> first | contradiction | (exfalso; omega) | skip)
    | refine alF 5 ?_
    | refine getS A.1 (.string ⟨#[]⟩) (.tup [v, rB true]) mp_50 (by kernel_rfl) (by unfold mlook; rw [if_pos rfl, hm]) ?_
    | (refine hKo _ _ ?_)
    | refine wkB ?_
    | exact True.intro
    | (clear hK K))); all_goals (try clear W)
      refine hKr _ _ (next_drop [5] (k + 1) (by omega) (by show l.length - (k + 1) < l.length - k; omega) rfl Sd (by rw [hs]; rfl) vtl)
    | none =>
      rw [hm] at hs
      rw [if_neg (by simp)] at hs
      obtain ⟨e1, e2⟩ := mnew (n := x.name) (x := rS x.text) hlen hm
      (refine S ?_; try exact True.intro)
      (have W := And.intro hx (And.intro e1 (e2)); repeat' (first
    | refine awp_seq_k fun K hK => ?_
    | refine wkA ?_
    | (refine hK _ _ ?_; clear hK K)
    | (refine wcond (fun hc => ?_) (fun hc => ?_) <;> first | contradiction | (exfalso; omega) | skip)
    | refine alF 5 ?_
    | refine getS A.1 (.string ⟨#[]⟩) (.tup [rS ⟨#[]⟩, rB false]) mp_50 (by kernel_rfl) (by unfold mlook; rw [if_pos rfl, hm]) ?_
    | refine putS A.1 mp_50 ?_
    | (refine hKo _ _ ?_)
    | refine wkB ?_
    | exact True.intro
    | (clear hK K))); all_goals (try clear W)
      refine hKr _ _ (next_drop [5] (k + 1) (by omega) (by show l.length - (k + 1) < l.length - k; omega) rfl Sd (by rw [hs]; simp only [List.map_append]; rfl) vtl)
  · have hke : k = l.length := by omega
    subst hke
    rw [List.take_length]
    (refine S ?_; try exact True.intro)
    (repeat' (first
    | refine awp_seq_k fun K hK => ?_
    | refine wkA ?_
    | (refine hK _ _ ?_; clear hK K)
    | (refine wcond (fun hc => ?_) (fun hc => ?_) <;> first | contradiction | (exfalso; omega) | skip)
    | (refine hKo _ _ ?_)
    | refine wkB ?_
    | exact True.intro
    | (clear hK K)))
    (refine retf [.tmp 2] ?_ ?_ <;> (try simp only [go_sem]))
theorem of_c8 (l : List GShown) (n : ByteArray) : ACalls Tryd.prog 21 [.mr 8, rS n] [(8, .mp ((namT l).1.map Value.string) ((namT l).2.map rS))] (fun r l' => r = rS (findT l n) ∧ l' = [(8, .mp ((namT l).1.map Value.string) ((namT l).2.map rS))]) := by
  obtain ⟨h1, h2⟩ := namT_ok l
  have h3 := h2 n
  rw [findT_o]
  generalize namT l = A at *
  cases hf : findO l n with
  | some t =>
    rw [hf] at h3
    refine entM Tryd.func21 Tryd.ntmps21 ?_
    (refine S ?_; try exact True.intro)
    (repeat' (first
    | refine awp_seq_k fun K hK => ?_
    | refine wkA ?_
    | (refine hK _ _ ?_; clear hK K)
    | (refine wcond (fun hc => ?_) (fun hc => ?_) <;> first | contradiction | (exfalso; omega) | skip)
    | refine getS A.1 (.string ⟨#[]⟩) (.tup [rS t, rB true]) mp_50 (by kernel_rfl) (by unfold mlook; rw [if_pos rfl, h3]; rfl) ?_
    | refine wkB ?_
    | exact True.intro
    | (clear hK K)))
    (refine retf [.tmp 4] ?_ ?_ <;> (try simp only [go_sem]))
  | none =>
    rw [hf] at h3
    refine entM Tryd.func21 Tryd.ntmps21 ?_
    (refine S ?_; try exact True.intro)
    (repeat' (first
    | refine awp_seq_k fun K hK => ?_
    | refine wkA ?_
    | (refine hK _ _ ?_; clear hK K)
    | (refine wcond (fun hc => ?_) (fun hc => ?_) <;> first | contradiction | (exfalso; omega) | skip)
    | refine getS A.1 (.string ⟨#[]⟩) (.tup [rS ⟨#[]⟩, rB false]) mp_50 (by kernel_rfl) (by unfold mlook; rw [if_pos rfl, h3]; rfl) ?_
    | refine wkB ?_
    | exact True.intro
    | (clear hK K)))
    (refine retf [.tmp 4] ?_ ?_ <;> (try simp only [go_sem]))
theorem stands_c (v : GView) (h0 : 0 ≤ v.status) (h3 : v.status ≤ 3) (h : rng v.trap) : PCall Tryd.prog 16 [.agg (eGView v)] (rS (standW v.status v.trap)) := by
  have htr := itoa_c v.trap h
  have hts := itoa_size h
  have h4 : v.status = 0 ∨ v.status = 1 ∨ v.status = 2 ∨ v.status = 3 := by omega
  rcases h4 with hs | hs | hs | hs
  · have hw : standW v.status v.trap = (⟨#[114, 117, 110, 115]⟩ : ByteArray) := by unfold standW; rw [hs]; rfl
    rw [hw]
    refine entP Tryd.func16 Tryd.ntmps16 ?_
    (have W := hs; repeat' (first
    | refine awp_seq_k fun K hK => ?_
    | refine wkA ?_
    | (refine hK _ _ ?_; clear hK K)
    | (refine wcond (fun hc => ?_) (fun hc => ?_) <;> first | contradiction | (exfalso; omega) | skip)
    | refine bx 0 ?_
    | refine mkM 1 ?_
    | refine putI [] mp_54 ?_
    | refine putI [0] mp_54 ?_
    | refine putI [0, 1] mp_54 ?_
    | refine putI [0, 1, 2] mp_54 ?_
    | (refine getI (c := false) (n := 0) (vs := [rS (⟨#[114, 117, 110, 115]⟩ : ByteArray), rS (⟨#[119, 97, 105, 116, 115]⟩ : ByteArray), rS (⟨#[101, 110, 100, 115]⟩ : ByteArray), rS ((⟨#[102, 97, 108, 108, 115, 32]⟩ : ByteArray) ++ itoaB v.trap)]) [0, 1, 2, 3] (.string ⟨#[]⟩) (rS ((⟨#[114, 117, 110, 115]⟩ : ByteArray))) mp_54 (by kernel_rfl) rfl ?_)
    | refine cp (htr) ?_
    | refine wkB ?_
    | exact True.intro
    | (clear hK K))); all_goals (try clear W)
    (refine retd [.tmp 2] ?_; try simp only [go_sem])
  · have hw : standW v.status v.trap = (⟨#[119, 97, 105, 116, 115]⟩ : ByteArray) := by unfold standW; rw [hs]; rfl
    rw [hw]
    refine entP Tryd.func16 Tryd.ntmps16 ?_
    (have W := hs; repeat' (first
    | refine awp_seq_k fun K hK => ?_
    | refine wkA ?_
    | (refine hK _ _ ?_; clear hK K)
    | (refine wcond (fun hc => ?_) (fun hc => ?_) <;> first | contradiction | (exfalso; omega) | skip)
    | refine bx 0 ?_
    | refine mkM 1 ?_
    | refine putI [] mp_54 ?_
    | refine putI [0] mp_54 ?_
    | refine putI [0, 1] mp_54 ?_
    | refine putI [0, 1, 2] mp_54 ?_
    | (refine getI (c := false) (n := 1) (vs := [rS (⟨#[114, 117, 110, 115]⟩ : ByteArray), rS (⟨#[119, 97, 105, 116, 115]⟩ : ByteArray), rS (⟨#[101, 110, 100, 115]⟩ : ByteArray), rS ((⟨#[102, 97, 108, 108, 115, 32]⟩ : ByteArray) ++ itoaB v.trap)]) [0, 1, 2, 3] (.string ⟨#[]⟩) (rS ((⟨#[119, 97, 105, 116, 115]⟩ : ByteArray))) mp_54 (by kernel_rfl) rfl ?_)
    | refine cp (htr) ?_
    | refine wkB ?_
    | exact True.intro
    | (clear hK K))); all_goals (try clear W)
    (refine retd [.tmp 2] ?_; try simp only [go_sem])
  · have hw : standW v.status v.trap = (⟨#[101, 110, 100, 115]⟩ : ByteArray) := by unfold standW; rw [hs]; rfl
    rw [hw]
    refine entP Tryd.func16 Tryd.ntmps16 ?_
    (have W := hs; repeat' (first
    | refine awp_seq_k fun K hK => ?_
    | refine wkA ?_
    | (refine hK _ _ ?_; clear hK K)
    | (refine wcond (fun hc => ?_) (fun hc => ?_) <;> first | contradiction | (exfalso; omega) | skip)
    | refine bx 0 ?_
    | refine mkM 1 ?_
    | refine putI [] mp_54 ?_
    | refine putI [0] mp_54 ?_
    | refine putI [0, 1] mp_54 ?_
    | refine putI [0, 1, 2] mp_54 ?_
    | (refine getI (c := false) (n := 2) (vs := [rS (⟨#[114, 117, 110, 115]⟩ : ByteArray), rS (⟨#[119, 97, 105, 116, 115]⟩ : ByteArray), rS (⟨#[101, 110, 100, 115]⟩ : ByteArray), rS ((⟨#[102, 97, 108, 108, 115, 32]⟩ : ByteArray) ++ itoaB v.trap)]) [0, 1, 2, 3] (.string ⟨#[]⟩) (rS ((⟨#[101, 110, 100, 115]⟩ : ByteArray))) mp_54 (by kernel_rfl) rfl ?_)
    | refine cp (htr) ?_
    | refine wkB ?_
    | exact True.intro
    | (clear hK K))); all_goals (try clear W)
    (refine retd [.tmp 2] ?_; try simp only [go_sem])
  · have hw : standW v.status v.trap = (⟨#[102, 97, 108, 108, 115, 32]⟩ : ByteArray) ++ itoaB v.trap := by unfold standW; rw [hs]; rfl
    rw [hw]
    refine entP Tryd.func16 Tryd.ntmps16 ?_
    (have W := hs; repeat' (first
    | refine awp_seq_k fun K hK => ?_
    | refine wkA ?_
    | (refine hK _ _ ?_; clear hK K)
    | (refine wcond (fun hc => ?_) (fun hc => ?_) <;> first | contradiction | (exfalso; omega) | skip)
    | refine bx 0 ?_
    | refine mkM 1 ?_
    | refine putI [] mp_54 ?_
    | refine putI [0] mp_54 ?_
    | refine putI [0, 1] mp_54 ?_
    | refine putI [0, 1, 2] mp_54 ?_
    | (refine getI (c := false) (n := 3) (vs := [rS (⟨#[114, 117, 110, 115]⟩ : ByteArray), rS (⟨#[119, 97, 105, 116, 115]⟩ : ByteArray), rS (⟨#[101, 110, 100, 115]⟩ : ByteArray), rS ((⟨#[102, 97, 108, 108, 115, 32]⟩ : ByteArray) ++ itoaB v.trap)]) [0, 1, 2, 3] (.string ⟨#[]⟩) (rS ((⟨#[102, 97, 108, 108, 115, 32]⟩ : ByteArray) ++ itoaB v.trap)) mp_54 (by kernel_rfl) rfl ?_)
    | refine cp (htr) ?_
    | refine wkB ?_
    | exact True.intro
    | (clear hK K))); all_goals (try clear W)
    (refine retd [.tmp 2] ?_; try simp only [go_sem])
end Go.Proofs.YtflopjbjlbkgnaaDoor
