/- The law DiffSwaps: what it says is so. No conditions. -/
import Derived.Test.YtflopjbjlbkgnaaDoorDf8
set_option linter.all false
namespace Go.Gd
open Go
@[go_sem] theorem eGView_c0 (l : List GSeen) (y : GView) : (AV.sl false 3 (l.map eGSeen) (eGSeen default) :: (eGView y).drop 1) = eGView { y with calls := l } := (rfl)
@[go_sem] theorem eGView_c1 (l : List GSeen) (y : GView) : (AV.sl false 3 (l.map eGSeen) (eGSeen default) :: ((eGView y).drop 1).take 4) = eGView { y with calls := l } := (rfl)
end Go.Gd
namespace Go.Proofs.YtflopjbjlbkgnaaDoor
open Go Go.Gd
set_option maxHeartbeats 4000000
set_option maxRecDepth 10000
theorem diffSwaps_c (a b : GView) (t : ByteArray) (ha : rng a.in_ ∧ rng a.trap ∧ ∀ c ∈ a.calls, rng c.line) (hb : rng b.in_ ∧ rng b.trap ∧ ∀ c ∈ b.calls, rng c.line) : PCall Tryd.prog 4 [.agg (eGView a), .agg (eGView b), rS t] (rB true) := by
  have va := views_c a
  have vb := views_c b
  have oa := views_ok a ha.1 ha.2.1 ha.2.2
  have ob := views_ok b hb.1 hb.2.1 hb.2.2
  have tc := text_c t
  have tz := cut_size t
  have hu : (viewsV a).out_.length ≤ 6 := by
    show ((a.out_.take 6).map cutT).length ≤ 6
    rw [List.length_map, List.length_take]; omega
  generalize viewsV a = x at *
  generalize viewsV b = y at *
  generalize cutT t = s at *
  have oy : DvOk { y with calls := x.calls } := ⟨oa.calls, oa.call, ob.outs, ob.out, ob.in_, ob.st0, ob.st3, ob.trap⟩
  have oz : DvOk { x with out_ := x.out_ ++ [s] } := ⟨oa.calls, oa.call, by show (x.out_ ++ [s]).length ≤ _; rw [List.length_append]; show _ + 1 ≤ 1000; omega, fun u hu => by
    rcases List.mem_append.1 (show u ∈ x.out_ ++ [s] from hu) with hu | hu
    · exact oa.out u hu
    · rw [List.mem_singleton] at hu; subst hu; omega, oa.in_, oa.st0, oa.st3, oa.trap⟩
  have h1 := Of_c x { y with calls := x.calls } oa oy
  have h2 := Of_c { y with calls := x.calls } x oy oa
  have h3 := Of_c x { x with out_ := x.out_ ++ [s] } oa oz
  have h4 := Of_c x x oa oa
  have l1 := of_len x { y with calls := x.calls } oa oy
  have l4 := of_len x x oa oa
  have e1 := swap_len x { y with calls := x.calls } rfl
  have e2 := more_own x { x with out_ := x.out_ ++ [s] } s rfl
  rw [e2] at h3
  generalize diffL x { y with calls := x.calls } = L1 at *
  generalize diffL { y with calls := x.calls } x = L2 at *
  generalize diffL x x = L4 at *
  clear e2
  have hlast : nth (L4 ++ [outB s]) L4.length = (⟨#[111, 117, 116, 32, 45, 32, 124, 32]⟩ : ByteArray) ++ s := by
    unfold nth
    rw [List.getD_eq_getElem?_getD, List.getElem?_append_right (Nat.le_refl _), Nat.sub_self]; rfl
  have hl3 : (L4 ++ [outB s]).length = L4.length + 1 := by simp
  generalize L4 ++ [outB s] = L3 at *
  have hl3' : (L3.length : Int) = (L4.length : Int) + 1 := by omega
  have hix : ((L4.length : Int) + 1 - 1) = (L4.length : Int) := by omega
  have hthaw : ∀ H : Hp, H.get 3 = some (.vec 9 1 (x.out_.map eS ++ [[rS s]])) → VToL (fun i => [3].contains i) H (List.take 1 (eGView x) ++ [.rs 3 (x.out_.length + 1) 1 (x.out_.length + 1)] ++ List.drop 2 (eGView x)) [slOf eGSeen 3 x.calls, slOf eS 1 (x.out_ ++ [s]), rI x.in_, rI x.status, rI x.trap] := fun H h =>
    (show VToL _ _ [slOf eGSeen 3 x.calls, .rs 3 (x.out_.length + 1) 1 (x.out_.length + 1), rI x.in_, rI x.status, rI x.trap] _ from ⟨.same _ rfl, VTo.row (x.out_ ++ [s]) rfl (by rw [h, List.map_append]; rfl) (by simp), .same _ rfl, .same _ rfl, .same _ rfl, trivial⟩)
  refine entP Tryd.func4 Tryd.ntmps4 ?_
  (have W := And.intro e1.symm (And.intro hl3' (And.intro hix (hlast))); repeat' (first
    | refine awp_thawC (id := 9) [3] 2 [slOf eGSeen 3 x.calls, slOf eS 1 (x.out_ ++ [s]), rI x.in_, rI x.status, rI x.trap] [(28, 8)] [] ?_ (hc := hthaw _ rfl)
    | refine awp_seq_k fun K hK => ?_
    | refine wkA ?_
    | (with_reducible refine gR 11 ?_); refine dC 11 ([], [67], []) [] [0, 1, 2, 3, 4, 5, 6, 7, 8, 9, 10, 11, 12, 13, 14, 15, 16, 17, 18, 19, 20, 21, 22, 23, 24, 25, 26, 27, 28] mixed ?_
    | (refine hK _ _ ?_; clear hK K)
    | (refine wcond (fun hc => ?_) (fun hc => ?_) <;> first | contradiction | (exfalso; omega) | skip)
    | refine bx 0 ?_
    | refine bx 1 ?_
    | refine al 2 ?_
    | refine litO 3 ?_
    | refine cp (shown_c) ?_
    | refine cp (va) ?_
    | refine cp (vb) ?_
    | refine cp (tc) ?_
    | refine cp (h1) ?_
    | refine cp (h2) ?_
    | refine cp (h3) ?_
    | refine cp (h4) ?_
    | refine cq (tc) ?_
    | refine wkB ?_
    | exact True.intro
    | (clear hK K))); all_goals (try clear W)
  (refine retd [.tmp 6] ?_; try simp only [go_sem])
end Go.Proofs.YtflopjbjlbkgnaaDoor
