/- The arguments of the laws of diff, as they are read; what is laid. No conditions. -/
import Derived.Test.YtflopjbjlbkgnaaDoorDf8
import Derived.Test.YtflopjbjlbkgnaaDoorGdQ
import Derived.Test.YtflopjbjlbkgnaaDoorRows
import Derived.LaidSub
import Derived.Lib.LaidTab
set_option linter.all false
namespace Go.Proofs.YtflopjbjlbkgnaaDoor
open Go Go.Gd Go.ChangeShapes Go.WideShapes Go.ChangeAt Go.RowKit
theorem own_Tryd : ownKnob Tryd.prog.godebug = none := by kernel_rfl
theorem laid_Tryd : laidOutB Tryd.prog = true := by kernel_rfl
theorem wf64 {n : Int} (h : (Lit.int .i64 n).wf = true) : -9223372036854775808 ≤ n ∧ n ≤ 9223372036854775807 := by
  have h1 : IntKind.i64.min = -9223372036854775808 := by decide
  have h2 : IntKind.i64.max = 9223372036854775807 := by decide
  simp [Lit.wf, h1, h2] at h
  omega
theorem wf8 {n : Int} (h : (Lit.int .u8 n).wf = true) : 0 ≤ n ∧ n < 256 := by
  have h1 : IntKind.u8.min = 0 := by decide
  have h2 : IntKind.u8.max = 255 := by decide
  simp [Lit.wf, h1, h2] at h
  omega
theorem dec_Strs : Dec Tryd.prog 23 (fun us => ∃ l : List ByteArray, us = [slOf eS 1 l]) :=
  (dec_slice (ok := fun _ => True) (encA := eS) (sz := 1) Tryd.underlying23 (by kernel_rfl) (by decide) ((dec_string (by kernel_rfl)).mono (by rintro us ⟨s, rfl⟩; exact ⟨s, trivial, rfl⟩)) (fun a => rfl)).mono (by
    rintro us ⟨l, _, rfl⟩
    exact ⟨l, rfl⟩)
theorem dec_Shown : Dec Tryd.prog 38 (fun us => ∃ a : GShown, True ∧ us = eGShown a) :=
  (dec_struct (Ss := [fun us => ∃ s : ByteArray, us = [.raw (.string s)], fun us => ∃ s : ByteArray, us = [.raw (.string s)]]) Tryd.underlying38 (by kernel_rfl) ⟨dec_string (by kernel_rfl), dec_string (by kernel_rfl), trivial⟩).mono (by
    rintro us ⟨_, _, ⟨a, rfl⟩, ⟨_, _, ⟨b, rfl⟩, rfl, rfl⟩, rfl⟩
    exact ⟨⟨a, b⟩, trivial, rfl⟩)
theorem dec_Showns : Dec Tryd.prog 34 (fun us => ∃ l : List GShown, us = [slOf eGShown 2 l]) :=
  (dec_slice (ok := fun _ => True) (encA := eGShown) (sz := 2) Tryd.underlying34 (by kernel_rfl) (by decide) dec_Shown (fun a => rfl)).mono (by
    rintro us ⟨l, _, rfl⟩
    exact ⟨l, rfl⟩)
theorem dec_Seen : Dec Tryd.prog 36 (fun us => ∃ a : GSeen, rng a.line ∧ us = eGSeen a) :=
  (dec_struct (Ss := [fun us => ∃ s : ByteArray, us = [.raw (.string s)], fun us => ∃ n : Int, (Lit.int .i64 n).wf = true ∧ us = [.raw (.int .i64 n)], fun us => ∃ l : List GShown, us = [slOf eGShown 2 l]]) Tryd.underlying36 (by kernel_rfl) ⟨dec_string (by kernel_rfl), dec_int (by kernel_rfl), dec_Showns, trivial⟩).mono (by
    rintro us ⟨_, _, ⟨a, rfl⟩, ⟨_, _, ⟨b, hb, rfl⟩, ⟨_, _, ⟨c, rfl⟩, rfl, rfl⟩, rfl⟩, rfl⟩
    exact ⟨⟨a, b, c⟩, wf64 hb, rfl⟩)
theorem dec_Seens : Dec Tryd.prog 22 (fun us => ∃ l : List GSeen, (∀ x ∈ l, rng x.line) ∧ us = [slOf eGSeen 3 l]) :=
  (dec_slice (ok := fun x : GSeen => rng x.line) (encA := eGSeen) (sz := 3) Tryd.underlying22 (by kernel_rfl) (by decide) dec_Seen (fun a => rfl)).mono (by
    rintro us ⟨l, ⟨hl, _⟩, rfl⟩
    exact ⟨l, hl, rfl⟩)
theorem dec_View : Dec Tryd.prog 25 (fun us => ∃ v : GView, (rng v.in_ ∧ rng v.trap ∧ ∀ c ∈ v.calls, rng c.line) ∧ us = eGView v) :=
  (dec_struct (Ss := [fun us => ∃ l : List GSeen, (∀ x ∈ l, rng x.line) ∧ us = [slOf eGSeen 3 l], fun us => ∃ l : List ByteArray, us = [slOf eS 1 l], fun us => ∃ n : Int, (Lit.int .i64 n).wf = true ∧ us = [.raw (.int .i64 n)], fun us => ∃ n : Int, (Lit.int .i64 n).wf = true ∧ us = [.raw (.int .i64 n)], fun us => ∃ n : Int, (Lit.int .i64 n).wf = true ∧ us = [.raw (.int .i64 n)]]) Tryd.underlying25 (by kernel_rfl) ⟨dec_Seens, dec_Strs, dec_int (by kernel_rfl), dec_int (by kernel_rfl), dec_int (by kernel_rfl), trivial⟩).mono (by
    rintro us ⟨_, _, ⟨a, ha, rfl⟩, ⟨_, _, ⟨b, rfl⟩, ⟨_, _, ⟨c, hc, rfl⟩, ⟨_, _, ⟨d, hd, rfl⟩, ⟨_, _, ⟨f, hf, rfl⟩, rfl, rfl⟩, rfl⟩, rfl⟩, rfl⟩, rfl⟩
    exact ⟨⟨a, b, c, d, f⟩, ⟨wf64 hc, wf64 hf, ha⟩, rfl⟩)
set_option maxRecDepth 100000 in
theorem arg_View {T : Type} {enc : TypeId × Value → T} {w : World} {v : Value} {d : DataW T} {ps : List MemPlace} {base : Nat} (hv : Value.okWide Tryd.prog w .any base 25 v) (h : DataW.Trod enc Tryd.prog w 0 (fun _ => true) true 25 v d ps) : ∃ m : GView, (rng m.in_ ∧ rng m.trap ∧ ∀ c ∈ m.calls, rng c.line) ∧ RelV (n0 w) (.agg (eGView m)) v := by
  obtain ⟨us, ⟨m, hm, rfl⟩, hr⟩ := arg_agg Tryd.underlying25 dec_View hv h
  exact ⟨m, hm, hr⟩
/-- Which of what is laid is the table of powers. -/
def isTab (x : String × DataW Unit) : Bool := match x.2 with
  | .agg (.lit (.int .u64 _) :: _) => true
  | _ => false
theorem glob_laid {l : List (String × DataW Unit)} {W : World} (hl : l = Rows.diffViewsRow.laid) (h : laidMetH Tryd.prog l W) : Glob (n0 W) := by
  subst hl
  have h1 := (laidMetH_iff.1 h).1.filter isTab
  have e : ((Rows.diffViewsRow.laid.filter fun x => x.2.handleName?.isNone).filter isTab) = [("internal/strconv.uint64pow10", Lib.tabData .u64 Lib.pow10Tab)] := by kernel_rfl
  rw [e] at h1
  have ht := Lib.tabIs_of_head (g := 0) (t := 70) (e := 62) (n := 20) (by kernel_rfl) (by kernel_rfl) (by kernel_rfl) (by kernel_rfl) (by kernel_rfl) (by kernel_rfl) h1
  intro g vs hm
  unfold globs at hm
  rw [List.mem_singleton] at hm
  cases hm
  refine ⟨?_, fun h => h⟩
  unfold Lib.TabIs World.var? at ht
  rw [show Tryd.prog.globalNamed "internal/strconv.uint64pow10" = some 0 by kernel_rfl] at ht
  simp only [Option.bind_some] at ht
  show (∃ cur el fr, W.heap[0]? = some (.cells cur el fr) ∧ cur.toList = _)
  split at ht
  · rename_i cs el fr hq
    refine ⟨cs, el, fr, hq, ?_⟩
    rw [Option.some.inj ht]
  · cases ht
end Go.Proofs.YtflopjbjlbkgnaaDoor
