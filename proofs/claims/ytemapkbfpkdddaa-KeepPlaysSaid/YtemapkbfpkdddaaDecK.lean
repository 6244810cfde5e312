/- The arguments of the laws of what is kept, as they are read. No conditions. -/
import Derived.Test.YtemapkbfpkdddaaFcY
import Derived.Test.YtemapkbfpkdddaaFcT
import Derived.Test.YtemapkbfpkdddaaFcW
import Derived.Test.YtemapkbfpkdddaaRows
set_option linter.all false
namespace Go.Proofs.Ytemapkbfpkdddaa
open Go Go.Fc Go.ChangeShapes Go.WideShapes Go.ChangeAt Go.RowKit
theorem own_Try : ownKnob Try.prog.godebug = none := by kernel_rfl
theorem laid_Try : laidOutB Try.prog = true := by kernel_rfl
theorem dec_GOp : Dec Try.prog 29 (fun us => ∃ a : GOp, True ∧ us = eGOp a) :=
  (dec_struct (Ss := [fun us => ∃ n : Int, (Lit.int .u8 n).wf = true ∧ us = [.raw (.int .u8 n)], fun us => ∃ n : Int, (Lit.int .i64 n).wf = true ∧ us = [.raw (.int .i64 n)], fun us => ∃ n : Int, (Lit.int .i64 n).wf = true ∧ us = [.raw (.int .i64 n)]]) Try.underlying29 (by kernel_rfl)
    ⟨dec_int (by kernel_rfl), dec_int (by kernel_rfl), dec_int (by kernel_rfl), trivial⟩).mono (by
    rintro us ⟨_, _, ⟨a, ha, rfl⟩, ⟨_, _, ⟨b, hb, rfl⟩, ⟨_, _, ⟨s, _, rfl⟩, rfl, rfl⟩, rfl⟩, rfl⟩
    exact ⟨⟨a, b, s⟩, trivial, rfl⟩)
theorem dec_Ops : Dec Try.prog 22 (fun us => ∃ a, (∃ l : List GOp, l.length ≤ 9223372036854775807 ∧ a = slOf eGOp 3 l) ∧ us = [a]) :=
  (dec_slice (ok := fun _ => True) (sz := 3) Try.underlying22 (by kernel_rfl) (by decide) dec_GOp (fun a => (eGOp_ok a).1)).mono (by
    rintro us ⟨l, ⟨_, hl⟩, rfl⟩
    exact ⟨_, ⟨l, hl, rfl⟩, rfl⟩)
set_option maxRecDepth 100000 in
theorem arg_Ops {T : Type} {enc : TypeId × Value → T} {w : World} {v : Value} {d : DataW T} {ps : List MemPlace} {base : Nat} (hv : Value.okWide Try.prog w .any base 22 v) (h : DataW.Trod enc Try.prog w 0 (fun _ => true) true 22 v d ps) : ∃ l : List GOp, l.length ≤ 9223372036854775807 ∧ RelV w H0 (slOf eGOp 3 l) v := by
  obtain ⟨a, n, c, rfl⟩ := okWide_slice Try.underlying22 hv
  obtain ⟨a, ⟨l, hl, rfl⟩, hr⟩ := arg_one (P := Try.prog) (t := 22) (S := fun a => ∃ l : List GOp, l.length ≤ 9223372036854775807 ∧ a = slOf eGOp 3 l) dec_Ops (show (Value.slice a n c).cells.toList = [Value.slice a n c] from rfl) h
  exact ⟨l, hl, hr⟩
end Go.Proofs.Ytemapkbfpkdddaa
