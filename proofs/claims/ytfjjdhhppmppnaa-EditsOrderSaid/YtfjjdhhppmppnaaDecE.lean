/- The arguments of the laws of edits, as they are read. No conditions. -/
import Derived.Test.YtfjjdhhppmppnaaFcY
import Derived.Test.YtfjjdhhppmppnaaFcT
import Derived.Test.YtfjjdhhppmppnaaFcW
import Derived.Test.YtfjjdhhppmppnaaRows
set_option linter.all false
namespace Go.Proofs.Ytfjjdhhppmppnaa
open Go Go.Fc Go.ChangeShapes Go.WideShapes Go.ChangeAt Go.RowKit
theorem own_Try : ownKnob Try.prog.godebug = none := by kernel_rfl
theorem laid_Try : laidOutB Try.prog = true := by kernel_rfl
theorem dec_GValue : Dec Try.prog 31 (fun us => ∃ a : GValue, True ∧ us = eGValue a) :=
  (dec_struct (Ss := [fun us => ∃ n : Int, (Lit.int .i64 n).wf = true ∧ us = [.raw (.int .i64 n)], fun us => ∃ n : Int, (Lit.int .i64 n).wf = true ∧ us = [.raw (.int .i64 n)], fun us => ∃ s : ByteArray, us = [.raw (.string s)]]) Try.underlying31 (by kernel_rfl)
    ⟨dec_int (by kernel_rfl), dec_int (by kernel_rfl), dec_string (by kernel_rfl), trivial⟩).mono (by
    rintro us ⟨_, _, ⟨a, ha, rfl⟩, ⟨_, _, ⟨b, hb, rfl⟩, ⟨_, _, ⟨s, rfl⟩, rfl, rfl⟩, rfl⟩, rfl⟩
    exact ⟨⟨a, b, s⟩, trivial, rfl⟩)
theorem dec_GEdit : Dec Try.prog 33 (fun us => ∃ a : GEdit, True ∧ us = eGEdit a) :=
  (dec_struct (Ss := [fun us => ∃ n : Int, (Lit.int .i64 n).wf = true ∧ us = [.raw (.int .i64 n)], fun us => ∃ s : ByteArray, us = [.raw (.string s)], fun us => ∃ a : GValue, True ∧ us = eGValue a]) Try.underlying33 (by kernel_rfl)
    ⟨dec_int (by kernel_rfl), dec_string (by kernel_rfl), dec_GValue, trivial⟩).mono (by
    rintro us ⟨_, _, ⟨a, ha, rfl⟩, ⟨_, _, ⟨b, rfl⟩, ⟨_, _, ⟨s, _, rfl⟩, rfl, rfl⟩, rfl⟩, rfl⟩
    exact ⟨⟨a, b, s⟩, trivial, rfl⟩)
set_option maxRecDepth 100000 in
theorem dec_Edits : Dec Try.prog 22 (fun us => ∃ a, (∃ l : List GEdit, l.length ≤ 9223372036854775807 ∧ a = slOf eGEdit 5 l) ∧ us = [a]) :=
  (dec_slice (ok := fun _ => True) (sz := 5) Try.underlying22 (by kernel_rfl) (by decide) dec_GEdit (fun a => (eGEdit_ok a).1)).mono (by
    rintro us ⟨l, ⟨_, hl⟩, rfl⟩
    exact ⟨_, ⟨l, hl, rfl⟩, rfl⟩)
set_option maxRecDepth 100000 in
theorem arg_Edits {T : Type} {enc : TypeId × Value → T} {w : World} {v : Value} {d : DataW T} {ps : List MemPlace} {base : Nat} (hv : Value.okWide Try.prog w .any base 22 v) (h : DataW.Trod enc Try.prog w 0 (fun _ => true) true 22 v d ps) : ∃ l : List GEdit, RelV w H0 (slOf eGEdit 5 l) v := by
  obtain ⟨a, n, c, rfl⟩ := okWide_slice Try.underlying22 hv
  obtain ⟨a, ⟨l, _, rfl⟩, hr⟩ := arg_one (P := Try.prog) (t := 22) (S := fun a => ∃ l : List GEdit, l.length ≤ 9223372036854775807 ∧ a = slOf eGEdit 5 l) dec_Edits (show (Value.slice a n c).cells.toList = [Value.slice a n c] from rfl) h
  exact ⟨l, hr⟩
end Go.Proofs.Ytfjjdhhppmppnaa
