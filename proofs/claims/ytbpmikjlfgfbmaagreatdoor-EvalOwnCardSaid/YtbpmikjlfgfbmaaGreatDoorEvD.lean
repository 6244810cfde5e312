/- The arguments of the laws of eval, as they are read. No conditions. -/
import Derived.Test.YtbpmikjlfgfbmaaGreatDoorLeG
import Derived.Test.YtbpmikjlfgfbmaaGreatDoorGdX
import Derived.Test.YtbpmikjlfgfbmaaGreatDoorRows
set_option linter.all false
namespace Go.Proofs.YtbpmikjlfgfbmaaGreatDoor
open Go Go.Gd Go.ChangeShapes Go.WideShapes Go.ChangeAt Go.RowKit
theorem own_Tryz : ownKnob Tryz.prog.godebug = none := by kernel_rfl
theorem laid_Tryz : laidOutB Tryz.prog = true := by kernel_rfl
theorem dec_GValue : Dec Tryz.prog 44 (fun us => ∃ a : GValue, True ∧ us = eGValue a) :=
  (dec_struct (Ss := [fun us => ∃ n : Int, (Lit.int .i64 n).wf = true ∧ us = [.raw (.int .i64 n)], fun us => ∃ n : Int, (Lit.int .i64 n).wf = true ∧ us = [.raw (.int .i64 n)], fun us => ∃ s : ByteArray, us = [.raw (.string s)]]) Tryz.underlying44 (by kernel_rfl)
    ⟨dec_int (by kernel_rfl), dec_int (by kernel_rfl), dec_string (by kernel_rfl), trivial⟩).mono (by
    rintro us ⟨_, _, ⟨a, ha, rfl⟩, ⟨_, _, ⟨b, hb, rfl⟩, ⟨_, _, ⟨s, rfl⟩, rfl, rfl⟩, rfl⟩, rfl⟩
    exact ⟨⟨a, b, s⟩, trivial, rfl⟩)
theorem dec_Values : Dec Tryz.prog 22 (fun us => ∃ l : List GValue, us = [slOf eGValue 3 l]) :=
  (dec_slice (ok := fun _ => True) (sz := 3) Tryz.underlying22 (by kernel_rfl) (by decide) dec_GValue (fun a => rfl)).mono (by
    rintro us ⟨l, _, rfl⟩
    exact ⟨l, rfl⟩)
theorem dec_Ints : Dec Tryz.prog 31 (fun us => ∃ l : List Int, True ∧ us = eLI l) :=
  (dec_slice (ok := fun _ => True) (encA := eI) (sz := 1) Tryz.underlying31 (by kernel_rfl) (by decide) ((dec_int (k := .i64) (by kernel_rfl)).mono (by rintro us ⟨n, _, rfl⟩; exact ⟨n, trivial, rfl⟩)) (fun a => rfl)).mono (by
    rintro us ⟨l, _, rfl⟩
    exact ⟨l, trivial, rfl⟩)
theorem dec_Heap : Dec Tryz.prog 23 (fun us => ∃ l : List (List Int), us = [slOf eLI 1 l]) :=
  (dec_slice (ok := fun _ => True) (encA := eLI) (sz := 1) Tryz.underlying23 (by kernel_rfl) (by decide) dec_Ints (fun a => rfl)).mono (by
    rintro us ⟨l, _, rfl⟩
    exact ⟨l, rfl⟩)
theorem dec_Mem : Dec Tryz.prog 25 (fun us => ∃ m : GMem, us = eMem m) :=
  (dec_struct (Ss := [fun us => ∃ l : List GValue, us = [slOf eGValue 3 l], fun us => ∃ l : List (List Int), us = [slOf eLI 1 l]]) Tryz.underlying25 (by kernel_rfl) ⟨dec_Values, dec_Heap, trivial⟩).mono (by
    rintro us ⟨_, _, ⟨a, rfl⟩, ⟨_, _, ⟨b, rfl⟩, rfl, rfl⟩, rfl⟩
    exact ⟨⟨a, b⟩, rfl⟩)
set_option maxRecDepth 100000 in
theorem arg_Mem {T : Type} {enc : TypeId × Value → T} {w : World} {v : Value} {d : DataW T} {ps : List MemPlace} {base : Nat} (hv : Value.okWide Tryz.prog w .any base 25 v) (h : DataW.Trod enc Tryz.prog w 0 (fun _ => true) true 25 v d ps) : ∃ m : GMem, RelV (n0 w) (.agg (eMem m)) v := by
  obtain ⟨us, ⟨m, rfl⟩, hr⟩ := arg_agg Tryz.underlying25 dec_Mem hv h
  exact ⟨m, hr⟩
theorem wf64 {n : Int} (h : (Lit.int .i64 n).wf = true) : -9223372036854775808 ≤ n ∧ n ≤ 9223372036854775807 := by
  have h1 : IntKind.i64.min = -9223372036854775808 := by decide
  have h2 : IntKind.i64.max = 9223372036854775807 := by decide
  simp [Lit.wf, h1, h2] at h
  omega
theorem wf8 {n : Int} (h : (Lit.int .u8 n).wf = true) : 0 ≤ n ∧ n < 256 := by
  have h1 : IntKind.u8.min = 0 := by decide
  have h2 : IntKind.u8.max = 255 := by decide
  simp [Lit.wf, h1, h2] at h
  omega
end Go.Proofs.YtbpmikjlfgfbmaaGreatDoor
