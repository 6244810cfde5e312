/- Values, as functions. Values: the document's, and the program's. Values: the program's. No conditions. -/
import Derived.Test.YtbpmikjlfgfbmaaGreatDoorGdY
import Derived.Test.YtbpmikjlfgfbmaaGreatDoorGdT
import Derived.Test.YtbpmikjlfgfbmaaGreatDoorL3
set_option linter.all false
namespace Go.Gd
open Go
abbrev sE : ByteArray := ⟨#[]⟩
def vI (n : Int) : GValue := ⟨1, n, sE⟩
def vB (b : Bool) : GValue := ⟨2, if b = true then 1 else 0, sE⟩
def vT (s : ByteArray) : GValue := ⟨3, 0, s⟩
def vZ (t : Int) : GValue := ⟨t, 0, sE⟩
def v0 : GValue := ⟨0, 0, sE⟩
def mayV (v : GValue) : Bool :=
  if v.ty = 1 then decide (v.s = sE)
  else if v.ty = 2 then decide (v.s = sE) && (decide (v.n = 0) || decide (v.n = 1))
  else if v.ty = 3 then decide (v.n = 0) && decide ((v.s.size : Int) ≤ 40)
  else if v.ty = 4 then decide (v.s = sE) && decide (0 ≤ v.n)
  else false
def intsV (sign : ByteArray) (a b : Int) : GValue × Int :=
  if sign = (⟨#[43]⟩ : ByteArray) then (vI (IntKind.i64.wrap (a + b)), 0)
  else if sign = (⟨#[45]⟩ : ByteArray) then (vI (IntKind.i64.wrap (a - b)), 0)
  else if sign = (⟨#[42]⟩ : ByteArray) then (vI (IntKind.i64.wrap (a * b)), 0)
  else if sign = (⟨#[47]⟩ : ByteArray) then (if b = 0 then (v0, 1) else (vI (IntKind.i64.wrap (a.tdiv b)), 0))
  else if sign = (⟨#[37]⟩ : ByteArray) then (if b = 0 then (v0, 1) else (vI (a.tmod b), 0))
  else if sign = (⟨#[60]⟩ : ByteArray) then (vB (decide (a < b)), 0)
  else if sign = (⟨#[60, 61]⟩ : ByteArray) then (vB (decide (a ≤ b)), 0)
  else (v0, 0)
def binV (sign : ByteArray) (a b : GValue) : GValue × Int :=
  if a.ty ≠ b.ty ∨ a.ty < 1 ∨ 4 < a.ty then (v0, 0)
  else if sign = (⟨#[61, 61]⟩ : ByteArray) then (vB (decide (a.n = b.n) && decide (a.s = b.s)), 0)
  else if sign = (⟨#[33, 61]⟩ : ByteArray) then (vB (!(decide (a.n = b.n) && decide (a.s = b.s))), 0)
  else if a.ty = 1 then intsV sign a.n b.n
  else if a.ty = 2 then (if sign = (⟨#[124, 124]⟩ : ByteArray) then (vB (decide (a.n = 1) || decide (b.n = 1)), 0) else if sign = (⟨#[38, 38]⟩ : ByteArray) then (vB (decide (a.n = 1) && decide (b.n = 1)), 0) else (v0, 0))
  else if a.ty = 3 then (if sign = (⟨#[43]⟩ : ByteArray) then (if (a.s.size : Int) + b.s.size > 40 then (v0, 6) else (vT (a.s ++ b.s), 0)) else (v0, 0))
  else (v0, 0)
def signV (sign : ByteArray) (a : GValue) : GValue :=
  if sign = (⟨#[45]⟩ : ByteArray) ∧ a.ty = 1 then vI (IntKind.i64.wrap (-a.n))
  else if sign = (⟨#[33]⟩ : ByteArray) ∧ a.ty = 2 then vB (!decide (a.n = 1))
  else v0
end Go.Gd

namespace Go.Proofs.YtbpmikjlfgfbmaaGreatDoor
open Go Go.Gd
abbrev rV (v : GValue) : AV := .agg (eGValue v)
set_option maxHeartbeats 1000000
set_option maxRecDepth 10000
theorem int5_c (n : Int) : PCall Tryz.prog 24 [rI n] (rV (vI n)) := by
  refine entP Tryz.func24 Tryz.ntmps24 ?_
  (repeat' (first
    | refine awp_seq_k fun K hK => ?_
    | refine wkA ?_
    | (refine hK _ _ ?_; clear hK K)
    | (refine wcond (fun hc => ?_) (fun hc => ?_) <;> first | contradiction | (exfalso; omega) | skip)
    | refine wkB ?_
    | exact True.intro
    | (clear hK K)))
  (refine retd [.cell 2 44] ?_; try simp only [go_sem])
  rfl
theorem bool5_c (b : Bool) : PCall Tryz.prog 20 [rB b] (rV (vB b)) := by
  refine entP Tryz.func20 Tryz.ntmps20 ?_
  (repeat' (first
    | refine awp_seq_k fun K hK => ?_
    | refine wkA ?_
    | (refine hK _ _ ?_; clear hK K)
    | (refine wcond (fun hc => ?_) (fun hc => ?_) <;> first | contradiction | (exfalso; omega) | skip)
    | refine wkB ?_
    | exact True.intro
    | (clear hK K)))
  all_goals (refine retd [.cell 2 44] ?_; try simp only [go_sem])
  all_goals simp_all [vB, eGValue]
theorem text5_c (s : ByteArray) : PCall Tryz.prog 25 [rS s] (rV (vT s)) := by
  refine entP Tryz.func25 Tryz.ntmps25 ?_
  (repeat' (first
    | refine awp_seq_k fun K hK => ?_
    | refine wkA ?_
    | (refine hK _ _ ?_; clear hK K)
    | (refine wcond (fun hc => ?_) (fun hc => ?_) <;> first | contradiction | (exfalso; omega) | skip)
    | refine wkB ?_
    | exact True.intro
    | (clear hK K)))
  (refine retd [.cell 2 44] ?_; try simp only [go_sem])
  rfl
theorem zero5_c (t : Int) : PCall Tryz.prog 49 [rI t] (rV (vZ t)) := by
  refine entP Tryz.func49 Tryz.ntmps49 ?_
  (repeat' (first
    | refine awp_seq_k fun K hK => ?_
    | refine wkA ?_
    | (refine hK _ _ ?_; clear hK K)
    | (refine wcond (fun hc => ?_) (fun hc => ?_) <;> first | contradiction | (exfalso; omega) | skip)
    | refine wkB ?_
    | exact True.intro
    | (clear hK K)))
  (refine retd [.cell 2 44] ?_; try simp only [go_sem])
  rfl
theorem may5_c (v : GValue) : PCall Tryz.prog 15 [rV v] (rB (mayV v)) := by
  refine entP Tryz.func15 Tryz.ntmps15 ?_
  (repeat' (first
    | refine awp_seq_k fun K hK => ?_
    | refine wkA ?_
    | (refine hK _ _ ?_; clear hK K)
    | (refine wcond (fun hc => ?_) (fun hc => ?_) <;> first | contradiction | (exfalso; omega) | skip)
    | refine wkB ?_
    | exact True.intro
    | (clear hK K)))
  all_goals (refine retd [.tmp 2] ?_; try simp only [go_sem])
  all_goals simp_all [mayV]
theorem ints5_c (g : ByteArray) (a b : Int) : PCall Tryz.prog 33 [rS g, rI a, rI b] (.tup [rV (intsV g a b).1, rI (intsV g a b).2]) := by
  refine entP Tryz.func33 Tryz.ntmps33 ?_
  (repeat' (first
    | refine awp_seq_k fun K hK => ?_
    | refine wkA ?_
    | (refine hK _ _ ?_; clear hK K)
    | (refine wcond (fun hc => ?_) (fun hc => ?_) <;> first | contradiction | (exfalso; omega) | skip)
    | refine cp (int5_c _) ?_
    | refine cp (bool5_c _) ?_
    | refine wkB ?_
    | exact True.intro
    | (clear hK K)))
  all_goals (refine retd [.cell 6 44, .tmp 7] ?_; try simp only [go_sem])
  all_goals simp_all [intsV]
  all_goals rfl
theorem bin5_c (g : ByteArray) (a b : GValue) (ha : a.s.size ≤ 1000000) (hb : b.s.size ≤ 1000000) : PCall Tryz.prog 19 [rS g, rV a, rV b] (.tup [rV (binV g a b).1, rI (binV g a b).2]) := by
  refine entP Tryz.func19 Tryz.ntmps19 ?_
  (repeat' (first
    | refine awp_seq_k fun K hK => ?_
    | refine wkA ?_
    | (refine hK _ _ ?_; clear hK K)
    | (refine wcond (fun hc => ?_) (fun hc => ?_) <;> first | contradiction | (exfalso; omega) | skip)
    | refine cp (bool5_c _) ?_
    | refine cp (text5_c _) ?_
    | refine cp (ints5_c _ _ _) ?_
    | refine wkB ?_
    | exact True.intro
    | (clear hK K)))
  all_goals (refine retd [.cell 6 44, .tmp 7] ?_; try simp only [go_sem])
  all_goals (unfold binV; (repeat' split) <;> first | rfl | (exfalso; omega) | (exfalso; simp_all; done) | (simp_all [eGValue, vB]; done) | (exfalso; simp_all; omega) | skip)
theorem sign5_c (g : ByteArray) (a : GValue) : PCall Tryz.prog 30 [rS g, rV a] (rV (signV g a)) := by
  refine entP Tryz.func30 Tryz.ntmps30 ?_
  (repeat' (first
    | refine awp_seq_k fun K hK => ?_
    | refine wkA ?_
    | (refine hK _ _ ?_; clear hK K)
    | (refine wcond (fun hc => ?_) (fun hc => ?_) <;> first | contradiction | (exfalso; omega) | skip)
    | refine cp (bool5_c _) ?_
    | refine cp (int5_c _) ?_
    | refine wkB ?_
    | exact True.intro
    | (clear hK K)))
  all_goals (refine retd [.cell 4 44] ?_; try simp only [go_sem])
  all_goals (unfold signV; (repeat' split) <;> first | rfl | (exfalso; omega) | (exfalso; simp_all; done) | (simp_all [eGValue, vB]; done) | (exfalso; simp_all; omega) | skip)
end Go.Proofs.YtbpmikjlfgfbmaaGreatDoor

namespace Go.Proofs.YtbpmikjlfgfbmaaGreatDoor
open Go Go.Gd
set_option maxHeartbeats 1000000
set_option maxRecDepth 10000
theorem int_c (n : Int) : PCall Tryz.prog 41 [rI n] (rV (vI n)) := by
  refine entP Tryz.func41 Tryz.ntmps41 ?_
  (repeat' (first
    | refine awp_seq_k fun K hK => ?_
    | refine wkA ?_
    | (refine hK _ _ ?_; clear hK K)
    | (refine wcond (fun hc => ?_) (fun hc => ?_) <;> first | contradiction | (exfalso; omega) | skip)
    | refine wkB ?_
    | exact True.intro
    | (clear hK K)))
  (refine retd [.cell 2 44] ?_; try simp only [go_sem])
  rfl
theorem zero_c (t : Int) : PCall Tryz.prog 32 [rI t] (rV (vZ t)) := by
  refine entP Tryz.func32 Tryz.ntmps32 ?_
  (repeat' (first
    | refine awp_seq_k fun K hK => ?_
    | refine wkA ?_
    | (refine hK _ _ ?_; clear hK K)
    | (refine wcond (fun hc => ?_) (fun hc => ?_) <;> first | contradiction | (exfalso; omega) | skip)
    | refine wkB ?_
    | exact True.intro
    | (clear hK K)))
  (refine retd [.cell 2 44] ?_; try simp only [go_sem])
  rfl
theorem bool_c (b : Bool) : PCall Tryz.prog 42 [rB b] (rV (vB b)) := by
  refine entP Tryz.func42 Tryz.ntmps42 ?_
  (repeat' (first
    | refine awp_seq_k fun K hK => ?_
    | refine wkA ?_
    | (refine hK _ _ ?_; clear hK K)
    | (refine wcond (fun hc => ?_) (fun hc => ?_) <;> first | contradiction | (exfalso; omega) | skip)
    | refine cp (zero_c _) ?_
    | refine wkB ?_
    | exact True.intro
    | (clear hK K)))
  all_goals (refine retd [.cell 2 44] ?_; try simp only [go_sem])
  all_goals simp_all [vB, vZ]
theorem vtext_c (s : ByteArray) : PCall Tryz.prog 43 [rS s] (rV (vT s)) := by
  refine entP Tryz.func43 Tryz.ntmps43 ?_
  (repeat' (first
    | refine awp_seq_k fun K hK => ?_
    | refine wkA ?_
    | (refine hK _ _ ?_; clear hK K)
    | (refine wcond (fun hc => ?_) (fun hc => ?_) <;> first | contradiction | (exfalso; omega) | skip)
    | refine wkB ?_
    | exact True.intro
    | (clear hK K)))
  (refine retd [.cell 2 44] ?_; try simp only [go_sem])
  rfl
theorem may_c (v : GValue) : PCall Tryz.prog 31 [rV v] (rB (mayV v)) := by
  refine entP Tryz.func31 Tryz.ntmps31 ?_
  (repeat' (first
    | refine awp_seq_k fun K hK => ?_
    | refine wkA ?_
    | (refine hK _ _ ?_; clear hK K)
    | (refine wcond (fun hc => ?_) (fun hc => ?_) <;> first | contradiction | (exfalso; omega) | skip)
    | refine wkB ?_
    | exact True.intro
    | (clear hK K)))
  all_goals (refine retd [.tmp 2] ?_; try simp only [go_sem])
  all_goals (unfold mayV; (repeat' split) <;> first | rfl | (exfalso; omega) | (exfalso; simp_all; done) | skip)
  all_goals (refine rawBool_eq ?_; by_cases hs : v.s = sE <;> simp [hs] <;> omega)
def orderV (g : ByteArray) (a b : Int) : GValue × Int := if g = (⟨#[60]⟩ : ByteArray) then (vB (decide (a < b)), 0) else if g = (⟨#[60, 61]⟩ : ByteArray) then (vB (decide (a ≤ b)), 0) else (v0, 0)
theorem order_c (g : ByteArray) (a b : Int) : PCall Tryz.prog 90 [rS g, rI a, rI b] (.tup [rV (orderV g a b).1, rI (orderV g a b).2]) := by
  refine entP Tryz.func90 Tryz.ntmps90 ?_
  (repeat' (first
    | refine awp_seq_k fun K hK => ?_
    | refine wkA ?_
    | (refine hK _ _ ?_; clear hK K)
    | (refine wcond (fun hc => ?_) (fun hc => ?_) <;> first | contradiction | (exfalso; omega) | skip)
    | refine cp (bool_c _) ?_
    | refine wkB ?_
    | exact True.intro
    | (clear hK K)))
  all_goals (refine retd [.cell 6 44, .tmp 7] ?_; try simp only [go_sem])
  all_goals (unfold orderV; (repeat' split) <;> first | rfl | (exfalso; omega) | (exfalso; simp_all; done) | (simp_all [eGValue, vB]; done) | (exfalso; simp_all; omega) | skip)
theorem numbers_c (g : ByteArray) (a b : Int) : PCall Tryz.prog 79 [rS g, rI a, rI b] (.tup [rV (intsV g a b).1, rI (intsV g a b).2]) := by
  refine entP Tryz.func79 Tryz.ntmps79 ?_
  (repeat' (first
    | refine awp_seq_k fun K hK => ?_
    | refine wkA ?_
    | (refine hK _ _ ?_; clear hK K)
    | (refine wcond (fun hc => ?_) (fun hc => ?_) <;> first | contradiction | (exfalso; omega) | skip)
    | refine cp (int_c _) ?_
    | refine cp (order_c _ _ _) ?_
    | refine wkB ?_
    | exact True.intro
    | (clear hK K)))
  all_goals (refine retd [.cell 6 44, .tmp 7] ?_; try simp only [go_sem])
  all_goals (try unfold orderV)
  all_goals (unfold intsV; (repeat' split) <;> first | rfl | (exfalso; omega) | (exfalso; simp_all; done) | (simp_all [eGValue, vB]; done) | (exfalso; simp_all; omega) | skip)
def bothV (g : ByteArray) (a b : Bool) : GValue × Int := if g = (⟨#[124, 124]⟩ : ByteArray) then (vB (a || b), 0) else if g = (⟨#[38, 38]⟩ : ByteArray) then (vB (a && b), 0) else (v0, 0)
theorem both_c (g : ByteArray) (a b : Bool) : PCall Tryz.prog 80 [rS g, rB a, rB b] (.tup [rV (bothV g a b).1, rI (bothV g a b).2]) := by
  refine entP Tryz.func80 Tryz.ntmps80 ?_
  (repeat' (first
    | refine awp_seq_k fun K hK => ?_
    | refine wkA ?_
    | (refine hK _ _ ?_; clear hK K)
    | (refine wcond (fun hc => ?_) (fun hc => ?_) <;> first | contradiction | (exfalso; omega) | skip)
    | refine cp (bool_c _) ?_
    | refine wkB ?_
    | exact True.intro
    | (clear hK K)))
  all_goals (refine retd [.cell 6 44, .tmp 7] ?_; try simp only [go_sem])
  all_goals (unfold bothV; (repeat' split) <;> first | rfl | (exfalso; omega) | (exfalso; simp_all; done) | (simp_all [eGValue, vB]; done) | (exfalso; simp_all; omega) | skip)
def textsV (g a b : ByteArray) : GValue × Int := if g = (⟨#[43]⟩ : ByteArray) then (if (a.size : Int) + b.size > 40 then (v0, 6) else (vT (a ++ b), 0)) else (v0, 0)
theorem texts_c (g a b : ByteArray) (ha : a.size ≤ 1000000) (hb : b.size ≤ 1000000) : PCall Tryz.prog 81 [rS g, rS a, rS b] (.tup [rV (textsV g a b).1, rI (textsV g a b).2]) := by
  refine entP Tryz.func81 Tryz.ntmps81 ?_
  (repeat' (first
    | refine awp_seq_k fun K hK => ?_
    | refine wkA ?_
    | (refine hK _ _ ?_; clear hK K)
    | (refine wcond (fun hc => ?_) (fun hc => ?_) <;> first | contradiction | (exfalso; omega) | skip)
    | refine cp (vtext_c _) ?_
    | refine wkB ?_
    | exact True.intro
    | (clear hK K)))
  all_goals (refine retd [.cell 6 44, .tmp 7] ?_; try simp only [go_sem])
  all_goals (unfold textsV; (repeat' split) <;> first | rfl | (exfalso; omega) | (exfalso; simp_all; done) | (simp_all [eGValue, vB]; done) | (exfalso; simp_all; omega) | skip)
theorem bin_c (g : ByteArray) (a b : GValue) (ha : a.s.size ≤ 1000000) (hb : b.s.size ≤ 1000000) : PCall Tryz.prog 64 [rS g, rV a, rV b] (.tup [rV (binV g a b).1, rI (binV g a b).2]) := by
  refine entP Tryz.func64 Tryz.ntmps64 ?_
  (repeat' (first
    | refine awp_seq_k fun K hK => ?_
    | refine wkA ?_
    | (refine hK _ _ ?_; clear hK K)
    | (refine wcond (fun hc => ?_) (fun hc => ?_) <;> first | contradiction | (exfalso; omega) | skip)
    | refine cp (bool_c _) ?_
    | refine cp (numbers_c _ _ _) ?_
    | refine cp (both_c _ _ _) ?_
    | refine cp (texts_c _ _ _ ha hb) ?_
    | refine wkB ?_
    | exact True.intro
    | (clear hK K)))
  all_goals (refine retd [.cell 6 44, .tmp 7] ?_; try simp only [go_sem])
  all_goals (try unfold bothV); all_goals (try unfold textsV)
  all_goals (unfold binV; (repeat' split) <;> first | rfl | (exfalso; omega) | (exfalso; simp_all; done) | (simp_all [eGValue, vB]; done) | (exfalso; simp_all; omega) | skip)
theorem sign_v_c (g : ByteArray) (a : GValue) : PCall Tryz.prog 48 [rS g, rV a] (rV (signV g a)) := by
  refine entP Tryz.func48 Tryz.ntmps48 ?_
  (repeat' (first
    | refine awp_seq_k fun K hK => ?_
    | refine wkA ?_
    | (refine hK _ _ ?_; clear hK K)
    | (refine wcond (fun hc => ?_) (fun hc => ?_) <;> first | contradiction | (exfalso; omega) | skip)
    | refine cp (bool_c _) ?_
    | refine cp (int_c _) ?_
    | refine wkB ?_
    | exact True.intro
    | (clear hK K)))
  all_goals (refine retd [.cell 4 44] ?_; try simp only [go_sem])
  all_goals (unfold signV; (repeat' split) <;> first | rfl | (exfalso; omega) | (exfalso; simp_all; done) | (simp_all [eGValue, vB]; done) | (exfalso; simp_all; omega) | skip)
end Go.Proofs.YtbpmikjlfgfbmaaGreatDoor
