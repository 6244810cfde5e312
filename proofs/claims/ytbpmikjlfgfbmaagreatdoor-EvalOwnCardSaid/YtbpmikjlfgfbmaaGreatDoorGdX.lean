/- The steps of a walk as lemmas; what each asks beside is reckoned by its own default. A law's arguments as they are read, and what a law's row asks behind the call. A slice that is made; arrays of two numbers as arguments. No conditions. -/
import Derived.Test.YtbpmikjlfgfbmaaGreatDoorGdO
import Derived.ProofKit
import Derived.Deep.Slices
import Derived.Carry
import Derived.Laws.MakeOwn
import Derived.OpenShut
set_option linter.all false
namespace Go.Gd
open Go
universe u
@[go_sem] theorem getD_mapapp_ {α : Type} [Inhabited α] (f : α → List AV) (a : List α) (b : List (List AV)) (k : Nat) (h : k < a.length) : (a.map f ++ b).getD k [] = f (nth a k) := by
  rw [nth_get h, List.getD_eq_getElem?_getD, List.getElem?_append_left (by simpa using h)]
  simp [h]
attribute [go_sem] List.isEmpty_nil
/-- simp keeps out of code, and of what follows it. -/
@[congr] theorem awp_congr {P : Program} {c : Code} {Q : Exit → List AV → Hp → Prop} {F F' : List AV} {H H' : Hp} (h1 : F = F') (h2 : H = H') : AWP P c Q F H = AWP P c Q F' H' := by rw [h1, h2]
/-- What follows from what is left. -/
def Step (p q : Prop) : Prop := q → p
section
variable {P : Program} {Q : Exit → List AV → Hp → Prop} {F : List AV} {H : Hp}
theorem st_region {id : Nat} {l : List Oper} {q : Prop} (e : vcl P l.toArray (Q .normal) l F H = q) : Step (AWP P (.region id l.toArray false) Q F H) q := fun h => awp_region_vcl (e ▸ h)
theorem st_block {id : Nat} {c : Code} : Step (AWP P (.block id c) Q F H) (AWP P c (ABlock id Q) F H) := awp_block
theorem st_skip {q : Prop} (e : Q .normal F H = q) : Step (AWP P .skip Q F H) q := fun h => awp_skip (e ▸ h)
theorem st_exit {id : Nat} {q : Prop} (e : Q (.exit id) F H = q) : Step (AWP P (.exit id) Q F H) q := fun h => awp_exit (e ▸ h)
theorem st_ret {q : Prop} (e : Q .ret F H = q) : Step (AWP P .ret Q F H) q := fun h => awp_ret (e ▸ h)
end
section
variable {P : Program} {H : Hp} {K : AV → Hp → Prop}
theorem st_alloc {t : TypeId} {zs : List Value} {q : Prop} (hz : zeroL P t = some zs) (e : K (.pt (nx H.l) 0 0 0) (H.put (nx H.l) (.var t (zs.map .raw))) = q) : Step (vAlloc P H t K) q := fun h => vAlloc_next hz (e ▸ h)
theorem st_box {t : TypeId} {x : AV} {q : Prop} (ho : ones x.cells = true) (e : K (.pt (nx H.l) 0 0 0) (H.put (nx H.l) (.var t x.cells)) = q) : Step (vBox H t x K) q := fun h => vBox_next ho (e ▸ h)
theorem st_fresh {A : Nat → Prop} {d : Dep A} {q : Prop} (e : A (nx H.l) = q) : Step (vFresh H A d) q := fun h => vFresh_next (e ▸ h)
theorem st_litz {t : TypeId} {sz : Nat} {q : Prop} (h0 : 0 < sz) (e : K (.rs (nx H.l) 0 sz 0) (H.put (nx H.l) (.vec t sz [])) = q) : Step (vLitK t sz [] H K) q := fun h => vLitK_zero h0 (e ▸ h)
theorem st_litt {t : TypeId} {sz : Nat} {css : List (List AV)} {q : Prop} (h1 : allL noQ css.flatten = true) (e : K (.sl true sz css []) H = q) : Step (vLitK t sz css H K) q := fun h => vLitK_tree h1 (e ▸ h)
theorem st_app {t : TypeId} {a x : AV} {q : Prop} (e : vApp P t a x H K = q) : Step (AppendTo P t t a x H K) q := fun h => appendTo_own (e ▸ h)
theorem st_ap {d : Dep K} {r : AV} {q : Prop} (e : K r H = q) : Step (AP K d r H) q := fun h => ap_intro (e ▸ h)
theorem st_and {a b : Prop} (h : a) : Step (a ∧ b) b := fun k => ⟨h, k⟩
end
/-- One step of a walk, up to calls. -/
theorem wkA {p q : Prop} (h : q) (e : Step p q := by first
  | ((with_reducible apply st_region); first | (simp (disch := first | omega | assumption | fail) only [go_sem, wrap_in, W, ↓reduceIte, Int.reduceEq, Int.reduceLE, Int.reduceLT, Int.reduceNe, Int.reduceToNat, Nat.reduceMul, Nat.reduceAdd, Nat.reduceLeDiff, Nat.reduceSub, Nat.reduceEqDiff, Nat.reduceBEq, List.nodup_cons, List.nodup_nil, List.mem_cons, List.not_mem_nil, List.mem_nil_iff]; rfl) | (simp (disch := first | omega | assumption | fail) only [go_sem, wrap_in, ↓reduceIte, Int.reduceEq, Int.reduceLE, Int.reduceLT, Int.reduceNe, Int.reduceToNat, Nat.reduceMul, Nat.reduceAdd, Nat.reduceLeDiff, Nat.reduceSub, Nat.reduceEqDiff, Nat.reduceBEq, List.nodup_cons, List.nodup_nil, List.mem_cons, List.not_mem_nil, List.mem_nil_iff]; rfl) | rfl | fail)
  | with_reducible exact st_block
  | ((with_reducible apply st_exit); first | (simp only [go_sem, ↓reduceIte, Int.reduceEq, Int.reduceLE, Int.reduceLT, Int.reduceNe, Int.reduceToNat, Nat.reduceMul, Nat.reduceAdd, Nat.reduceLeDiff, Nat.reduceSub, Nat.reduceEqDiff, Nat.reduceBEq, List.nodup_cons, List.nodup_nil, List.mem_cons, List.not_mem_nil, List.mem_nil_iff]; rfl) | rfl | fail)
  | ((with_reducible apply st_ret); first | (simp only [go_sem, ↓reduceIte, Int.reduceEq, Int.reduceLE, Int.reduceLT, Int.reduceNe, Int.reduceToNat, Nat.reduceMul, Nat.reduceAdd, Nat.reduceLeDiff, Nat.reduceSub, Nat.reduceEqDiff, Nat.reduceBEq, List.nodup_cons, List.nodup_nil, List.mem_cons, List.not_mem_nil, List.mem_nil_iff]; rfl) | rfl | fail)
  | ((with_reducible apply st_skip); first | (simp only [go_sem, ↓reduceIte, Int.reduceEq, Int.reduceLE, Int.reduceLT, Int.reduceNe, Int.reduceToNat, Nat.reduceMul, Nat.reduceAdd, Nat.reduceLeDiff, Nat.reduceSub, Nat.reduceEqDiff, Nat.reduceBEq, List.nodup_cons, List.nodup_nil, List.mem_cons, List.not_mem_nil, List.mem_nil_iff]; rfl) | rfl | fail)
  | fail) : p := e h
/-- One step of a walk, behind calls. -/
theorem wkB {p q : Prop} (h : q) (e : Step p q := by first
  | ((with_reducible apply st_app); first | (simp (disch := first | omega | assumption | fail) only [go_sem, wrap_in, W, ↓reduceIte, Int.reduceEq, Int.reduceLE, Int.reduceLT, Int.reduceNe, Int.reduceToNat, Nat.reduceMul, Nat.reduceAdd, Nat.reduceLeDiff, Nat.reduceSub, Nat.reduceEqDiff, Nat.reduceBEq, List.nodup_cons, List.nodup_nil, List.mem_cons, List.not_mem_nil, List.mem_nil_iff]; rfl) | (simp (disch := first | omega | assumption | fail) only [go_sem, wrap_in, ↓reduceIte, Int.reduceEq, Int.reduceLE, Int.reduceLT, Int.reduceNe, Int.reduceToNat, Nat.reduceMul, Nat.reduceAdd, Nat.reduceLeDiff, Nat.reduceSub, Nat.reduceEqDiff, Nat.reduceBEq, List.nodup_cons, List.nodup_nil, List.mem_cons, List.not_mem_nil, List.mem_nil_iff]; rfl) | rfl | fail)
  | ((with_reducible apply st_ap); first | (simp (disch := first | omega | assumption | fail) only [go_sem, wrap_in, W, ↓reduceIte, Int.reduceEq, Int.reduceLE, Int.reduceLT, Int.reduceNe, Int.reduceToNat, Nat.reduceMul, Nat.reduceAdd, Nat.reduceLeDiff, Nat.reduceSub, Nat.reduceEqDiff, Nat.reduceBEq, List.nodup_cons, List.nodup_nil, List.mem_cons, List.not_mem_nil, List.mem_nil_iff]; rfl) | (simp (disch := first | omega | assumption | fail) only [go_sem, wrap_in, ↓reduceIte, Int.reduceEq, Int.reduceLE, Int.reduceLT, Int.reduceNe, Int.reduceToNat, Nat.reduceMul, Nat.reduceAdd, Nat.reduceLeDiff, Nat.reduceSub, Nat.reduceEqDiff, Nat.reduceBEq, List.nodup_cons, List.nodup_nil, List.mem_cons, List.not_mem_nil, List.mem_nil_iff]; rfl) | rfl | fail)
  | ((with_reducible apply st_litz); (focus (first | (simp (disch := first | omega | assumption | fail) only [go_sem, wrap_in, W, ↓reduceIte, Int.reduceEq, Int.reduceLE, Int.reduceLT, Int.reduceNe, Int.reduceToNat, Nat.reduceMul, Nat.reduceAdd, Nat.reduceLeDiff, Nat.reduceSub, Nat.reduceEqDiff, Nat.reduceBEq, List.nodup_cons, List.nodup_nil, List.mem_cons, List.not_mem_nil, List.mem_nil_iff]; done) | (simp (disch := first | omega | assumption | fail) only [go_sem, wrap_in, ↓reduceIte, Int.reduceEq, Int.reduceLE, Int.reduceLT, Int.reduceNe, Int.reduceToNat, Nat.reduceMul, Nat.reduceAdd, Nat.reduceLeDiff, Nat.reduceSub, Nat.reduceEqDiff, Nat.reduceBEq, List.nodup_cons, List.nodup_nil, List.mem_cons, List.not_mem_nil, List.mem_nil_iff]; done) | fail)); first | (simp (disch := first | omega | assumption | fail) only [go_sem, wrap_in, W, ↓reduceIte, Int.reduceEq, Int.reduceLE, Int.reduceLT, Int.reduceNe, Int.reduceToNat, Nat.reduceMul, Nat.reduceAdd, Nat.reduceLeDiff, Nat.reduceSub, Nat.reduceEqDiff, Nat.reduceBEq, List.nodup_cons, List.nodup_nil, List.mem_cons, List.not_mem_nil, List.mem_nil_iff]; rfl) | (simp (disch := first | omega | assumption | fail) only [go_sem, wrap_in, ↓reduceIte, Int.reduceEq, Int.reduceLE, Int.reduceLT, Int.reduceNe, Int.reduceToNat, Nat.reduceMul, Nat.reduceAdd, Nat.reduceLeDiff, Nat.reduceSub, Nat.reduceEqDiff, Nat.reduceBEq, List.nodup_cons, List.nodup_nil, List.mem_cons, List.not_mem_nil, List.mem_nil_iff]; rfl) | rfl | fail)
  | ((with_reducible apply st_litt); (focus (simp only [go_sem])); first | (simp (disch := first | omega | assumption | fail) only [go_sem, wrap_in, W, ↓reduceIte, Int.reduceEq, Int.reduceLE, Int.reduceLT, Int.reduceNe, Int.reduceToNat, Nat.reduceMul, Nat.reduceAdd, Nat.reduceLeDiff, Nat.reduceSub, Nat.reduceEqDiff, Nat.reduceBEq, List.nodup_cons, List.nodup_nil, List.mem_cons, List.not_mem_nil, List.mem_nil_iff]; rfl) | (simp (disch := first | omega | assumption | fail) only [go_sem, wrap_in, ↓reduceIte, Int.reduceEq, Int.reduceLE, Int.reduceLT, Int.reduceNe, Int.reduceToNat, Nat.reduceMul, Nat.reduceAdd, Nat.reduceLeDiff, Nat.reduceSub, Nat.reduceEqDiff, Nat.reduceBEq, List.nodup_cons, List.nodup_nil, List.mem_cons, List.not_mem_nil, List.mem_nil_iff]; rfl) | rfl | fail)
  | ((with_reducible apply st_alloc); (focus (simp only [go_sem]; rfl)); first | (simp (disch := first | omega | assumption | fail) only [go_sem, wrap_in, W, ↓reduceIte, Int.reduceEq, Int.reduceLE, Int.reduceLT, Int.reduceNe, Int.reduceToNat, Nat.reduceMul, Nat.reduceAdd, Nat.reduceLeDiff, Nat.reduceSub, Nat.reduceEqDiff, Nat.reduceBEq, List.nodup_cons, List.nodup_nil, List.mem_cons, List.not_mem_nil, List.mem_nil_iff]; rfl) | (simp (disch := first | omega | assumption | fail) only [go_sem, wrap_in, ↓reduceIte, Int.reduceEq, Int.reduceLE, Int.reduceLT, Int.reduceNe, Int.reduceToNat, Nat.reduceMul, Nat.reduceAdd, Nat.reduceLeDiff, Nat.reduceSub, Nat.reduceEqDiff, Nat.reduceBEq, List.nodup_cons, List.nodup_nil, List.mem_cons, List.not_mem_nil, List.mem_nil_iff]; rfl) | rfl | fail)
  | ((with_reducible apply st_box); (focus (simp only [go_sem])); first | (simp (disch := first | omega | assumption | fail) only [go_sem, wrap_in, W, ↓reduceIte, Int.reduceEq, Int.reduceLE, Int.reduceLT, Int.reduceNe, Int.reduceToNat, Nat.reduceMul, Nat.reduceAdd, Nat.reduceLeDiff, Nat.reduceSub, Nat.reduceEqDiff, Nat.reduceBEq, List.nodup_cons, List.nodup_nil, List.mem_cons, List.not_mem_nil, List.mem_nil_iff]; rfl) | (simp (disch := first | omega | assumption | fail) only [go_sem, wrap_in, ↓reduceIte, Int.reduceEq, Int.reduceLE, Int.reduceLT, Int.reduceNe, Int.reduceToNat, Nat.reduceMul, Nat.reduceAdd, Nat.reduceLeDiff, Nat.reduceSub, Nat.reduceEqDiff, Nat.reduceBEq, List.nodup_cons, List.nodup_nil, List.mem_cons, List.not_mem_nil, List.mem_nil_iff]; rfl) | rfl | fail)
  | ((with_reducible apply st_fresh); first | (simp (disch := first | omega | assumption | fail) only [go_sem, wrap_in, W, ↓reduceIte, Int.reduceEq, Int.reduceLE, Int.reduceLT, Int.reduceNe, Int.reduceToNat, Nat.reduceMul, Nat.reduceAdd, Nat.reduceLeDiff, Nat.reduceSub, Nat.reduceEqDiff, Nat.reduceBEq, List.nodup_cons, List.nodup_nil, List.mem_cons, List.not_mem_nil, List.mem_nil_iff]; rfl) | (simp (disch := first | omega | assumption | fail) only [go_sem, wrap_in, ↓reduceIte, Int.reduceEq, Int.reduceLE, Int.reduceLT, Int.reduceNe, Int.reduceToNat, Nat.reduceMul, Nat.reduceAdd, Nat.reduceLeDiff, Nat.reduceSub, Nat.reduceEqDiff, Nat.reduceBEq, List.nodup_cons, List.nodup_nil, List.mem_cons, List.not_mem_nil, List.mem_nil_iff]; rfl) | rfl | fail)
  | ((with_reducible apply st_and); first | omega | (simp +contextual; done) | (simp +contextual; intros; omega) | fail)
  | fail) : p := e h
/-- What is left is said plainer. -/
theorem S {p q : Prop} (h : q) (e : p = q := by first | (simp (disch := first | omega | assumption | fail) only [go_sem, wrap_in, W, ↓reduceIte, Int.reduceEq, Int.reduceLE, Int.reduceLT, Int.reduceNe, Int.reduceToNat, Nat.reduceMul, Nat.reduceAdd, Nat.reduceLeDiff, Nat.reduceSub, Nat.reduceEqDiff, Nat.reduceBEq, List.nodup_cons, List.nodup_nil, List.mem_cons, List.not_mem_nil, List.mem_nil_iff]; rfl) | (simp (disch := first | omega | assumption | fail) only [go_sem, wrap_in, ↓reduceIte, Int.reduceEq, Int.reduceLE, Int.reduceLT, Int.reduceNe, Int.reduceToNat, Nat.reduceMul, Nat.reduceAdd, Nat.reduceLeDiff, Nat.reduceSub, Nat.reduceEqDiff, Nat.reduceBEq, List.nodup_cons, List.nodup_nil, List.mem_cons, List.not_mem_nil, List.mem_nil_iff]; rfl) | fail) : p := e ▸ h
theorem S0 {p q : Prop} (h : q) (e : p = q := by simp only [go_sem, ↓reduceIte, Int.reduceEq, Int.reduceLE, Int.reduceLT, Int.reduceNe, Int.reduceToNat, Nat.reduceMul, Nat.reduceAdd, Nat.reduceLeDiff, Nat.reduceSub, Nat.reduceEqDiff, Nat.reduceBEq, List.nodup_cons, List.nodup_nil, List.mem_cons, List.not_mem_nil, List.mem_nil_iff]; rfl) : p := e ▸ h
theorem Sd {p : Prop} (e : p = True := by first | (simp (disch := first | omega | assumption | fail) only [go_sem, wrap_in, W, ↓reduceIte, Int.reduceEq, Int.reduceLE, Int.reduceLT, Int.reduceNe, Int.reduceToNat, Nat.reduceMul, Nat.reduceAdd, Nat.reduceLeDiff, Nat.reduceSub, Nat.reduceEqDiff, Nat.reduceBEq, List.nodup_cons, List.nodup_nil, List.mem_cons, List.not_mem_nil, List.mem_nil_iff]; done) | (simp (disch := first | omega | assumption | fail) only [go_sem, wrap_in, ↓reduceIte, Int.reduceEq, Int.reduceLE, Int.reduceLT, Int.reduceNe, Int.reduceToNat, Nat.reduceMul, Nat.reduceAdd, Nat.reduceLeDiff, Nat.reduceSub, Nat.reduceEqDiff, Nat.reduceBEq, List.nodup_cons, List.nodup_nil, List.mem_cons, List.not_mem_nil, List.mem_nil_iff]; done) | fail) : p := of_eq_true e
/-- A condition. -/
theorem wcond {P : Program} {Q : Exit → List AV → Hp → Prop} {F : List AV} {H : Hp} {c : Operand} {x y : Code} {b : Bool} {pt pf : Prop} (ht : pt → AWP P x Q F H) (hf : pf → AWP P y Q F H) (hc : evA F c = .raw (.bool b) := by rfl)
  (et : (b = true) = pt := by first | (simp only [Int.reduceEq, Int.reduceLE, Int.reduceLT, Int.reduceNe, false_and, and_false, true_and, and_true, or_false, false_or, true_or, or_true, Bool.false_eq_true, Bool.true_eq_false, eq_self, reduceCtorEq, Bool.not_true, Bool.not_false, Bool.and_eq_true, Bool.or_eq_true, Bool.and_eq_false_iff, Bool.or_eq_false_iff, decide_eq_true_eq, decide_eq_false_iff_not, Bool.not_eq_true', Bool.not_eq_false', Int.not_lt, Int.not_le]; rfl) | rfl) (ef : (b = false) = pf := by first | (simp only [Int.reduceEq, Int.reduceLE, Int.reduceLT, Int.reduceNe, false_and, and_false, true_and, and_true, or_false, false_or, true_or, or_true, Bool.false_eq_true, Bool.true_eq_false, eq_self, reduceCtorEq, Bool.not_true, Bool.not_false, Bool.and_eq_true, Bool.or_eq_true, Bool.and_eq_false_iff, Bool.or_eq_false_iff, decide_eq_true_eq, decide_eq_false_iff_not, Bool.not_eq_true', Bool.not_eq_false', Int.not_lt, Int.not_le]; rfl) | rfl) : AWP P (.cond c x y) Q F H := awp_cond hc (fun h => ht (et ▸ h)) (fun h => hf (ef ▸ h))
section
variable {P : Program} {f : FuncId} {args : List AV} {H : Hp} {K : AV → Hp → Prop} {q : Prop}
/-- A call of a function that is handed things of one's own. -/
theorem cm {l l0 : List (Nat × Row)} {r0 : AV} (hc : ACalls P f args l fun r l' => r = r0 ∧ l' = l0) (k : q) (h1 : fits l H := by first | (simp (disch := first | omega | assumption | fail) only [go_sem, wrap_in, W, ↓reduceIte, Int.reduceEq, Int.reduceLE, Int.reduceLT, Int.reduceNe, Int.reduceToNat, Nat.reduceMul, Nat.reduceAdd, Nat.reduceLeDiff, Nat.reduceSub, Nat.reduceEqDiff, Nat.reduceBEq, List.nodup_cons, List.nodup_nil, List.mem_cons, List.not_mem_nil, List.mem_nil_iff]; done) | (simp (disch := first | omega | assumption | fail) only [go_sem, wrap_in, ↓reduceIte, Int.reduceEq, Int.reduceLE, Int.reduceLT, Int.reduceNe, Int.reduceToNat, Nat.reduceMul, Nat.reduceAdd, Nat.reduceLeDiff, Nat.reduceSub, Nat.reduceEqDiff, Nat.reduceBEq, List.nodup_cons, List.nodup_nil, List.mem_cons, List.not_mem_nil, List.mem_nil_iff]; done) | fail) (h0 : callable P f = true := by first | (simp (disch := first | omega | assumption | fail) only [go_sem, wrap_in, W, ↓reduceIte, Int.reduceEq, Int.reduceLE, Int.reduceLT, Int.reduceNe, Int.reduceToNat, Nat.reduceMul, Nat.reduceAdd, Nat.reduceLeDiff, Nat.reduceSub, Nat.reduceEqDiff, Nat.reduceBEq, List.nodup_cons, List.nodup_nil, List.mem_cons, List.not_mem_nil, List.mem_nil_iff]; done) | (simp (disch := first | omega | assumption | fail) only [go_sem, wrap_in, ↓reduceIte, Int.reduceEq, Int.reduceLE, Int.reduceLT, Int.reduceNe, Int.reduceToNat, Nat.reduceMul, Nat.reduceAdd, Nat.reduceLeDiff, Nat.reduceSub, Nat.reduceEqDiff, Nat.reduceBEq, List.nodup_cons, List.nodup_nil, List.mem_cons, List.not_mem_nil, List.mem_nil_iff]; done) | fail) (h2 : allL (fun i => (ids l).contains i) args = true := by first | (simp (disch := first | omega | assumption | fail) only [go_sem, wrap_in, W, ↓reduceIte, Int.reduceEq, Int.reduceLE, Int.reduceLT, Int.reduceNe, Int.reduceToNat, Nat.reduceMul, Nat.reduceAdd, Nat.reduceLeDiff, Nat.reduceSub, Nat.reduceEqDiff, Nat.reduceBEq, List.nodup_cons, List.nodup_nil, List.mem_cons, List.not_mem_nil, List.mem_nil_iff]; done) | (simp (disch := first | omega | assumption | fail) only [go_sem, wrap_in, ↓reduceIte, Int.reduceEq, Int.reduceLE, Int.reduceLT, Int.reduceNe, Int.reduceToNat, Nat.reduceMul, Nat.reduceAdd, Nat.reduceLeDiff, Nat.reduceSub, Nat.reduceEqDiff, Nat.reduceBEq, List.nodup_cons, List.nodup_nil, List.mem_cons, List.not_mem_nil, List.mem_nil_iff]; done) | fail) (h3 : shut (fun i => (ids l).contains i) l := by first | (simp (disch := first | omega | assumption | fail) only [go_sem, wrap_in, W, ↓reduceIte, Int.reduceEq, Int.reduceLE, Int.reduceLT, Int.reduceNe, Int.reduceToNat, Nat.reduceMul, Nat.reduceAdd, Nat.reduceLeDiff, Nat.reduceSub, Nat.reduceEqDiff, Nat.reduceBEq, List.nodup_cons, List.nodup_nil, List.mem_cons, List.not_mem_nil, List.mem_nil_iff]; done) | (simp (disch := first | omega | assumption | fail) only [go_sem, wrap_in, ↓reduceIte, Int.reduceEq, Int.reduceLE, Int.reduceLT, Int.reduceNe, Int.reduceToNat, Nat.reduceMul, Nat.reduceAdd, Nat.reduceLeDiff, Nat.reduceSub, Nat.reduceEqDiff, Nat.reduceBEq, List.nodup_cons, List.nodup_nil, List.mem_cons, List.not_mem_nil, List.mem_nil_iff]; done) | fail)
  (h4 : fresh (ids l) H l0 := by first | (simp (disch := first | omega | assumption | fail) only [go_sem, wrap_in, W, ↓reduceIte, Int.reduceEq, Int.reduceLE, Int.reduceLT, Int.reduceNe, Int.reduceToNat, Nat.reduceMul, Nat.reduceAdd, Nat.reduceLeDiff, Nat.reduceSub, Nat.reduceEqDiff, Nat.reduceBEq, List.nodup_cons, List.nodup_nil, List.mem_cons, List.not_mem_nil, List.mem_nil_iff]; done) | (simp (disch := first | omega | assumption | fail) only [go_sem, wrap_in, ↓reduceIte, Int.reduceEq, Int.reduceLE, Int.reduceLT, Int.reduceNe, Int.reduceToNat, Nat.reduceMul, Nat.reduceAdd, Nat.reduceLeDiff, Nat.reduceSub, Nat.reduceEqDiff, Nat.reduceBEq, List.nodup_cons, List.nodup_nil, List.mem_cons, List.not_mem_nil, List.mem_nil_iff]; done) | fail) (h5 : (ids l0).Nodup := by first | (simp (disch := first | omega | assumption | fail) only [go_sem, wrap_in, W, ↓reduceIte, Int.reduceEq, Int.reduceLE, Int.reduceLT, Int.reduceNe, Int.reduceToNat, Nat.reduceMul, Nat.reduceAdd, Nat.reduceLeDiff, Nat.reduceSub, Nat.reduceEqDiff, Nat.reduceBEq, List.nodup_cons, List.nodup_nil, List.mem_cons, List.not_mem_nil, List.mem_nil_iff]; done) | (simp (disch := first | omega | assumption | fail) only [go_sem, wrap_in, ↓reduceIte, Int.reduceEq, Int.reduceLE, Int.reduceLT, Int.reduceNe, Int.reduceToNat, Nat.reduceMul, Nat.reduceAdd, Nat.reduceLeDiff, Nat.reduceSub, Nat.reduceEqDiff, Nat.reduceBEq, List.nodup_cons, List.nodup_nil, List.mem_cons, List.not_mem_nil, List.mem_nil_iff]; done) | fail) (e : K r0 ⟨H.B, lputs H.l l0⟩ = q := by first | (simp (disch := first | omega | assumption | fail) only [go_sem, wrap_in, W, ↓reduceIte, Int.reduceEq, Int.reduceLE, Int.reduceLT, Int.reduceNe, Int.reduceToNat, Nat.reduceMul, Nat.reduceAdd, Nat.reduceLeDiff, Nat.reduceSub, Nat.reduceEqDiff, Nat.reduceBEq, List.nodup_cons, List.nodup_nil, List.mem_cons, List.not_mem_nil, List.mem_nil_iff]; rfl) | (simp (disch := first | omega | assumption | fail) only [go_sem, wrap_in, ↓reduceIte, Int.reduceEq, Int.reduceLE, Int.reduceLT, Int.reduceNe, Int.reduceToNat, Nat.reduceMul, Nat.reduceAdd, Nat.reduceLeDiff, Nat.reduceSub, Nat.reduceEqDiff, Nat.reduceBEq, List.nodup_cons, List.nodup_nil, List.mem_cons, List.not_mem_nil, List.mem_nil_iff]; rfl) | rfl | fail) : vCall P (.raw (.func (.func f) #[] #[])) args H K := vcall_raw h0 (hcall_fun hc h1 h2 h3 h4 h5 (e ▸ k))
/-- A call of a function that is handed nothing of one's own. -/
theorem cp {r0 : AV} (hc : PCall P f args r0) (k : q) (h0 : callable P f = true := by first | (simp (disch := first | omega | assumption | fail) only [go_sem, wrap_in, W, ↓reduceIte, Int.reduceEq, Int.reduceLE, Int.reduceLT, Int.reduceNe, Int.reduceToNat, Nat.reduceMul, Nat.reduceAdd, Nat.reduceLeDiff, Nat.reduceSub, Nat.reduceEqDiff, Nat.reduceBEq, List.nodup_cons, List.nodup_nil, List.mem_cons, List.not_mem_nil, List.mem_nil_iff]; done) | (simp (disch := first | omega | assumption | fail) only [go_sem, wrap_in, ↓reduceIte, Int.reduceEq, Int.reduceLE, Int.reduceLT, Int.reduceNe, Int.reduceToNat, Nat.reduceMul, Nat.reduceAdd, Nat.reduceLeDiff, Nat.reduceSub, Nat.reduceEqDiff, Nat.reduceBEq, List.nodup_cons, List.nodup_nil, List.mem_cons, List.not_mem_nil, List.mem_nil_iff]; done) | fail) (h2 : allL noQ args = true := by first | (simp (disch := first | omega | assumption | fail) only [go_sem, wrap_in, W, ↓reduceIte, Int.reduceEq, Int.reduceLE, Int.reduceLT, Int.reduceNe, Int.reduceToNat, Nat.reduceMul, Nat.reduceAdd, Nat.reduceLeDiff, Nat.reduceSub, Nat.reduceEqDiff, Nat.reduceBEq, List.nodup_cons, List.nodup_nil, List.mem_cons, List.not_mem_nil, List.mem_nil_iff]; done) | (simp (disch := first | omega | assumption | fail) only [go_sem, wrap_in, ↓reduceIte, Int.reduceEq, Int.reduceLE, Int.reduceLT, Int.reduceNe, Int.reduceToNat, Nat.reduceMul, Nat.reduceAdd, Nat.reduceLeDiff, Nat.reduceSub, Nat.reduceEqDiff, Nat.reduceBEq, List.nodup_cons, List.nodup_nil, List.mem_cons, List.not_mem_nil, List.mem_nil_iff]; done) | fail) (e : K r0 H = q := by first | (simp (disch := first | omega | assumption | fail) only [go_sem, wrap_in, W, ↓reduceIte, Int.reduceEq, Int.reduceLE, Int.reduceLT, Int.reduceNe, Int.reduceToNat, Nat.reduceMul, Nat.reduceAdd, Nat.reduceLeDiff, Nat.reduceSub, Nat.reduceEqDiff, Nat.reduceBEq, List.nodup_cons, List.nodup_nil, List.mem_cons, List.not_mem_nil, List.mem_nil_iff]; rfl) | (simp (disch := first | omega | assumption | fail) only [go_sem, wrap_in, ↓reduceIte, Int.reduceEq, Int.reduceLE, Int.reduceLT, Int.reduceNe, Int.reduceToNat, Nat.reduceMul, Nat.reduceAdd, Nat.reduceLeDiff, Nat.reduceSub, Nat.reduceEqDiff, Nat.reduceBEq, List.nodup_cons, List.nodup_nil, List.mem_cons, List.not_mem_nil, List.mem_nil_iff]; rfl) | rfl | fail) : vCall P (.raw (.func (.func f) #[] #[])) args H K := vcall_raw h0 (hcall_pure hc h2 (e ▸ k))
/-- Such a call under a guard. -/
theorem cg {g : Prop} {R : AV → Prop} {A : Prop} {r0 : AV} (hc : PCall P f args r0) (k : q) (h0 : callable P f = true := by first | (simp (disch := first | omega | assumption | fail) only [go_sem, wrap_in, W, ↓reduceIte, Int.reduceEq, Int.reduceLE, Int.reduceLT, Int.reduceNe, Int.reduceToNat, Nat.reduceMul, Nat.reduceAdd, Nat.reduceLeDiff, Nat.reduceSub, Nat.reduceEqDiff, Nat.reduceBEq, List.nodup_cons, List.nodup_nil, List.mem_cons, List.not_mem_nil, List.mem_nil_iff]; done) | (simp (disch := first | omega | assumption | fail) only [go_sem, wrap_in, ↓reduceIte, Int.reduceEq, Int.reduceLE, Int.reduceLT, Int.reduceNe, Int.reduceToNat, Nat.reduceMul, Nat.reduceAdd, Nat.reduceLeDiff, Nat.reduceSub, Nat.reduceEqDiff, Nat.reduceBEq, List.nodup_cons, List.nodup_nil, List.mem_cons, List.not_mem_nil, List.mem_nil_iff]; done) | fail) (h2 : allL noQ args = true := by first | (simp (disch := first | omega | assumption | fail) only [go_sem, wrap_in, W, ↓reduceIte, Int.reduceEq, Int.reduceLE, Int.reduceLT, Int.reduceNe, Int.reduceToNat, Nat.reduceMul, Nat.reduceAdd, Nat.reduceLeDiff, Nat.reduceSub, Nat.reduceEqDiff, Nat.reduceBEq, List.nodup_cons, List.nodup_nil, List.mem_cons, List.not_mem_nil, List.mem_nil_iff]; done) | (simp (disch := first | omega | assumption | fail) only [go_sem, wrap_in, ↓reduceIte, Int.reduceEq, Int.reduceLE, Int.reduceLT, Int.reduceNe, Int.reduceToNat, Nat.reduceMul, Nat.reduceAdd, Nat.reduceLeDiff, Nat.reduceSub, Nat.reduceEqDiff, Nat.reduceBEq, List.nodup_cons, List.nodup_nil, List.mem_cons, List.not_mem_nil, List.mem_nil_iff]; done) | fail) (hA : g → A := by first | exact id | (intro _; exact True.intro) | fail) (e : R r0 = q := by first | (simp (disch := first | omega | assumption | fail) only [go_sem, wrap_in, W, ↓reduceIte, Int.reduceEq, Int.reduceLE, Int.reduceLT, Int.reduceNe, Int.reduceToNat, Nat.reduceMul, Nat.reduceAdd, Nat.reduceLeDiff, Nat.reduceSub, Nat.reduceEqDiff, Nat.reduceBEq, List.nodup_cons, List.nodup_nil, List.mem_cons, List.not_mem_nil, List.mem_nil_iff]; rfl) | (simp (disch := first | omega | assumption | fail) only [go_sem, wrap_in, ↓reduceIte, Int.reduceEq, Int.reduceLE, Int.reduceLT, Int.reduceNe, Int.reduceToNat, Nat.reduceMul, Nat.reduceAdd, Nat.reduceLeDiff, Nat.reduceSub, Nat.reduceEqDiff, Nat.reduceBEq, List.nodup_cons, List.nodup_nil, List.mem_cons, List.not_mem_nil, List.mem_nil_iff]; rfl) | rfl | fail) :
    ∃ r, (g → A ∧ vCall P (.raw (.func (.func f) #[] #[])) args H fun r' H' => r' = r ∧ H' = H) ∧ R r := ⟨r0, fun hg => ⟨hA hg, vcall_raw h0 (hcall_pure hc h2 ⟨rfl, rfl⟩)⟩, e ▸ k⟩
theorem cg' {g : Prop} {R : AV → Prop} {r0 : AV} (hc : PCall P f args r0) (k : q) (h0 : callable P f = true := by first | (simp (disch := first | omega | assumption | fail) only [go_sem, wrap_in, W, ↓reduceIte, Int.reduceEq, Int.reduceLE, Int.reduceLT, Int.reduceNe, Int.reduceToNat, Nat.reduceMul, Nat.reduceAdd, Nat.reduceLeDiff, Nat.reduceSub, Nat.reduceEqDiff, Nat.reduceBEq, List.nodup_cons, List.nodup_nil, List.mem_cons, List.not_mem_nil, List.mem_nil_iff]; done) | (simp (disch := first | omega | assumption | fail) only [go_sem, wrap_in, ↓reduceIte, Int.reduceEq, Int.reduceLE, Int.reduceLT, Int.reduceNe, Int.reduceToNat, Nat.reduceMul, Nat.reduceAdd, Nat.reduceLeDiff, Nat.reduceSub, Nat.reduceEqDiff, Nat.reduceBEq, List.nodup_cons, List.nodup_nil, List.mem_cons, List.not_mem_nil, List.mem_nil_iff]; done) | fail) (h2 : allL noQ args = true := by first | (simp (disch := first | omega | assumption | fail) only [go_sem, wrap_in, W, ↓reduceIte, Int.reduceEq, Int.reduceLE, Int.reduceLT, Int.reduceNe, Int.reduceToNat, Nat.reduceMul, Nat.reduceAdd, Nat.reduceLeDiff, Nat.reduceSub, Nat.reduceEqDiff, Nat.reduceBEq, List.nodup_cons, List.nodup_nil, List.mem_cons, List.not_mem_nil, List.mem_nil_iff]; done) | (simp (disch := first | omega | assumption | fail) only [go_sem, wrap_in, ↓reduceIte, Int.reduceEq, Int.reduceLE, Int.reduceLT, Int.reduceNe, Int.reduceToNat, Nat.reduceMul, Nat.reduceAdd, Nat.reduceLeDiff, Nat.reduceSub, Nat.reduceEqDiff, Nat.reduceBEq, List.nodup_cons, List.nodup_nil, List.mem_cons, List.not_mem_nil, List.mem_nil_iff]; done) | fail) (e : R r0 = q := by first | (simp (disch := first | omega | assumption | fail) only [go_sem, wrap_in, W, ↓reduceIte, Int.reduceEq, Int.reduceLE, Int.reduceLT, Int.reduceNe, Int.reduceToNat, Nat.reduceMul, Nat.reduceAdd, Nat.reduceLeDiff, Nat.reduceSub, Nat.reduceEqDiff, Nat.reduceBEq, List.nodup_cons, List.nodup_nil, List.mem_cons, List.not_mem_nil, List.mem_nil_iff]; rfl) | (simp (disch := first | omega | assumption | fail) only [go_sem, wrap_in, ↓reduceIte, Int.reduceEq, Int.reduceLE, Int.reduceLT, Int.reduceNe, Int.reduceToNat, Nat.reduceMul, Nat.reduceAdd, Nat.reduceLeDiff, Nat.reduceSub, Nat.reduceEqDiff, Nat.reduceBEq, List.nodup_cons, List.nodup_nil, List.mem_cons, List.not_mem_nil, List.mem_nil_iff]; rfl) | rfl | fail) :
    ∃ r, (g → vCall P (.raw (.func (.func f) #[] #[])) args H fun r' H' => r' = r ∧ H' = H) ∧ R r := ⟨r0, fun _ => vcall_raw h0 (hcall_pure hc h2 ⟨rfl, rfl⟩), e ▸ k⟩
end
/-- The same things, in another order. -/
theorem FLe.perm {F : List AV} {B : List Nat} {l : List (Nat × Row)} (l' : List (Nat × Row)) (h : ∀ i, lget l i = lget l' i) : FLe F ⟨B, l⟩ F ⟨B, l'⟩ := fun w tm h1 h2 => by
  have hg : ∀ i, (Hp.mk B l').get i = (Hp.mk B l).get i := fun i => (h i).symm
  exact ⟨w, rfl, { rows := fun i r hi => h1.rows i r ((hg i) ▸ hi), dom := fun i m z hz => by rw [hg]; exact h1.dom i m z hz, inj := h1.inj, own := h1.own, fin := h1.fin, glob := h1.glob }, h2, { ExtQ.refl _ w with base := rfl }⟩
/-- A new variable, under a number of one's choice. -/
theorem al {P : Program} (i : Nat) {t : TypeId} {H : Hp} {K : AV → Hp → Prop} {zs : List Value} {q : Prop} (k : q) (hi : H.get i = none := by rfl) (hz : zeroL P t = some zs := by (simp only [go_sem]; rfl)) (e : K (.pt i 0 0 0) (H.put i (.var t (zs.map .raw))) = q := by first | (simp (disch := first | omega | assumption | fail) only [go_sem, wrap_in, W, ↓reduceIte, Int.reduceEq, Int.reduceLE, Int.reduceLT, Int.reduceNe, Int.reduceToNat, Nat.reduceMul, Nat.reduceAdd, Nat.reduceLeDiff, Nat.reduceSub, Nat.reduceEqDiff, Nat.reduceBEq, List.nodup_cons, List.nodup_nil, List.mem_cons, List.not_mem_nil, List.mem_nil_iff]; rfl) | (simp (disch := first | omega | assumption | fail) only [go_sem, wrap_in, ↓reduceIte, Int.reduceEq, Int.reduceLE, Int.reduceLT, Int.reduceNe, Int.reduceToNat, Nat.reduceMul, Nat.reduceAdd, Nat.reduceLeDiff, Nat.reduceSub, Nat.reduceEqDiff, Nat.reduceBEq, List.nodup_cons, List.nodup_nil, List.mem_cons, List.not_mem_nil, List.mem_nil_iff]; rfl) | rfl | fail) : vAlloc P H t K := vAlloc_intro i hz hi (e ▸ k)
theorem bx (i : Nat) {t : TypeId} {x : AV} {H : Hp} {K : AV → Hp → Prop} {q : Prop} (k : q) (hi : H.get i = none := by rfl) (ho : ones x.cells = true := by simp only [go_sem]) (e : K (.pt i 0 0 0) (H.put i (.var t x.cells)) = q := by first | (simp (disch := first | omega | assumption | fail) only [go_sem, wrap_in, W, ↓reduceIte, Int.reduceEq, Int.reduceLE, Int.reduceLT, Int.reduceNe, Int.reduceToNat, Nat.reduceMul, Nat.reduceAdd, Nat.reduceLeDiff, Nat.reduceSub, Nat.reduceEqDiff, Nat.reduceBEq, List.nodup_cons, List.nodup_nil, List.mem_cons, List.not_mem_nil, List.mem_nil_iff]; rfl) | (simp (disch := first | omega | assumption | fail) only [go_sem, wrap_in, ↓reduceIte, Int.reduceEq, Int.reduceLE, Int.reduceLT, Int.reduceNe, Int.reduceToNat, Nat.reduceMul, Nat.reduceAdd, Nat.reduceLeDiff, Nat.reduceSub, Nat.reduceEqDiff, Nat.reduceBEq, List.nodup_cons, List.nodup_nil, List.mem_cons, List.not_mem_nil, List.mem_nil_iff]; rfl) | rfl | fail) : vBox H t x K := vBox_intro i ho hi (e ▸ k)
theorem ap_over {α : Type} {enc : α → List AV} (vars more ys : List α) {i : Nat} {t : TypeId} {m sz n : Nat} {css yss : List (List AV)} {H : Hp} {K : AV → Hp → Prop} {q : Prop} (k : q) (hm : m = vars.length + more.length := by first | rfl | (simp only [go_sem]; done) | omega) (hn : n = vars.length := by rfl) (hc : css = (vars ++ more).map enc := by first | rfl | exact List.map_append.symm | (simp only [go_sem, List.map_append]; done)) (hy : yss = ys.map enc := by rfl)
  (e : K (.rs i (vars.length + ys.length + (more.drop ys.length).length) sz (vars.length + ys.length)) (H.put i (.vec t sz ((vars ++ ys ++ more.drop ys.length).map enc))) = q := by first | (simp (disch := first | omega | assumption | fail) only [go_sem, wrap_in, W, ↓reduceIte, Int.reduceEq, Int.reduceLE, Int.reduceLT, Int.reduceNe, Int.reduceToNat, Nat.reduceMul, Nat.reduceAdd, Nat.reduceLeDiff, Nat.reduceSub, Nat.reduceEqDiff, Nat.reduceBEq, List.nodup_cons, List.nodup_nil, List.mem_cons, List.not_mem_nil, List.mem_nil_iff]; rfl) | (simp (disch := first | omega | assumption | fail) only [go_sem, wrap_in, ↓reduceIte, Int.reduceEq, Int.reduceLE, Int.reduceLT, Int.reduceNe, Int.reduceToNat, Nat.reduceMul, Nat.reduceAdd, Nat.reduceLeDiff, Nat.reduceSub, Nat.reduceEqDiff, Nat.reduceBEq, List.nodup_cons, List.nodup_nil, List.mem_cons, List.not_mem_nil, List.mem_nil_iff]; rfl) | rfl | fail) : vAppRs i t m sz n css yss H K := vAppRs_over vars more ys hm hn hc hy (e ▸ k)
section
variable {P : Program} {Q : Exit → List AV → Hp → Prop} {F : List AV} {H : Hp}
/-- Regions that leave their order open. -/
theorem dE (id : Nat) {l : List Oper} {q : Prop} (ord : List Nat) (hm : P.follows .mixedOrders = true) (h : q) (hok : effOK [] [] l ord = true := by decide +kernel) (e : vclE [] P l.toArray (Q .normal) (ord.map (atO l)) F H = q := by (simp only [List.map_cons, List.map_nil, atO, List.getD_cons_zero, List.getD_cons_succ]; first | (simp (disch := first | omega | assumption | fail) only [go_sem, wrap_in, W, ↓reduceIte, Int.reduceEq, Int.reduceLE, Int.reduceLT, Int.reduceNe, Int.reduceToNat, Nat.reduceMul, Nat.reduceAdd, Nat.reduceLeDiff, Nat.reduceSub, Nat.reduceEqDiff, Nat.reduceBEq, List.nodup_cons, List.nodup_nil, List.mem_cons, List.not_mem_nil, List.mem_nil_iff]; rfl) | (simp (disch := first | omega | assumption | fail) only [go_sem, wrap_in, ↓reduceIte, Int.reduceEq, Int.reduceLE, Int.reduceLT, Int.reduceNe, Int.reduceToNat, Nat.reduceMul, Nat.reduceAdd, Nat.reduceLeDiff, Nat.reduceSub, Nat.reduceEqDiff, Nat.reduceBEq, List.nodup_cons, List.nodup_nil, List.mem_cons, List.not_mem_nil, List.mem_nil_iff]; rfl) | rfl | fail)) : AWP P (.region id l.toArray true) Q F H := awp_region_eff ord hm hok (e ▸ h)
theorem dA (id : Nat) {l : List Oper} {q : Prop} (A ord : List Nat) (hm : P.follows .mixedOrders = true) (h : q) (hok : effOK A [] l ord = true := by decide +kernel) (e : vclE A P l.toArray (Q .normal) (ord.map (atO l)) F H = q := by (simp only [List.map_cons, List.map_nil, atO, List.getD_cons_zero, List.getD_cons_succ]; first | (simp (disch := first | omega | assumption | fail) only [go_sem, wrap_in, W, ↓reduceIte, Int.reduceEq, Int.reduceLE, Int.reduceLT, Int.reduceNe, Int.reduceToNat, Nat.reduceMul, Nat.reduceAdd, Nat.reduceLeDiff, Nat.reduceSub, Nat.reduceEqDiff, Nat.reduceBEq, List.nodup_cons, List.nodup_nil, List.mem_cons, List.not_mem_nil, List.mem_nil_iff]; rfl) | (simp (disch := first | omega | assumption | fail) only [go_sem, wrap_in, ↓reduceIte, Int.reduceEq, Int.reduceLE, Int.reduceLT, Int.reduceNe, Int.reduceToNat, Nat.reduceMul, Nat.reduceAdd, Nat.reduceLeDiff, Nat.reduceSub, Nat.reduceEqDiff, Nat.reduceBEq, List.nodup_cons, List.nodup_nil, List.mem_cons, List.not_mem_nil, List.mem_nil_iff]; rfl) | rfl | fail)) : AWP P (.region id l.toArray true) Q F H := awp_region_effA A ord hm hok (e ▸ h)
theorem dL (id : Nat) {l : List Oper} {q : Prop} (A E ord : List Nat) (hm : P.follows .mixedOrders = true) (h : q) (hok : effOK A E l ord = true := by decide +kernel) (hE : earlyZ P l E := by simp only [earlyZ, atO, List.getD_cons_zero, List.getD_cons_succ, go_sem]) (e : vclE A P l.toArray (Q .normal) (ord.map (atO l)) F H = q := by (simp only [List.map_cons, List.map_nil, atO, List.getD_cons_zero, List.getD_cons_succ]; first | (simp (disch := first | omega | assumption | fail) only [go_sem, wrap_in, W, ↓reduceIte, Int.reduceEq, Int.reduceLE, Int.reduceLT, Int.reduceNe, Int.reduceToNat, Nat.reduceMul, Nat.reduceAdd, Nat.reduceLeDiff, Nat.reduceSub, Nat.reduceEqDiff, Nat.reduceBEq, List.nodup_cons, List.nodup_nil, List.mem_cons, List.not_mem_nil, List.mem_nil_iff]; rfl) | (simp (disch := first | omega | assumption | fail) only [go_sem, wrap_in, ↓reduceIte, Int.reduceEq, Int.reduceLE, Int.reduceLT, Int.reduceNe, Int.reduceToNat, Nat.reduceMul, Nat.reduceAdd, Nat.reduceLeDiff, Nat.reduceSub, Nat.reduceEqDiff, Nat.reduceBEq, List.nodup_cons, List.nodup_nil, List.mem_cons, List.not_mem_nil, List.mem_nil_iff]; rfl) | rfl | fail)) : AWP P (.region id l.toArray true) Q F H := awp_region_effE A E ord hm hok hE (e ▸ h)
theorem dQ (id : Nat) {l : List Oper} {q : Prop} (hm : P.follows .mixedOrders = true) (h : q) (hok : drawOK l = true := by decide +kernel) (e : vclQ P l.toArray H (fun F' => Q .normal F' H) l F = q := by first | (simp (disch := first | omega | assumption | fail) only [go_sem, wrap_in, W, ↓reduceIte, Int.reduceEq, Int.reduceLE, Int.reduceLT, Int.reduceNe, Int.reduceToNat, Nat.reduceMul, Nat.reduceAdd, Nat.reduceLeDiff, Nat.reduceSub, Nat.reduceEqDiff, Nat.reduceBEq, List.nodup_cons, List.nodup_nil, List.mem_cons, List.not_mem_nil, List.mem_nil_iff]; rfl) | (simp (disch := first | omega | assumption | fail) only [go_sem, wrap_in, ↓reduceIte, Int.reduceEq, Int.reduceLE, Int.reduceLT, Int.reduceNe, Int.reduceToNat, Nat.reduceMul, Nat.reduceAdd, Nat.reduceLeDiff, Nat.reduceSub, Nat.reduceEqDiff, Nat.reduceBEq, List.nodup_cons, List.nodup_nil, List.mem_cons, List.not_mem_nil, List.mem_nil_iff]; rfl) | rfl | fail) : AWP P (.region id l.toArray true) Q F H := awp_region_draw hm hok (e ▸ h)
/-- A slot's thing of one's own is given up: read from then on. -/
theorem awp_thaw {c : Code} (L : List Nat) (slot : Nat) (a : AV) (hB : H.B.all (notQ fun i => L.contains i) = true) (hl : stay (fun i => L.contains i) H.l) (hv : VToL (fun i => L.contains i) H F (F.set slot a)) (h : AWP P c Q (F.set slot a) ⟨H.B, ldelS (fun i => L.contains i) H.l⟩) : AWP P c Q F H := awp_weak (FLe.free _ hB hl hv) h
/-- Things of one's own are given up ahead of a step. -/
theorem awp_thaw1 {c : Code} (L : List Nat) (W : List (Nat × Nat)) (J : List (Nat × AV)) (h0 : (L.any fun i => (H.get i).isSome) = true) (hB : H.B.all (notQ fun i => L.contains i) = true) (hl : stay (fun i => L.contains i) H.l) (hv : VToL (fun i => L.contains i) H F (sets J (mask W F))) (h : AWP P c Q (sets J (mask W F)) ⟨H.B, ldelS (fun i => L.contains i) H.l⟩) : AWP P c Q F H := awp_weak (FLe.free _ hB hl hv) h
end
theorem heq_ {H H' : Hp} (e : H = H' := by first | (simp only [go_sem]; done) | (simp only [go_sem]; rfl) | rfl | fail) : H = H' := e
theorem lle {F F' : List AV} (e : LLe F F' := by (simp only [go_sem, LLe, Nat.reduceAdd, AV.raw.injEq, Value.int.injEq, Value.slice.injEq, Value.pointer.injEq, AV.rs.injEq]; try omega)) : LLe F F' := e
theorem vtl {D : Nat → Bool} {H : Hp} {l m : List AV} (e : VToL D H l m := by (simp only [go_sem, ↓reduceIte, Int.reduceEq, Int.reduceLE, Int.reduceLT, Int.reduceNe, Int.reduceToNat, Nat.reduceMul, Nat.reduceAdd, Nat.reduceLeDiff, Nat.reduceSub, Nat.reduceEqDiff, Nat.reduceBEq, List.nodup_cons, List.nodup_nil, List.mem_cons, List.not_mem_nil, List.mem_nil_iff]; repeat' (first | exact True.intro | exact vto_any _ | exact VTo.nil _ _ | exact VTo.lit _ _ _ _ _ | exact VTo.same _ rfl | (exact VTo.same _ (by simp only [go_sem, ↓reduceIte, Int.reduceEq, Int.reduceLE, Int.reduceLT, Int.reduceNe, Int.reduceToNat, Nat.reduceMul, Nat.reduceAdd, Nat.reduceLeDiff, Nat.reduceSub, Nat.reduceEqDiff, Nat.reduceBEq, List.nodup_cons, List.nodup_nil, List.mem_cons, List.not_mem_nil, List.mem_nil_iff])) | (exact VTo.row _ (by first | rfl | (simp only [go_sem, ↓reduceIte, Int.reduceEq, Int.reduceLE, Int.reduceLT, Int.reduceNe, Int.reduceToNat, Nat.reduceMul, Nat.reduceAdd, Nat.reduceLeDiff, Nat.reduceSub, Nat.reduceEqDiff, Nat.reduceBEq, List.nodup_cons, List.nodup_nil, List.mem_cons, List.not_mem_nil, List.mem_nil_iff]; done)) (by first | (simp only [go_sem, ↓reduceIte, Int.reduceEq, Int.reduceLE, Int.reduceLT, Int.reduceNe, Int.reduceToNat, Nat.reduceMul, Nat.reduceAdd, Nat.reduceLeDiff, Nat.reduceSub, Nat.reduceEqDiff, Nat.reduceBEq, List.nodup_cons, List.nodup_nil, List.mem_cons, List.not_mem_nil, List.mem_nil_iff]; done) | rfl | (simp only [go_sem, ↓reduceIte, Int.reduceEq, Int.reduceLE, Int.reduceLT, Int.reduceNe, Int.reduceToNat, Nat.reduceMul, Nat.reduceAdd, Nat.reduceLeDiff, Nat.reduceSub, Nat.reduceEqDiff, Nat.reduceBEq, List.nodup_cons, List.nodup_nil, List.mem_cons, List.not_mem_nil, List.mem_nil_iff]; rfl)) (by first | rfl | (simp only [go_sem]; done) | omega)) | refine And.intro ?_ ?_ | fail))) : VToL D H l m := e
theorem awp_thaw2 {P : Program} {id : Nat} {l : List Oper} {b : Bool} {Q : Exit → List AV → Hp → Prop} {F : List AV} {H : Hp} {q : Prop} (L : List Nat) (W : List (Nat × Nat)) (J : List (Nat × AV)) (h : q) (h0 : (L.any fun i => (H.get i).isSome) = true := by rfl) (hB : H.B.all (notQ fun i => L.contains i) = true := by first | (simp (disch := first | omega | assumption | fail) only [go_sem, wrap_in, W, ↓reduceIte, Int.reduceEq, Int.reduceLE, Int.reduceLT, Int.reduceNe, Int.reduceToNat, Nat.reduceMul, Nat.reduceAdd, Nat.reduceLeDiff, Nat.reduceSub, Nat.reduceEqDiff, Nat.reduceBEq, List.nodup_cons, List.nodup_nil, List.mem_cons, List.not_mem_nil, List.mem_nil_iff]; done) | (simp (disch := first | omega | assumption | fail) only [go_sem, wrap_in, ↓reduceIte, Int.reduceEq, Int.reduceLE, Int.reduceLT, Int.reduceNe, Int.reduceToNat, Nat.reduceMul, Nat.reduceAdd, Nat.reduceLeDiff, Nat.reduceSub, Nat.reduceEqDiff, Nat.reduceBEq, List.nodup_cons, List.nodup_nil, List.mem_cons, List.not_mem_nil, List.mem_nil_iff]; done) | fail) (hl : stay (fun i => L.contains i) H.l := by first | (simp (disch := first | omega | assumption | fail) only [go_sem, wrap_in, W, ↓reduceIte, Int.reduceEq, Int.reduceLE, Int.reduceLT, Int.reduceNe, Int.reduceToNat, Nat.reduceMul, Nat.reduceAdd, Nat.reduceLeDiff, Nat.reduceSub, Nat.reduceEqDiff, Nat.reduceBEq, List.nodup_cons, List.nodup_nil, List.mem_cons, List.not_mem_nil, List.mem_nil_iff]; done) | (simp (disch := first | omega | assumption | fail) only [go_sem, wrap_in, ↓reduceIte, Int.reduceEq, Int.reduceLE, Int.reduceLT, Int.reduceNe, Int.reduceToNat, Nat.reduceMul, Nat.reduceAdd, Nat.reduceLeDiff, Nat.reduceSub, Nat.reduceEqDiff, Nat.reduceBEq, List.nodup_cons, List.nodup_nil, List.mem_cons, List.not_mem_nil, List.mem_nil_iff]; done) | fail)
  (hv : VToL (fun i => L.contains i) H F (sets J (mask W F)) := by exact vtl) (e : AWP P (.region id l.toArray b) Q (sets J (mask W F)) ⟨H.B, ldelS (fun i => L.contains i) H.l⟩ = q := by first | (simp (disch := first | omega | assumption | fail) only [go_sem, wrap_in, W, ↓reduceIte, Int.reduceEq, Int.reduceLE, Int.reduceLT, Int.reduceNe, Int.reduceToNat, Nat.reduceMul, Nat.reduceAdd, Nat.reduceLeDiff, Nat.reduceSub, Nat.reduceEqDiff, Nat.reduceBEq, List.nodup_cons, List.nodup_nil, List.mem_cons, List.not_mem_nil, List.mem_nil_iff]; rfl) | (simp (disch := first | omega | assumption | fail) only [go_sem, wrap_in, ↓reduceIte, Int.reduceEq, Int.reduceLE, Int.reduceLT, Int.reduceNe, Int.reduceToNat, Nat.reduceMul, Nat.reduceAdd, Nat.reduceLeDiff, Nat.reduceSub, Nat.reduceEqDiff, Nat.reduceBEq, List.nodup_cons, List.nodup_nil, List.mem_cons, List.not_mem_nil, List.mem_nil_iff]; rfl) | rfl | fail) : AWP P (.region id l.toArray b) Q F H := awp_thaw1 L W J h0 hB hl hv (e ▸ h)
/-- A function entered. -/
theorem entP {P : Program} {f : FuncId} {fn : Func} {c : Code} {args : List AV} {r : AV} {k : Nat} (hf : P.funcs[f]? = some fn) (hn : fn.ntmps = k) {F : List AV} (h : AWP P c (ARet P fn fun r' l' => r' = r ∧ l' = []) F ⟨[], []⟩) (hb : fn.body = some c := by rfl)
  (hF : args ++ List.replicate (k - args.length) .any = F := by (simp only [List.length_cons, List.length_nil, Nat.reduceAdd, Nat.reduceSub, List.replicate, List.cons_append, List.nil_append]; rfl)) : PCall P f args r := pcall_enter hf hb (by rw [hn]; exact hF) h
theorem entM {P : Program} {f : FuncId} {fn : Func} {c : Code} {args : List AV} {l : List (Nat × Row)} {R : AV → List (Nat × Row) → Prop} {k : Nat} (hf : P.funcs[f]? = some fn) (hn : fn.ntmps = k) {F : List AV} {L : List Nat} (h : AWP P c (ARet P fn R) F ⟨L, l⟩) (hb : fn.body = some c := by rfl) (hL : ids l = L := by rfl)
  (hF : args ++ List.replicate (k - args.length) .any = F := by (simp only [List.length_cons, List.length_nil, Nat.reduceAdd, Nat.reduceSub, List.replicate, List.cons_append, List.nil_append]; rfl)) : ACalls P f args l R := acalls_enter hf hb (by rw [hn]; exact hF) hL h
section
variable {P : Program} {fn : Func} {F : List AV} {H : Hp} {out : List AV} {e : Exit} {r : AV} {l : List (Nat × Row)}
/-- A function left. -/
theorem retf (rs : List ResultVar) (h1 : aresult out = r) (h2 : H.l = l) (hrs : fn.results.toList = rs := by rfl) (he : e = .normal ∨ e = .ret := by first | exact Or.inr rfl | exact Or.inl rfl | fail) (ho : ares P H F rs = some out := by (simp only [go_sem, ↓reduceIte, Int.reduceEq, Int.reduceLE, Int.reduceLT, Int.reduceNe, Int.reduceToNat, Nat.reduceMul, Nat.reduceAdd, Nat.reduceLeDiff, Nat.reduceSub, Nat.reduceEqDiff, Nat.reduceBEq, List.nodup_cons, List.nodup_nil, List.mem_cons, List.not_mem_nil, List.mem_nil_iff]; rfl)) (hok : aresOK P H F rs := by simp only [go_sem, ↓reduceIte, Int.reduceEq, Int.reduceLE, Int.reduceLT, Int.reduceNe, Int.reduceToNat, Nat.reduceMul, Nat.reduceAdd, Nat.reduceLeDiff, Nat.reduceSub, Nat.reduceEqDiff, Nat.reduceBEq, List.nodup_cons, List.nodup_nil, List.mem_cons, List.not_mem_nil, List.mem_nil_iff]) :
    ARet P fn (fun r' l' => r' = r ∧ l' = l) e F H := ret_fun2 rs hrs he ho hok h1 h2
/-- It is left, and what is one's own is let go of. -/
theorem retd (rs : List ResultVar) (hv : aresult out = r) (hrs : fn.results.toList = rs := by rfl) (he : e = .normal ∨ e = .ret := by first | exact Or.inr rfl | exact Or.inl rfl | fail) (ho : ares P H F rs = some out := by (simp only [go_sem, ↓reduceIte, Int.reduceEq, Int.reduceLE, Int.reduceLT, Int.reduceNe, Int.reduceToNat, Nat.reduceMul, Nat.reduceAdd, Nat.reduceLeDiff, Nat.reduceSub, Nat.reduceEqDiff, Nat.reduceBEq, List.nodup_cons, List.nodup_nil, List.mem_cons, List.not_mem_nil, List.mem_nil_iff]; rfl)) (hok : aresOK P H F rs := by simp only [go_sem, ↓reduceIte, Int.reduceEq, Int.reduceLE, Int.reduceLT, Int.reduceNe, Int.reduceToNat, Nat.reduceMul, Nat.reduceAdd, Nat.reduceLeDiff, Nat.reduceSub, Nat.reduceEqDiff, Nat.reduceBEq, List.nodup_cons, List.nodup_nil, List.mem_cons, List.not_mem_nil, List.mem_nil_iff]) (hl : stay (mineQ H.B) H.l := by first | (simp (disch := first | omega | assumption | fail) only [go_sem, wrap_in, W, ↓reduceIte, Int.reduceEq, Int.reduceLE, Int.reduceLT, Int.reduceNe, Int.reduceToNat, Nat.reduceMul, Nat.reduceAdd, Nat.reduceLeDiff, Nat.reduceSub, Nat.reduceEqDiff, Nat.reduceBEq, List.nodup_cons, List.nodup_nil, List.mem_cons, List.not_mem_nil, List.mem_nil_iff]; done) | (simp (disch := first | omega | assumption | fail) only [go_sem, wrap_in, ↓reduceIte, Int.reduceEq, Int.reduceLE, Int.reduceLT, Int.reduceNe, Int.reduceToNat, Nat.reduceMul, Nat.reduceAdd, Nat.reduceLeDiff, Nat.reduceSub, Nat.reduceEqDiff, Nat.reduceBEq, List.nodup_cons, List.nodup_nil, List.mem_cons, List.not_mem_nil, List.mem_nil_iff]; done) | fail)
  (hq : (aresult out).all (notQ (mineQ H.B)) = true := by first | (simp (disch := first | omega | assumption | fail) only [go_sem, wrap_in, W, ↓reduceIte, Int.reduceEq, Int.reduceLE, Int.reduceLT, Int.reduceNe, Int.reduceToNat, Nat.reduceMul, Nat.reduceAdd, Nat.reduceLeDiff, Nat.reduceSub, Nat.reduceEqDiff, Nat.reduceBEq, List.nodup_cons, List.nodup_nil, List.mem_cons, List.not_mem_nil, List.mem_nil_iff]; done) | (simp (disch := first | omega | assumption | fail) only [go_sem, wrap_in, ↓reduceIte, Int.reduceEq, Int.reduceLE, Int.reduceLT, Int.reduceNe, Int.reduceToNat, Nat.reduceMul, Nat.reduceAdd, Nat.reduceLeDiff, Nat.reduceSub, Nat.reduceEqDiff, Nat.reduceBEq, List.nodup_cons, List.nodup_nil, List.mem_cons, List.not_mem_nil, List.mem_nil_iff]; done) | fail) (h2 : ldelS (mineQ H.B) H.l = l := by first | rfl | (first | (simp (disch := first | omega | assumption | fail) only [go_sem, wrap_in, W, ↓reduceIte, Int.reduceEq, Int.reduceLE, Int.reduceLT, Int.reduceNe, Int.reduceToNat, Nat.reduceMul, Nat.reduceAdd, Nat.reduceLeDiff, Nat.reduceSub, Nat.reduceEqDiff, Nat.reduceBEq, List.nodup_cons, List.nodup_nil, List.mem_cons, List.not_mem_nil, List.mem_nil_iff]; done) | (simp (disch := first | omega | assumption | fail) only [go_sem, wrap_in, ↓reduceIte, Int.reduceEq, Int.reduceLE, Int.reduceLT, Int.reduceNe, Int.reduceToNat, Nat.reduceMul, Nat.reduceAdd, Nat.reduceLeDiff, Nat.reduceSub, Nat.reduceEqDiff, Nat.reduceBEq, List.nodup_cons, List.nodup_nil, List.mem_cons, List.not_mem_nil, List.mem_nil_iff]; done) | fail) | (simp only [go_sem, ↓reduceIte, Int.reduceEq, Int.reduceLE, Int.reduceLT, Int.reduceNe, Int.reduceToNat, Nat.reduceMul, Nat.reduceAdd, Nat.reduceLeDiff, Nat.reduceSub, Nat.reduceEqDiff, Nat.reduceBEq, List.nodup_cons, List.nodup_nil, List.mem_cons, List.not_mem_nil, List.mem_nil_iff]; rfl) | fail) : ARet P fn (fun r' l' => r' = r ∧ l' = l) e F H := ret_drop2 rs hrs he ho hok hl (vto_eq hv hq) h2
theorem retv (rs : List ResultVar) (hv : VTo (mineQ H.B) H (aresult out) r) (hrs : fn.results.toList = rs := by rfl) (he : e = .normal ∨ e = .ret := by first | exact Or.inr rfl | exact Or.inl rfl | fail) (ho : ares P H F rs = some out := by (simp only [go_sem, ↓reduceIte, Int.reduceEq, Int.reduceLE, Int.reduceLT, Int.reduceNe, Int.reduceToNat, Nat.reduceMul, Nat.reduceAdd, Nat.reduceLeDiff, Nat.reduceSub, Nat.reduceEqDiff, Nat.reduceBEq, List.nodup_cons, List.nodup_nil, List.mem_cons, List.not_mem_nil, List.mem_nil_iff]; rfl)) (hok : aresOK P H F rs := by simp only [go_sem, ↓reduceIte, Int.reduceEq, Int.reduceLE, Int.reduceLT, Int.reduceNe, Int.reduceToNat, Nat.reduceMul, Nat.reduceAdd, Nat.reduceLeDiff, Nat.reduceSub, Nat.reduceEqDiff, Nat.reduceBEq, List.nodup_cons, List.nodup_nil, List.mem_cons, List.not_mem_nil, List.mem_nil_iff]) (hl : stay (mineQ H.B) H.l := by first | (simp (disch := first | omega | assumption | fail) only [go_sem, wrap_in, W, ↓reduceIte, Int.reduceEq, Int.reduceLE, Int.reduceLT, Int.reduceNe, Int.reduceToNat, Nat.reduceMul, Nat.reduceAdd, Nat.reduceLeDiff, Nat.reduceSub, Nat.reduceEqDiff, Nat.reduceBEq, List.nodup_cons, List.nodup_nil, List.mem_cons, List.not_mem_nil, List.mem_nil_iff]; done) | (simp (disch := first | omega | assumption | fail) only [go_sem, wrap_in, ↓reduceIte, Int.reduceEq, Int.reduceLE, Int.reduceLT, Int.reduceNe, Int.reduceToNat, Nat.reduceMul, Nat.reduceAdd, Nat.reduceLeDiff, Nat.reduceSub, Nat.reduceEqDiff, Nat.reduceBEq, List.nodup_cons, List.nodup_nil, List.mem_cons, List.not_mem_nil, List.mem_nil_iff]; done) | fail)
  (h2 : ldelS (mineQ H.B) H.l = l := by first | rfl | (first | (simp (disch := first | omega | assumption | fail) only [go_sem, wrap_in, W, ↓reduceIte, Int.reduceEq, Int.reduceLE, Int.reduceLT, Int.reduceNe, Int.reduceToNat, Nat.reduceMul, Nat.reduceAdd, Nat.reduceLeDiff, Nat.reduceSub, Nat.reduceEqDiff, Nat.reduceBEq, List.nodup_cons, List.nodup_nil, List.mem_cons, List.not_mem_nil, List.mem_nil_iff]; done) | (simp (disch := first | omega | assumption | fail) only [go_sem, wrap_in, ↓reduceIte, Int.reduceEq, Int.reduceLE, Int.reduceLT, Int.reduceNe, Int.reduceToNat, Nat.reduceMul, Nat.reduceAdd, Nat.reduceLeDiff, Nat.reduceSub, Nat.reduceEqDiff, Nat.reduceBEq, List.nodup_cons, List.nodup_nil, List.mem_cons, List.not_mem_nil, List.mem_nil_iff]; done) | fail) | (simp only [go_sem, ↓reduceIte, Int.reduceEq, Int.reduceLE, Int.reduceLT, Int.reduceNe, Int.reduceToNat, Nat.reduceMul, Nat.reduceAdd, Nat.reduceLeDiff, Nat.reduceSub, Nat.reduceEqDiff, Nat.reduceBEq, List.nodup_cons, List.nodup_nil, List.mem_cons, List.not_mem_nil, List.mem_nil_iff]; rfl) | fail) : ARet P fn (fun r' l' => r' = r ∧ l' = l) e F H := ret_drop2 rs hrs he ho hok hl hv h2
end
end Go.Gd

namespace Go.Gd
open Go Go.ChangeShapes Go.WideShapes Go.ChangeAt Go.RowKit Go.Deep
/-- A world in which nothing is one's own. -/
@[reducible] def n0 (w : World) : NW := { toWorld := w, O := fun _ => False, nm := fun _ _ => none }

/-- Whatever is read as a t is one of these rows of cells. -/
def Dec (P : Program) (t : TypeId) (S : List AV → Prop) : Prop :=
  ∀ (T : Type) (enc : TypeId × Value → T) (w : World) (fuel : Nat) (cs : List Value) (x : DataW T × List MemPlace),
    DataW.trod enc P w 0 (fun _ => true) true fuel t cs = some x → ∃ us, S us ∧ RelL (n0 w) us cs
section
variable {P : Program} {t : TypeId}
theorem Dec.mono {S S' : List AV → Prop} (h : Dec P t S) (hs : ∀ us, S us → S' us) : Dec P t S' := fun T enc w fuel cs x hx => by
  obtain ⟨us, h1, h2⟩ := h T enc w fuel cs x hx
  exact ⟨us, hs us h1, h2⟩
theorem relL_one {w : NW} {a : AV} {v : Value} (h : RelV w a v) : RelL w [a] [v] := ⟨rfl, fun i b u hb hu => by
  cases i with
  | zero => simp at hb hu; subst hb hu; exact h
  | succ i => simp at hb⟩
theorem relL_cons {w : NW} {a : AV} {v : Value} {us : List AV} {vs : List Value} (h : RelV w a v) (hs : RelL w us vs) : RelL w (a :: us) (v :: vs) := ⟨by simp [hs.1], fun i b u hb hu => by
  cases i with
  | zero => simp at hb hu; subst hb hu; exact h
  | succ i => exact hs.2 i b u (by simpa using hb) (by simpa using hu)⟩
theorem dec_int {k : IntKind} (ht : P.underlying t = some (.int k)) : Dec P t (fun us => ∃ n : Int, (Lit.int k n).wf = true ∧ us = [.raw (.int k n)]) := fun T enc w fuel cs x hx => by
  obtain ⟨n, rfl, _, hwf⟩ := DataW.trod_int ht hx
  exact ⟨_, ⟨n, hwf, rfl⟩, relL_one (.raw _)⟩
theorem dec_string (ht : P.underlying t = some .string) : Dec P t (fun us => ∃ s : ByteArray, us = [.raw (.string s)]) := fun T enc w fuel cs x hx => by
  obtain ⟨n, rfl, _, hwf⟩ := DataW.trod_string ht hx
  exact ⟨_, ⟨n, rfl⟩, relL_one (.raw _)⟩
theorem dec_bool (ht : P.underlying t = some .bool) : Dec P t (fun us => ∃ b : Bool, us = [.raw (.bool b)]) := fun T enc w fuel cs x hx => by
  obtain ⟨n, rfl, _⟩ := DataW.trod_bool ht hx
  exact ⟨_, ⟨n, rfl⟩, relL_one (.raw _)⟩

def SFields : List (List AV → Prop) → List AV → Prop
  | [], us => us = []
  | S :: Ss, us => ∃ a b, S a ∧ SFields Ss b ∧ us = a ++ b
def DecAll (P : Program) : List Field → List (List AV → Prop) → Prop
  | [], [] => True
  | f :: l, S :: Ss => Dec P f.type S ∧ DecAll P l Ss
  | _, _ => False
def offsOK (P : Program) : List Field → Nat → Nat → Bool
  | [], o, n => o == n
  | f :: l, o, n => f.offset == o && offsOK P l (o + P.cellsOf f.type) n
theorem relL_append {w : NW} {us vs : List AV} {cs : List Value} {o n : Nat} (h1 : RelL w us ((cs.drop o).take n)) (h2 : RelL w vs (cs.drop (o + n))) (hn : o + n ≤ cs.length) : RelL w (us ++ vs) (cs.drop o) := by
  have l1 : us.length = n := by rw [h1.1, List.length_take, List.length_drop]; omega
  refine ⟨by rw [List.length_append, l1, h2.1, List.length_drop, List.length_drop]; omega, fun i a v ha hv => ?_⟩
  by_cases hi : i < n
  · rw [List.getElem?_append_left (by omega)] at ha
    exact h1.2 i a v ha (by rw [List.getElem?_take, if_pos hi]; exact hv)
  · rw [List.getElem?_append_right (by omega), l1] at ha
    refine h2.2 (i - n) a v ha ?_
    rw [List.getElem?_drop] at hv ⊢
    rw [show o + n + (i - n) = o + i by omega]; exact hv
theorem dec_fields {T : Type} {enc : TypeId × Value → T} {w : World} {m : Nat} {cs : List Value} : ∀ (l : List Field) (Ss : List (List AV → Prop)) (o : Nat), DecAll P l Ss → offsOK P l o cs.length = true →
    (∀ f ∈ l, ∃ y, DataW.trod enc P w 0 (fun _ => true) true m f.type ((cs.drop f.offset).take (P.cellsOf f.type)) = some y) → ∃ us, SFields Ss us ∧ RelL (n0 w) us (cs.drop o) ∧ o ≤ cs.length
  | [], [], o, _, ho, _ => by
    simp only [offsOK, beq_iff_eq] at ho
    subst ho
    exact ⟨[], rfl, by rw [List.drop_length]; exact ⟨rfl, fun i a v ha => by simp at ha⟩, Nat.le_refl _⟩
  | f :: l, S :: Ss, o, hd, ho, hf => by
    simp only [offsOK, Bool.and_eq_true, beq_iff_eq] at ho
    obtain ⟨y, hy⟩ := hf f (by simp)
    rw [ho.1] at hy
    obtain ⟨a, ha, hra⟩ := hd.1 T enc w m _ y hy
    obtain ⟨b, hb, hrb, hle⟩ := dec_fields l Ss _ hd.2 ho.2 fun g hg => hf g (by simp [hg])
    exact ⟨a ++ b, ⟨a, b, ha, hb, rfl⟩, relL_append hra hrb hle, by omega⟩
  | [], _ :: _, _, hd, _, _ => hd.elim
  | _ :: _, [], _, hd, _, _ => hd.elim
theorem dec_struct {fs : Array Field} {Ss : List (List AV → Prop)} (ht : P.underlying t = some (.struct fs)) (ho : offsOK P fs.toList 0 (P.cellsOf t) = true) (hd : DecAll P fs.toList Ss) : Dec P t (SFields Ss) := fun T enc w fuel cs x hx => by
  obtain ⟨xs, n, rfl, rfl, hl, hn, hf⟩ := DataW.trod_struct ht hx
  obtain ⟨us, h1, h2, _⟩ := dec_fields (T := T) (enc := enc) (w := w) (m := n) (cs := cs) fs.toList Ss 0 hd (by rw [hl]; exact ho) fun f hf' => by
    obtain ⟨i, hi, e⟩ := List.getElem_of_mem hf'
    have := hf i f (by rw [← Array.getElem?_toList, List.getElem?_eq_getElem hi, e])
    rw [List.getElem?_eq_getElem (by rw [hn]; simpa using hi)] at this
    exact ⟨_, this⟩
  exact ⟨us, h1, by simpa using h2⟩
theorem dec_slice {e : TypeId} {α : Type} [Inhabited α] {ok : α → Prop} {encA : α → List AV} {sz : Nat} (ht : P.underlying t = some (.slice e)) (hc : P.cellsOf e = sz) (hsz : 0 < sz) (he : Dec P e (fun us => ∃ a, ok a ∧ us = encA a)) (hl : ∀ a, (encA a).length = sz) :
    Dec P t (fun us => ∃ l : List α, ((∀ a ∈ l, ok a) ∧ l.length ≤ 9223372036854775807) ∧ us = [slOf encA sz l]) := fun T enc w fuel cs x hx => by
  rcases open_slice ht hx with ⟨rfl, _⟩ | ⟨a, len, cap, m, n, D, Pl, rfl, _, hlc, hcm, hm, _, hr⟩
  · exact ⟨_, ⟨[], ⟨by simp, by simp⟩, rfl⟩, relL_one (.sl0 _ _ _ _ (by simp))⟩
  · simp only [if_true] at hm
    obtain rfl : cap = m := hm.symm
    have hget : ∀ i, i < len → ∃ g : α, ok g ∧ ∃ cs', w.cells? 0 (a.add (i * sz)) sz = some cs' ∧ RelL (n0 w) (encA g) cs' := fun i hi => by
      obtain ⟨cs', h1, h2⟩ := hr i (by omega)
      rw [hc] at h1
      obtain ⟨us, ⟨g, hok, rfl⟩, hrel⟩ := he T enc w n cs' _ h2
      exact ⟨g, hok, cs', h1, hrel⟩
    obtain ⟨g, hg⟩ : ∃ g : Nat → α, ∀ i, i < len → ok (g i) ∧ ∃ cs', w.cells? 0 (a.add (i * sz)) sz = some cs' ∧ RelL (n0 w) (encA (g i)) cs' := by
      classical
      exact ⟨fun i => if h : i < len then (hget i h).choose else default, fun i hi => by simp only [dif_pos hi]; exact (hget i hi).choose_spec⟩
    have hln : ((List.range len).map g).length = len := by simp
    refine ⟨_, ⟨(List.range len).map g, ⟨fun y hy => ?_, by rw [hln]; have : cap ≤ 9223372036854775807 := hcm; omega⟩, rfl⟩, relL_one ?_⟩
    · obtain ⟨i, hi, rfl⟩ := List.mem_map.1 hy
      exact (hg i (by simpa using hi)).1
    · have hcl : (((List.range len).map g).map encA).length = len := by simp
      have hn : ∀ i, i < len → (((List.range len).map g).map encA).getD i [] = encA (g i) := fun i hi => by simp [List.getD_eq_getElem?_getD, hi]
      by_cases h0 : len = 0
      · subst h0; exact .sl0 _ _ _ _ (by simp)
      · have hcell : ∀ i j, i < len → j < sz → ∃ v, w.cell? (a.add (i * sz + j)) = some v ∧ ∀ u, (encA (g i))[j]? = some u → RelV (n0 w) u v := fun i j hi hj => by
          obtain ⟨_, cs', h1, h2⟩ := hg i hi
          obtain ⟨_, hlen, hat⟩ := World.cells?_some h1
          have hv : cs'[j]? = some cs'[j] := List.getElem?_eq_getElem (by omega)
          refine ⟨cs'[j], ?_, fun u hu => h2.2 j u _ hu hv⟩
          rw [← add_of_add, hat j hj, hv]
        have := RelV.sl (w := n0 w) (d := encA default) false sz (((List.range len).map g).map encA) a cap (fun k => (w.cell? (a.add k)).getD undef) (by omega) (by omega) (by simp) (fun cs hcs => by
          obtain ⟨y, _, rfl⟩ := List.mem_map.1 hcs
          exact hl y) (by
          obtain ⟨_, cs', h1, _⟩ := hg 0 (by omega)
          have := World.cells?_block h1 hsz
          rwa [block_of_add] at this) (fun h => h) (fun i j hi hj => by
          obtain ⟨v, hv, _⟩ := hcell i j (by omega) hj
          rw [hv]; rfl) (fun i j u hi hu => by
          rw [hn i (by omega)] at hu
          have hj : j < sz := by rw [← hl (g i)]; exact (List.getElem?_eq_some_iff.1 hu).1
          obtain ⟨v, hv, hrel⟩ := hcell i j (by omega) hj
          rw [hv]
          exact hrel u hu)
        rw [hcl] at this
        exact this

-- arguments
variable {T : Type} {enc : TypeId × Value → T} {w : World} {v : Value} {d : DataW T} {ps : List MemPlace} {base : Nat}
theorem arg_agg {S : List AV → Prop} {fs : Array Field} (ht : P.underlying t = some (.struct fs)) (hd : Dec P t S) (hv : Value.okWide P w .any base t v) (h : DataW.Trod enc P w 0 (fun _ => true) true t v d ps) : ∃ us, S us ∧ RelV (n0 w) (.agg us) v := by
  unfold Value.okWide at hv
  rw [ht] at hv
  obtain ⟨cs, rfl, _, _⟩ := hv
  obtain ⟨fuel, hf⟩ := h
  obtain ⟨us, hs, hr⟩ := hd T enc w fuel _ _ hf
  exact ⟨us, hs, .agg us cs (by rw [hr.1]; rfl) fun i a u ha hu => hr.2 i a u ha (by show cs.toList[i]? = _; rw [Array.getElem?_toList]; exact hu)⟩
theorem arg_one {S : AV → Prop} (hd : Dec P t (fun us => ∃ a, S a ∧ us = [a])) (hv : v.cells.toList = [v]) (h : DataW.Trod enc P w 0 (fun _ => true) true t v d ps) : ∃ a, S a ∧ RelV (n0 w) a v := by
  obtain ⟨fuel, hf⟩ := h
  rw [hv] at hf
  obtain ⟨us, ⟨a, hs, rfl⟩, hr⟩ := hd T enc w fuel _ _ hf
  exact ⟨a, hs, hr.2 0 a v rfl rfl⟩
end

section
variable {P : Program} {T : Type} {enc : TypeId × Value → T}
theorem trodAll_below (hl : laidOutB P = true) {W W' : World} (hb : Below W.heap.size W W') : ∀ (ts : List TypeId) (vs : List Value) (ds : List (DataW T)) (ps : List MemPlace), (∀ t ∈ ts, P.readableRec t = true ∧ t < P.types.size) →
    DataW.TrodAll enc P W 0 (fun _ => true) true ts vs ds ps → (∀ x ∈ ps, x.block < W.heap.size) → DataW.TrodAll enc P W' 0 (fun b => decide (b < W.heap.size)) true ts vs ds ps
  | [], [], [], ps, _, h, _ => h
  | t :: ts, v :: vs, d :: ds, ps, hr, h, hlt => by
    obtain ⟨p, q, h1, h2, rfl⟩ := h
    exact ⟨p, q, Below.trod hl (hr t (by simp)).1 (hr t (by simp)).2 h1 hb fun x hx => hlt x (by simp [hx]), trodAll_below hl hb ts vs ds q (fun t ht => hr t (by simp [ht])) h2 fun x hx => hlt x (by simp [hx]), rfl⟩
  | [], _ :: _, _, _, _, h, _ => h.elim
  | [], [], _ :: _, _, _, h, _ => h.elim
  | _ :: _, [], _, _, _, h, _ => h.elim
  | _ :: _, _ :: _, [], _, _, h, _ => h.elim
/-- A law that says true, and has written nothing that was there. -/
theorem post_law {fn : Func} {s : ChangeSpec} {apart fresh handsOn : Bool} {W W' : World} {args : Array Value} {ds : List (DataW T)} {before : List MemPlace} {tb : TypeId} (hW : DataW.Whole enc P fn.params.toList s.vars apart W args.toList ds [] before)
    (hx : Below W.heap.size W W') (hl : laidOutB P = true) (hr : ∀ t ∈ fn.params.toList, P.readableRec t = true ∧ t < P.types.size) (hrt : fn.resultTypes = #[tb]) (hb : P.underlying tb = some .bool) (hv : s.vars = [])
    (e1 : (s.fn T (ds ++ [])).results = [.lit (.bool true)]) (e2 : (s.fn T (ds ++ [])).args = ds) (e3 : (s.fn T (ds ++ [])).vars = []) : s.post enc P fn apart fresh handsOn false W args (.bool true) W' := by
  have hW' := hW
  obtain ⟨p, q, hA, hV, rfl, hfz, hnd⟩ := hW
  rw [hv] at hV
  have hq : q = [] := hV
  subst hq
  refine ⟨ds, [], _, [], p, [], hW', ?_, ?_, ?_, hx.frame _, fun h => by cases h⟩
  · rw [hrt, e1]
    exact trodAll_mk1 (shut_bool hb true)
  · rw [e2]
    exact trodAll_below hl hx _ _ _ _ hr hA fun x hx' => by simpa using hW'.lt x (by simpa using hx')
  · rw [hv, e3]
    exact rfl
theorem relW_n0 (W : World) (hg : Glob (n0 W)) : RelW (n0 W) (entry []) := {
  glob := hg
  rows := fun i r h => (by cases h)
  dom := fun i m z h => (by cases h)
  inj := fun i m j n b t s t' s' h _ => (by cases h)
  own := fun i m b t s h => (by cases h)
  fin := fun b h => h.elim }
/-- Out of a contract where nothing is handed. -/
theorem law_calls {f : FuncId} {avs : List AV} {args : Array Value} {W : World} (hg : Glob (n0 W)) (h : PCall P f avs (.raw (.bool true))) (ha : RelL (n0 W) avs args.toList) : Calls P f args W fun e W' => e = .returned (.bool true) ∧ Below W.heap.size W W' := by
  refine (h (n0 W) args (relW_n0 W hg) ⟨by rw [ha.1]; simp, fun i a v h1 h2 => ha.2 i a v h1 (by rw [Array.getElem?_toList]; exact h2)⟩).mono ?_
  rintro e w' ⟨v, r, H', w2, rfl, rfl, ⟨rfl, _⟩, _, g2, g3⟩
  have := raw_inv g2
  subst this
  exact ⟨rfl, ⟨g3.os, g3.tape, g3.output, g3.size, fun k hk => (g3.free k hk (fun h => h)).1⟩⟩
end
section
variable {P : Program} {f : FuncId} {args cs : List AV} {H : Hp} {K : AV → Hp → Prop} {q : Prop}
/-- A call of a closure that holds things of one's own. -/
theorem cl {l l0 : List (Nat × Row)} {r0 : AV} (hc : ACalls P f (args ++ cs) l fun r l' => r = r0 ∧ l' = l0) (k : q) (h1 : fits l H := by first | (simp (disch := first | omega | assumption | fail) only [go_sem, wrap_in, W, ↓reduceIte, Int.reduceEq, Int.reduceLE, Int.reduceLT, Int.reduceNe, Int.reduceToNat, Nat.reduceMul, Nat.reduceAdd, Nat.reduceLeDiff, Nat.reduceSub, Nat.reduceEqDiff, Nat.reduceBEq, List.nodup_cons, List.nodup_nil, List.mem_cons, List.not_mem_nil, List.mem_nil_iff]; done) | (simp (disch := first | omega | assumption | fail) only [go_sem, wrap_in, ↓reduceIte, Int.reduceEq, Int.reduceLE, Int.reduceLT, Int.reduceNe, Int.reduceToNat, Nat.reduceMul, Nat.reduceAdd, Nat.reduceLeDiff, Nat.reduceSub, Nat.reduceEqDiff, Nat.reduceBEq, List.nodup_cons, List.nodup_nil, List.mem_cons, List.not_mem_nil, List.mem_nil_iff]; done) | fail) (h0 : callable P f = true := by first | (simp (disch := first | omega | assumption | fail) only [go_sem, wrap_in, W, ↓reduceIte, Int.reduceEq, Int.reduceLE, Int.reduceLT, Int.reduceNe, Int.reduceToNat, Nat.reduceMul, Nat.reduceAdd, Nat.reduceLeDiff, Nat.reduceSub, Nat.reduceEqDiff, Nat.reduceBEq, List.nodup_cons, List.nodup_nil, List.mem_cons, List.not_mem_nil, List.mem_nil_iff]; done) | (simp (disch := first | omega | assumption | fail) only [go_sem, wrap_in, ↓reduceIte, Int.reduceEq, Int.reduceLE, Int.reduceLT, Int.reduceNe, Int.reduceToNat, Nat.reduceMul, Nat.reduceAdd, Nat.reduceLeDiff, Nat.reduceSub, Nat.reduceEqDiff, Nat.reduceBEq, List.nodup_cons, List.nodup_nil, List.mem_cons, List.not_mem_nil, List.mem_nil_iff]; done) | fail) (h2 : allL (fun i => (ids l).contains i) (args ++ cs) = true := by first | (simp (disch := first | omega | assumption | fail) only [go_sem, wrap_in, W, ↓reduceIte, Int.reduceEq, Int.reduceLE, Int.reduceLT, Int.reduceNe, Int.reduceToNat, Nat.reduceMul, Nat.reduceAdd, Nat.reduceLeDiff, Nat.reduceSub, Nat.reduceEqDiff, Nat.reduceBEq, List.nodup_cons, List.nodup_nil, List.mem_cons, List.not_mem_nil, List.mem_nil_iff]; done) | (simp (disch := first | omega | assumption | fail) only [go_sem, wrap_in, ↓reduceIte, Int.reduceEq, Int.reduceLE, Int.reduceLT, Int.reduceNe, Int.reduceToNat, Nat.reduceMul, Nat.reduceAdd, Nat.reduceLeDiff, Nat.reduceSub, Nat.reduceEqDiff, Nat.reduceBEq, List.nodup_cons, List.nodup_nil, List.mem_cons, List.not_mem_nil, List.mem_nil_iff]; done) | fail) (h3 : shut (fun i => (ids l).contains i) l := by first | (simp (disch := first | omega | assumption | fail) only [go_sem, wrap_in, W, ↓reduceIte, Int.reduceEq, Int.reduceLE, Int.reduceLT, Int.reduceNe, Int.reduceToNat, Nat.reduceMul, Nat.reduceAdd, Nat.reduceLeDiff, Nat.reduceSub, Nat.reduceEqDiff, Nat.reduceBEq, List.nodup_cons, List.nodup_nil, List.mem_cons, List.not_mem_nil, List.mem_nil_iff]; done) | (simp (disch := first | omega | assumption | fail) only [go_sem, wrap_in, ↓reduceIte, Int.reduceEq, Int.reduceLE, Int.reduceLT, Int.reduceNe, Int.reduceToNat, Nat.reduceMul, Nat.reduceAdd, Nat.reduceLeDiff, Nat.reduceSub, Nat.reduceEqDiff, Nat.reduceBEq, List.nodup_cons, List.nodup_nil, List.mem_cons, List.not_mem_nil, List.mem_nil_iff]; done) | fail)
  (h4 : fresh (ids l) H l0 := by first | (simp (disch := first | omega | assumption | fail) only [go_sem, wrap_in, W, ↓reduceIte, Int.reduceEq, Int.reduceLE, Int.reduceLT, Int.reduceNe, Int.reduceToNat, Nat.reduceMul, Nat.reduceAdd, Nat.reduceLeDiff, Nat.reduceSub, Nat.reduceEqDiff, Nat.reduceBEq, List.nodup_cons, List.nodup_nil, List.mem_cons, List.not_mem_nil, List.mem_nil_iff]; done) | (simp (disch := first | omega | assumption | fail) only [go_sem, wrap_in, ↓reduceIte, Int.reduceEq, Int.reduceLE, Int.reduceLT, Int.reduceNe, Int.reduceToNat, Nat.reduceMul, Nat.reduceAdd, Nat.reduceLeDiff, Nat.reduceSub, Nat.reduceEqDiff, Nat.reduceBEq, List.nodup_cons, List.nodup_nil, List.mem_cons, List.not_mem_nil, List.mem_nil_iff]; done) | fail) (h5 : (ids l0).Nodup := by first | (simp (disch := first | omega | assumption | fail) only [go_sem, wrap_in, W, ↓reduceIte, Int.reduceEq, Int.reduceLE, Int.reduceLT, Int.reduceNe, Int.reduceToNat, Nat.reduceMul, Nat.reduceAdd, Nat.reduceLeDiff, Nat.reduceSub, Nat.reduceEqDiff, Nat.reduceBEq, List.nodup_cons, List.nodup_nil, List.mem_cons, List.not_mem_nil, List.mem_nil_iff]; done) | (simp (disch := first | omega | assumption | fail) only [go_sem, wrap_in, ↓reduceIte, Int.reduceEq, Int.reduceLE, Int.reduceLT, Int.reduceNe, Int.reduceToNat, Nat.reduceMul, Nat.reduceAdd, Nat.reduceLeDiff, Nat.reduceSub, Nat.reduceEqDiff, Nat.reduceBEq, List.nodup_cons, List.nodup_nil, List.mem_cons, List.not_mem_nil, List.mem_nil_iff]; done) | fail) (e : K r0 ⟨H.B, lputs H.l l0⟩ = q := by first | (simp (disch := first | omega | assumption | fail) only [go_sem, wrap_in, W, ↓reduceIte, Int.reduceEq, Int.reduceLE, Int.reduceLT, Int.reduceNe, Int.reduceToNat, Nat.reduceMul, Nat.reduceAdd, Nat.reduceLeDiff, Nat.reduceSub, Nat.reduceEqDiff, Nat.reduceBEq, List.nodup_cons, List.nodup_nil, List.mem_cons, List.not_mem_nil, List.mem_nil_iff]; rfl) | (simp (disch := first | omega | assumption | fail) only [go_sem, wrap_in, ↓reduceIte, Int.reduceEq, Int.reduceLE, Int.reduceLT, Int.reduceNe, Int.reduceToNat, Nat.reduceMul, Nat.reduceAdd, Nat.reduceLeDiff, Nat.reduceSub, Nat.reduceEqDiff, Nat.reduceBEq, List.nodup_cons, List.nodup_nil, List.mem_cons, List.not_mem_nil, List.mem_nil_iff]; rfl) | rfl | fail) : vCall P (.clo f cs) args H K := vcall_clo h0 (hcall_fun hc h1 h2 h3 h4 h5 (e ▸ k))
/-- A call that changes nothing, in a region that leaves its order open. -/
theorem cq {R : AV → Prop} {r0 : AV} (hc : PCall P f args r0) (k : q) (h0 : callable P f = true := by first | (simp (disch := first | omega | assumption | fail) only [go_sem, wrap_in, W, ↓reduceIte, Int.reduceEq, Int.reduceLE, Int.reduceLT, Int.reduceNe, Int.reduceToNat, Nat.reduceMul, Nat.reduceAdd, Nat.reduceLeDiff, Nat.reduceSub, Nat.reduceEqDiff, Nat.reduceBEq, List.nodup_cons, List.nodup_nil, List.mem_cons, List.not_mem_nil, List.mem_nil_iff]; done) | (simp (disch := first | omega | assumption | fail) only [go_sem, wrap_in, ↓reduceIte, Int.reduceEq, Int.reduceLE, Int.reduceLT, Int.reduceNe, Int.reduceToNat, Nat.reduceMul, Nat.reduceAdd, Nat.reduceLeDiff, Nat.reduceSub, Nat.reduceEqDiff, Nat.reduceBEq, List.nodup_cons, List.nodup_nil, List.mem_cons, List.not_mem_nil, List.mem_nil_iff]; done) | fail) (h2 : allL noQ args = true := by first | (simp (disch := first | omega | assumption | fail) only [go_sem, wrap_in, W, ↓reduceIte, Int.reduceEq, Int.reduceLE, Int.reduceLT, Int.reduceNe, Int.reduceToNat, Nat.reduceMul, Nat.reduceAdd, Nat.reduceLeDiff, Nat.reduceSub, Nat.reduceEqDiff, Nat.reduceBEq, List.nodup_cons, List.nodup_nil, List.mem_cons, List.not_mem_nil, List.mem_nil_iff]; done) | (simp (disch := first | omega | assumption | fail) only [go_sem, wrap_in, ↓reduceIte, Int.reduceEq, Int.reduceLE, Int.reduceLT, Int.reduceNe, Int.reduceToNat, Nat.reduceMul, Nat.reduceAdd, Nat.reduceLeDiff, Nat.reduceSub, Nat.reduceEqDiff, Nat.reduceBEq, List.nodup_cons, List.nodup_nil, List.mem_cons, List.not_mem_nil, List.mem_nil_iff]; done) | fail) (e : R r0 = q := by first | (simp (disch := first | omega | assumption | fail) only [go_sem, wrap_in, W, ↓reduceIte, Int.reduceEq, Int.reduceLE, Int.reduceLT, Int.reduceNe, Int.reduceToNat, Nat.reduceMul, Nat.reduceAdd, Nat.reduceLeDiff, Nat.reduceSub, Nat.reduceEqDiff, Nat.reduceBEq, List.nodup_cons, List.nodup_nil, List.mem_cons, List.not_mem_nil, List.mem_nil_iff]; rfl) | (simp (disch := first | omega | assumption | fail) only [go_sem, wrap_in, ↓reduceIte, Int.reduceEq, Int.reduceLE, Int.reduceLT, Int.reduceNe, Int.reduceToNat, Nat.reduceMul, Nat.reduceAdd, Nat.reduceLeDiff, Nat.reduceSub, Nat.reduceEqDiff, Nat.reduceBEq, List.nodup_cons, List.nodup_nil, List.mem_cons, List.not_mem_nil, List.mem_nil_iff]; rfl) | rfl | fail) :
    ∃ r, (vCall P (.raw (.func (.func f) #[] #[])) args H fun r' H' => r' = r ∧ H' = H) ∧ R r := ⟨r0, vcall_raw h0 (hcall_pure hc h2 ⟨rfl, rfl⟩), e ▸ k⟩
end
/-- What says less of a value. -/
def Sub (a' a : AV) : Prop := ∀ (w : NW) v, RelV w a' v → RelV w a v
def SubL : List AV → List AV → Prop
  | [], [] => True
  | a :: l, b :: m => Sub a b ∧ SubL l m
  | _, _ => False
theorem Sub.refl (a : AV) : Sub a a := fun _ _ h => h
theorem Sub.nil (sz : Nat) (d : List AV) : Sub (.raw (.slice none 0 0)) (.sl false sz [] d) := fun w v h => by
  have := raw_inv h
  subst this
  exact .sl0 _ _ _ _ (by simp)
theorem Sub.lit (sz : Nat) (css : List (List AV)) (d d' : List AV) : Sub (.sl true sz css d) (.sl false sz css d') := fun w v h => by
  cases h with
  | sl0 _ _ A c _ => exact .sl0 _ _ _ _ (by simp)
  | sl _ _ _ a c vs hn hc hx hsz hb hH hcell h => exact .sl false sz css a c vs hn hc (by simp) hsz hb hH hcell h
theorem SubL.get : ∀ {l m : List AV}, SubL l m → l.length = m.length ∧ ∀ (i : Nat) a b, l[i]? = some a → m[i]? = some b → Sub a b
  | [], [], _ => ⟨rfl, fun i a b h => by simp at h⟩
  | x :: l, y :: m, h => by
    have ih := SubL.get h.2
    refine ⟨by simp [ih.1], fun i a b ha hb => ?_⟩
    cases i with
    | zero => simp at ha hb; subst ha hb; exact h.1
    | succ i => exact ih.2 i a b (by simpa using ha) (by simpa using hb)
  | [], _ :: _, h => h.elim
  | _ :: _, [], h => h.elim
/-- A contract at arguments that say more. -/
theorem pcall_args {P : Program} {f : FuncId} {args args' : List AV} {r : AV} (hc : PCall P f args r) (h : SubL args' args) : PCall P f args' r := fun w vs h1 h2 => hc w vs h1 ⟨h.get.1.symm.trans h2.1, fun i a v ha hv => by
  have hi : i < args'.length := by rw [h.get.1]; exact (List.getElem?_eq_some_iff.1 ha).1
  exact h.get.2 i args'[i] a (List.getElem?_eq_getElem hi) ha w v (h2.2 i _ v (List.getElem?_eq_getElem hi) hv)⟩
end Go.Gd

namespace Go.Gd
open Go
/-- A slice that is made. -/
@[go_sem] theorem vc_makeSlice {P : Program} {ev : Operand → AV} {H : Hp} {ty : TypeId} {K : AV → Hp → Prop} (t : TypeId) (l c : Operand) : vc P ev H ty K (.makeSlice t l c) = OpVC P (.makeSlice t l c) ty ev H K := by simp [vc, quietOp]
theorem made_rel {w : NW} {z : Array Value} {zs : List Value} {n sz : Nat} (hz : z.toList = zs) (hl : zs.length = sz) (h0 : 0 < sz) (k : Nat) (a : AV) (v : Value) (ha : (List.replicate n (zs.map AV.raw)).flatten[k]? = some a) (hv : (madeCells z (n * sz))[k]? = some v) : RelV w a v := by
  have hzs : z.size = sz := by rw [← hl, ← hz]; simp
  have hk : k < n * sz := by
    have := (Array.getElem?_eq_some_iff.1 hv).1
    rwa [size_madeCells] at this
  obtain ⟨i, j, hi, hj, rfl⟩ := idx_split hk
  have hcs : ∀ cs ∈ List.replicate n (zs.map AV.raw), cs.length = sz := fun cs hcs => by
    rw [(List.mem_replicate.1 hcs).2]; simpa using hl
  have hg := flatten_get hcs (i := i) (j := j) (by simpa using hi) hj
  rw [hg] at ha
  have : (List.replicate n (zs.map AV.raw)).getD i [] = zs.map AV.raw := by simp [List.getD_eq_getElem?_getD, hi]
  rw [this] at ha
  simp only [List.getElem?_map, Option.map_eq_some_iff] at ha
  obtain ⟨x, hx, rfl⟩ := ha
  have e : (i * sz + j) % sz = j := by rw [Nat.add_comm, Nat.add_mul_mod_self_right]; exact Nat.mod_eq_of_lt hj
  have : v = x := by
    have hv2 : (madeCells z (n * sz))[i * sz + j]? = some (z[(i * sz + j) % z.size]!) := by simp [madeCells, hk]
    rw [hv2] at hv
    have hv := Option.some.inj hv
    rw [← hv, hzs, e]
    have hjz : j < z.size := by omega
    rw [getElem!_pos z j hjz]
    have hx' : z.toList[j]? = some x := by rw [hz]; exact hx
    rw [Array.getElem?_toList] at hx'
    exact Option.some.inj ((Array.getElem?_eq_getElem hjz).symm.trans hx')
  subst this
  exact .raw _
theorem mkS {P : Program} {ev : Operand → AV} {H : Hp} {ty : TypeId} {K : AV → Hp → Prop} {q : Prop} (i : Nat) {t et : TypeId} {sz n : Nat} {zs : List Value} {l c : Operand} (k : q) (hl : ev l = .raw (.int .i64 (n : Int)) := by rfl) (hc : ev c = .raw (.int .i64 (n : Int)) := by rfl) (ht : elT P t = some et := by (simp only [go_sem]; rfl)) (hs : szOf P et = some sz := by (simp only [go_sem]; rfl)) (hz : zeroL P et = some zs := by (simp only [go_sem]; rfl)) (hzl : zs.length = sz := by rfl) (h0 : 0 < sz := by decide) (hr : room (bytesT P et) n := by (simp only [go_sem]; omega)) (hi : H.get i = none := by rfl)
    (e : K (.rs i n sz n) (H.put i (.vec et sz (List.replicate n (zs.map .raw)))) = q := by first | (simp (disch := first | omega | assumption | fail) only [go_sem, wrap_in, W, ↓reduceIte, Int.reduceEq, Int.reduceLE, Int.reduceLT, Int.reduceNe, Int.reduceToNat, Nat.reduceMul, Nat.reduceAdd, Nat.reduceLeDiff, Nat.reduceSub, Nat.reduceEqDiff, Nat.reduceBEq, List.nodup_cons, List.nodup_nil, List.mem_cons, List.not_mem_nil, List.mem_nil_iff]; rfl) | (simp (disch := first | omega | assumption | fail) only [go_sem, wrap_in, ↓reduceIte, Int.reduceEq, Int.reduceLE, Int.reduceLT, Int.reduceNe, Int.reduceToNat, Nat.reduceMul, Nat.reduceAdd, Nat.reduceLeDiff, Nat.reduceSub, Nat.reduceEqDiff, Nat.reduceBEq, List.nodup_cons, List.nodup_nil, List.mem_cons, List.not_mem_nil, List.mem_nil_iff]; rfl) | rfl | fail) : OpVC P (.makeSlice t l c) ty ev H K := fun w ρ dst pos after guard hw hρ => by
  have h1 := hρ l (by simp [Op.operands])
  have h2 := hρ c (by simp [Op.operands])
  rw [hl] at h1
  rw [hc] at h2
  have e1 := raw_inv h1
  have e2 := raw_inv h2
  have hu : P.underlying t = some (.slice et) := elT_spec ht
  unfold szOf at hs
  cases hf : P.info? et with
  | none => rw [hf] at hs; cases hs
  | some inf =>
    rw [hf] at hs
    have hsz : inf.size = sz := by simpa using hs
    have hz' := hz
    unfold zeroL at hz'
    rw [hf] at hz'
    simp only [Option.bind_some, Option.map_eq_some_iff] at hz'
    obtain ⟨z, hzz, hzl'⟩ := hz'
    have hby : bytesT P et = inf.bytes := by unfold bytesT; rw [hf]; rfl
    obtain ⟨r1, r2⟩ := hr
    rw [hby] at r1
    have hrun := run_make (P := P) w.toWorld t et inf z hu hf hzz .i64 .i64 (n : Int) (n : Int) (by omega) (by omega) (by
      have h : ((n * inf.bytes : Nat) : Int) ≤ 140737488355328 := by omega
      rw [Int.natCast_mul, Int.mul_comm] at h
      omega) (by omega)
    simp only [Int.toNat_natCast] at hrun
    rw [hsz] at hrun
    have hcs : ∀ cs ∈ List.replicate n (zs.map AV.raw), cs.length = sz := fun cs hcs => by rw [(List.mem_replicate.1 hcs).2]; simpa using hzl
    have hfl := flatten_len hcs
    simp only [List.length_replicate] at hfl
    obtain ⟨q1, q2⟩ := own_new (row := .vec et sz (List.replicate n (zs.map AV.raw))) hw (hw.none hi _) (fun r' hr => by rw [hi] at hr; cases hr) ⟨h0, hcs⟩ (madeCells z.cells (n * sz)) (by show (List.replicate n (zs.map AV.raw)).flatten.length ≤ _; rw [hfl, size_madeCells]; exact Nat.le_refl _) (fun k a v ha hv => made_rel hzl' hzl h0 k a v ha hv)
    refine ⟨_, _, .rs i n sz n, e ▸ k, q1, q2, .inl ⟨.slice (some ⟨w.heap.size, 0, none⟩) n n, ?_, ?_⟩⟩
    · simp only [execOp, e1, e2]
      simp [hrun]
      rfl
    · have hnm : (((w.to (w.alloc (.cells (madeCells z.cells (n * sz)) et))).seize w.heap.size).name i n (.at w.heap.size (n * sz) sz)).nm i n = some (.at w.heap.size (n * sz) sz) := NW.name_same _ _ _ _
      have := RelV.rs (w := ((w.to (w.alloc (.cells (madeCells z.cells (n * sz)) et))).seize w.heap.size).name i n (.at w.heap.size (n * sz) sz)) i n sz n w.heap.size (n * sz) n hnm rfl (Nat.le_refl _) h0
      have e3 : (Row.vec et sz (List.replicate n (zs.map AV.raw))).ver = n := by show (List.replicate n (zs.map AV.raw)).length = n; simp
      have e4 : (madeCells z.cells (n * sz)).size = n * sz := size_madeCells _ _
      rw [e3, e4]
      exact this
open Go.ChangeShapes Go.WideShapes Go.ChangeAt Go.RowKit
theorem dec_two {P : Program} {t e : TypeId} {k : IntKind} (ht : P.underlying t = some (.array 2 e)) (he : P.underlying e = some (.int k)) (h1 : P.cellsOf e = 1) (h2 : P.cellsOf t = 2) :
    Dec P t (fun us => ∃ a b : Int, ((Lit.int k a).wf = true ∧ (Lit.int k b).wf = true) ∧ us = [.raw (.int k a), .raw (.int k b)]) := fun T enc w fuel cs x hx => by
  obtain ⟨xs, m, rfl, _, hl, hn, hel⟩ := DataW.trod_array ht hx
  rw [h2] at hl
  match cs, hl with
  | [c0, c1], _ =>
    match xs, hn with
    | [x0, x1], _ =>
      have e0 := hel 0 (by omega)
      have e1 := hel 1 (by omega)
      rw [h1] at e0 e1
      obtain ⟨a, ha, _, wa⟩ := DataW.trod_int he (show DataW.trod enc P w 0 (fun _ => true) true m e [c0] = some x0 from e0)
      obtain ⟨b, hb, _, wb⟩ := DataW.trod_int he (show DataW.trod enc P w 0 (fun _ => true) true m e [c1] = some x1 from e1)
      simp only [List.cons.injEq, and_true] at ha hb
      subst ha hb
      exact ⟨_, ⟨a, b, ⟨wa, wb⟩, rfl⟩, relL_cons (.raw _) (relL_one (.raw _))⟩
theorem arg_arr {P : Program} {t : TypeId} {T : Type} {enc : TypeId × Value → T} {w : World} {v : Value} {d : DataW T} {ps : List MemPlace} {base : Nat} {S : List AV → Prop} {n : Nat} {e : TypeId} (ht : P.underlying t = some (.array n e)) (hd : Dec P t S) (hv : Value.okWide P w .any base t v) (h : DataW.Trod enc P w 0 (fun _ => true) true t v d ps) : ∃ us, S us ∧ RelV (n0 w) (.agg us) v := by
  unfold Value.okWide at hv
  rw [ht] at hv
  obtain ⟨cs, rfl, _, _⟩ := hv
  obtain ⟨fuel, hf⟩ := h
  obtain ⟨us, hs, hr⟩ := hd T enc w fuel _ _ hf
  exact ⟨us, hs, .agg us cs (by rw [hr.1]; rfl) fun i a u ha hu => hr.2 i a u ha (by show cs.toList[i]? = _; rw [Array.getElem?_toList]; exact hu)⟩
end Go.Gd
