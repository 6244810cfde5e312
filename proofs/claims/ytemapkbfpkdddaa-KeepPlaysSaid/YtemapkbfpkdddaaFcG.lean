/- All quiet operations in one; what the others ask; a list of operations, walked. No conditions. -/
import Derived.Test.YtemapkbfpkdddaaFcF
set_option linter.all false
namespace Go.Fc
open Go

section
variable {P : Program} {w : World} {H : Hp} {ρ : Operand → Value} {ev : Operand → AV}

theorem relL_map (hr : ∀ x, RelV w H (ev x) (ρ x)) (l : List Operand) : RelL w H (l.map ev) (l.map ρ) :=
  ⟨by simp, fun i a v ha hv => by
    simp only [List.getElem?_map, Option.map_eq_some_iff] at ha hv
    obtain ⟨x, hx, rfl⟩ := ha
    obtain ⟨y, hy, rfl⟩ := hv
    rw [hx] at hy; cases hy; exact hr x⟩
theorem opt_rel (hr : ∀ x, RelV w H (ev x) (ρ x)) (o : Option Operand) : ∀ x y, o.map ev = some x → o.map ρ = some y → RelV w H x y := by
  intro x y hx hy
  cases o with
  | none => cases hx
  | some z => cases hx; cases hy; exact hr z

theorem run_vq {s : Sem Value} {q : PA} (hq : q.1) (h : Good P w H s q) : ∃ v, (do pure (Next.value (← s)) : Sem Next).run P w = .ok (.value v) w ∧ RelV w H q.2 v := by
  obtain ⟨v, h1, h2⟩ := h hq
  exact ⟨v, by simp [h1], h2⟩

theorem pick_sound {c a b : Operand} {x y z : AV} {dst : Option Tmp} {ty : TypeId} {pos : String} {after : Array Edge} {guard : Option (Nat × Bool)} (hc : RelV w H x (ρ c)) (ha : RelV w H y (ρ a)) (hb : RelV w H z (ρ b)) (hq : (qPick x y z).1) :
    ∃ v, (execOp ρ ⟨dst, .pick c a b, ty, pos, after, guard⟩).run P w = .ok (.value v) w ∧ RelV w H (qPick x y z).2 v := by
  obtain ⟨v, h1, h2⟩ := qPick_good (P := P) hc ha hb hq
  refine ⟨v, ?_, h2⟩
  simp only [execOp, Sem.run_bind, Sem.run_pure] at h1 ⊢
  cases hb : (asBool (ρ c)).run P w with
  | ok x w' => rw [hb] at h1; simp only [Result.andThen_ok, Result.ok.injEq] at h1 ⊢; exact ⟨by rw [h1.1], h1.2⟩
  | halt e w' => rw [hb] at h1; simp at h1
theorem vq_sound (o : Oper) (hw : RelW w H) (hr : ∀ x, RelV w H (ev x) (ρ x)) (hq : (vq P ev H o.op).1) : ∃ v, (execOp ρ o).run P w = .ok (.value v) w ∧ RelV w H (vq P ev H o.op).2 v := by
  obtain ⟨dst, op, ty, pos, after, guard⟩ := o
  cases op
  case move x => exact ⟨_, rfl, hr x⟩
  case assign x => exact ⟨_, rfl, hr x⟩
  case pick c a b =>
    obtain ⟨v, h1, h2⟩ := qPick_good (P := P) (hr c) (hr a) (hr b) hq
    refine ⟨v, ?_, h2⟩
    simp only [execOp, Sem.run_bind, Sem.run_pure] at h1 ⊢
    cases hb : (asBool (ρ c)).run P w with
    | ok x w' => rw [hb] at h1; simp only [Result.andThen_ok, Result.ok.injEq] at h1 ⊢; exact ⟨by rw [h1.1], h1.2⟩
    | halt e w' => rw [hb] at h1; simp at h1
  case nilCheck x => exact qNil_good x rfl (hr x) _ rfl hq
  case binOp op t x y t' => exact run_vq hq (qBin_good op t x y (hr x) (hr y))
  case unOp op t x => exact run_vq hq (qUn_good op (hr x))
  case load t a => exact run_vq hq (qLoad_good t (hr a) hw)
  case fieldAddr t a f => exact run_vq hq (qFieldAddr_good t f (hr a))
  case field t a f => exact run_vq hq (qField_good t f (hr a))
  case indexAddr t a i => exact run_vq hq (qIndexAddr_good t (hr a) (hr i))
  case index t a i => exact run_vq hq (qIndex_good t (hr a) (hr i))
  case extract a i => exact run_vq hq (qExtract_good (hr a) i)
  case slice t a lo hi mx => exact run_vq hq (qSlice_good t (hr a) (opt_rel hr lo) (by cases lo <;> rfl) (opt_rel hr hi) (by cases hi <;> rfl) (opt_rel hr mx) (by cases mx <;> rfl))
  case makeFunc fn first captured =>
    have := qFunc_good (P := P) fn (relL_map hr first.toList) (relL_map hr captured.toList)
    have e1 : (first.toList.map ρ).toArray = first.map ρ := by rw [← Array.toList_map, Array.toArray_toList]
    have e2 : (captured.toList.map ρ).toArray = captured.map ρ := by rw [← Array.toList_map, Array.toArray_toList]
    rw [e1, e2] at this
    exact run_vq hq this
  case makeInterface t x => exact run_vq hq (qIface_good t (hr x))
  case convert s d x => exact run_vq hq (qConv_good s d (hr x))
  case build t parts =>
    refine run_vq hq (qBuild_good t (by simp) fun i a v ha hv => ?_)
    simp only [List.getElem?_map, Option.map_eq_some_iff, Array.toList_map, Array.getElem?_toList] at ha hv
    obtain ⟨x, hx, rfl⟩ := ha
    obtain ⟨y, hy, rfl⟩ := hv
    rw [hx] at hy; cases hy; exact hr x.2
  case call c =>
    obtain ⟨callee, args, argTypes⟩ := c
    cases callee
    case builtin b =>
      simp only [vq] at hq ⊢
      generalize hts : argTypes.toList = ts at *
      obtain rfl : argTypes = ts.toArray := by rw [← hts]
      have hrl := relL_map hr args.toList
      have hargs : args.map ρ = (args.toList.map ρ).toArray := by rw [← Array.toList_map, Array.toArray_toList]
      have hrun : ∀ s : Sem Value, (∀ cs, builtin b ts.toArray ty cs (args.toList.map ρ).toArray = (do pure (Next.value (← s)))) → (execOp ρ ⟨dst, .call ⟨.builtin b, args, ts.toArray⟩, ty, pos, after, guard⟩) = (do pure (Next.value (← s))) := by
        intro s hs
        simp only [execOp, resolve, pure_bind, invoke, hargs]
        exact hs _
      generalize hus : args.toList.map ρ = us at *
      generalize hals : args.toList.map ev = als at *
      unfold qBuiltin at *
      split at hq <;> try exact hq.elim
      · rename_i t ts x als
        cases us with
        | nil => have := hrl.1; simp at this
        | cons u us =>
          rw [hrun _ (fun _ => rfl)]
          exact run_vq hq (qLen_good ty t ts us (hrl.2 0 _ _ rfl rfl))
      · rename_i t ts x als
        cases us with
        | nil => have := hrl.1; simp at this
        | cons u us =>
          rw [hrun _ (fun _ => rfl)]
          exact run_vq hq (qCap_good ty t ts us (hrl.2 0 _ _ rfl rfl))
      · rw [hrun _ (fun _ => rfl)]
        have := qMaxMin_good (P := P) true ts.toArray ty hrl
        exact run_vq hq this
      · rw [hrun _ (fun _ => rfl)]
        have := qMaxMin_good (P := P) false ts.toArray ty hrl
        exact run_vq hq this
    all_goals exact hq.elim
  all_goals exact hq.elim
end
end Go.Fc
