/- A law's arguments as they are read, and what a law's row asks behind the call. No conditions. -/
import Derived.Test.YtemapkbfpkdddaaFcN
import Derived.ProofKit
import Derived.Deep.Slices
import Derived.Carry
set_option linter.all false
namespace Go.Fc
open Go Go.ChangeShapes Go.WideShapes Go.ChangeAt Go.RowKit Go.Deep

/-- Whatever is read as a t is one of these rows of cells. -/
def Dec (P : Program) (t : TypeId) (S : List AV → Prop) : Prop :=
  ∀ (T : Type) (enc : TypeId × Value → T) (w : World) (fuel : Nat) (cs : List Value) (x : DataW T × List MemPlace),
    DataW.trod enc P w 0 (fun _ => true) true fuel t cs = some x → ∃ us, S us ∧ RelL w H0 us cs
section
variable {P : Program} {t : TypeId}
theorem Dec.mono {S S' : List AV → Prop} (h : Dec P t S) (hs : ∀ us, S us → S' us) : Dec P t S' := fun T enc w fuel cs x hx => by
  obtain ⟨us, h1, h2⟩ := h T enc w fuel cs x hx
  exact ⟨us, hs us h1, h2⟩
theorem relL_one {w : World} {H : Hp} {a : AV} {v : Value} (h : RelV w H a v) : RelL w H [a] [v] := ⟨rfl, fun i b u hb hu => by
  cases i with
  | zero => simp at hb hu; subst hb hu; exact h
  | succ i => simp at hb⟩
theorem relL_cons {w : World} {H : Hp} {a : AV} {v : Value} {us : List AV} {vs : List Value} (h : RelV w H a v) (hs : RelL w H us vs) : RelL w H (a :: us) (v :: vs) := ⟨by simp [hs.1], fun i b u hb hu => by
  cases i with
  | zero => simp at hb hu; subst hb hu; exact h
  | succ i => exact hs.2 i b u (by simpa using hb) (by simpa using hu)⟩
theorem dec_int {k : IntKind} (ht : P.underlying t = some (.int k)) : Dec P t (fun us => ∃ n : Int, (Lit.int k n).wf = true ∧ us = [.raw (.int k n)]) := fun T enc w fuel cs x hx => by
  obtain ⟨n, rfl, _, hwf⟩ := DataW.trod_int ht hx
  exact ⟨_, ⟨n, hwf, rfl⟩, relL_one (.raw _)⟩
theorem dec_string (ht : P.underlying t = some .string) : Dec P t (fun us => ∃ s : ByteArray, us = [.raw (.string s)]) := fun T enc w fuel cs x hx => by
  obtain ⟨n, rfl, _, hwf⟩ := DataW.trod_string ht hx
  exact ⟨_, ⟨n, rfl⟩, relL_one (.raw _)⟩
theorem dec_bool (ht : P.underlying t = some .bool) : Dec P t (fun us => ∃ b : Bool, us = [.raw (.bool b)]) := fun T enc w fuel cs x hx => by
  obtain ⟨n, rfl, _⟩ := DataW.trod_bool ht hx
  exact ⟨_, ⟨n, rfl⟩, relL_one (.raw _)⟩

def SFields : List (List AV → Prop) → List AV → Prop
  | [], us => us = []
  | S :: Ss, us => ∃ a b, S a ∧ SFields Ss b ∧ us = a ++ b
def DecAll (P : Program) : List Field → List (List AV → Prop) → Prop
  | [], [] => True
  | f :: l, S :: Ss => Dec P f.type S ∧ DecAll P l Ss
  | _, _ => False
def offsOK (P : Program) : List Field → Nat → Nat → Bool
  | [], o, n => o == n
  | f :: l, o, n => f.offset == o && offsOK P l (o + P.cellsOf f.type) n
theorem relL_append {w : World} {H : Hp} {us vs : List AV} {cs : List Value} {o n : Nat} (h1 : RelL w H us ((cs.drop o).take n)) (h2 : RelL w H vs (cs.drop (o + n))) (hn : o + n ≤ cs.length) : RelL w H (us ++ vs) (cs.drop o) := by
  have l1 : us.length = n := by rw [h1.1, List.length_take, List.length_drop]; omega
  refine ⟨by rw [List.length_append, l1, h2.1, List.length_drop, List.length_drop]; omega, fun i a v ha hv => ?_⟩
  by_cases hi : i < n
  · rw [List.getElem?_append_left (by omega)] at ha
    exact h1.2 i a v ha (by rw [List.getElem?_take, if_pos hi]; exact hv)
  · rw [List.getElem?_append_right (by omega), l1] at ha
    refine h2.2 (i - n) a v ha ?_
    rw [List.getElem?_drop] at hv ⊢
    rw [show o + n + (i - n) = o + i by omega]; exact hv
theorem dec_fields {T : Type} {enc : TypeId × Value → T} {w : World} {m : Nat} {cs : List Value} : ∀ (l : List Field) (Ss : List (List AV → Prop)) (o : Nat), DecAll P l Ss → offsOK P l o cs.length = true →
    (∀ f ∈ l, ∃ y, DataW.trod enc P w 0 (fun _ => true) true m f.type ((cs.drop f.offset).take (P.cellsOf f.type)) = some y) → ∃ us, SFields Ss us ∧ RelL w H0 us (cs.drop o) ∧ o ≤ cs.length
  | [], [], o, _, ho, _ => by
    simp only [offsOK, beq_iff_eq] at ho
    subst ho
    exact ⟨[], rfl, by rw [List.drop_length]; exact ⟨rfl, fun i a v ha => by simp at ha⟩, Nat.le_refl _⟩
  | f :: l, S :: Ss, o, hd, ho, hf => by
    simp only [offsOK, Bool.and_eq_true, beq_iff_eq] at ho
    obtain ⟨y, hy⟩ := hf f (by simp)
    rw [ho.1] at hy
    obtain ⟨a, ha, hra⟩ := hd.1 T enc w m _ y hy
    obtain ⟨b, hb, hrb, hle⟩ := dec_fields l Ss _ hd.2 ho.2 fun g hg => hf g (by simp [hg])
    exact ⟨a ++ b, ⟨a, b, ha, hb, rfl⟩, relL_append hra hrb hle, by omega⟩
  | [], _ :: _, _, hd, _, _ => hd.elim
  | _ :: _, [], _, hd, _, _ => hd.elim
theorem dec_struct {fs : Array Field} {Ss : List (List AV → Prop)} (ht : P.underlying t = some (.struct fs)) (ho : offsOK P fs.toList 0 (P.cellsOf t) = true) (hd : DecAll P fs.toList Ss) : Dec P t (SFields Ss) := fun T enc w fuel cs x hx => by
  obtain ⟨xs, n, rfl, rfl, hl, hn, hf⟩ := DataW.trod_struct ht hx
  obtain ⟨us, h1, h2, _⟩ := dec_fields (T := T) (enc := enc) (w := w) (m := n) (cs := cs) fs.toList Ss 0 hd (by rw [hl]; exact ho) fun f hf' => by
    obtain ⟨i, hi, e⟩ := List.getElem_of_mem hf'
    have := hf i f (by rw [← Array.getElem?_toList, List.getElem?_eq_getElem hi, e])
    rw [List.getElem?_eq_getElem (by rw [hn]; simpa using hi)] at this
    exact ⟨_, this⟩
  exact ⟨us, h1, by simpa using h2⟩
theorem dec_slice {e : TypeId} {α : Type} [Inhabited α] {ok : α → Prop} {encA : α → List AV} {sz : Nat} (ht : P.underlying t = some (.slice e)) (hc : P.cellsOf e = sz) (hsz : 0 < sz) (he : Dec P e (fun us => ∃ a, ok a ∧ us = encA a)) (hl : ∀ a, (encA a).length = sz) :
    Dec P t (fun us => ∃ l : List α, ((∀ a ∈ l, ok a) ∧ l.length ≤ 9223372036854775807) ∧ us = [slOf encA sz l]) := fun T enc w fuel cs x hx => by
  rcases open_slice ht hx with ⟨rfl, _⟩ | ⟨a, len, cap, m, n, D, Pl, rfl, _, hlc, hcm, hm, _, hr⟩
  · exact ⟨_, ⟨[], ⟨by simp, by simp⟩, rfl⟩, relL_one (.sl0 _ _ _ _ _ (by simp))⟩
  · simp only [if_true] at hm
    obtain rfl : cap = m := hm.symm
    have hget : ∀ i, i < len → ∃ g : α, ok g ∧ ∃ cs', w.cells? 0 (a.add (i * sz)) sz = some cs' ∧ RelL w H0 (encA g) cs' := fun i hi => by
      obtain ⟨cs', h1, h2⟩ := hr i (by omega)
      rw [hc] at h1
      obtain ⟨us, ⟨g, hok, rfl⟩, hrel⟩ := he T enc w n cs' _ h2
      exact ⟨g, hok, cs', h1, hrel⟩
    obtain ⟨g, hg⟩ : ∃ g : Nat → α, ∀ i, i < len → ok (g i) ∧ ∃ cs', w.cells? 0 (a.add (i * sz)) sz = some cs' ∧ RelL w H0 (encA (g i)) cs' := by
      classical
      exact ⟨fun i => if h : i < len then (hget i h).choose else default, fun i hi => by simp only [dif_pos hi]; exact (hget i hi).choose_spec⟩
    have hln : ((List.range len).map g).length = len := by simp
    refine ⟨_, ⟨(List.range len).map g, ⟨fun y hy => ?_, by rw [hln]; have : cap ≤ 9223372036854775807 := hcm; omega⟩, rfl⟩, relL_one ?_⟩
    · obtain ⟨i, hi, rfl⟩ := List.mem_map.1 hy
      exact (hg i (by simpa using hi)).1
    · unfold slOf
      rw [hln]
      have hn : ∀ i, i < len → nth ((List.range len).map g) i = g i := fun i hi => by simp [nth, hi]
      by_cases h0 : len = 0
      · subst h0; exact .sl0 _ _ _ _ _ (by simp)
      · have hcell : ∀ i j, i < len → j < sz → ∃ v, w.cell? (a.add (i * sz + j)) = some v ∧ ∀ u, (encA (g i))[j]? = some u → RelV w H0 u v := fun i j hi hj => by
          obtain ⟨_, cs', h1, h2⟩ := hg i hi
          obtain ⟨_, hlen, hat⟩ := World.cells?_some h1
          have hv : cs'[j]? = some cs'[j] := List.getElem?_eq_getElem (by omega)
          refine ⟨cs'[j], ?_, fun u hu => h2.2 j u _ hu hv⟩
          rw [← add_of_add, hat j hj, hv]
        refine .sl false sz len _ a cap (fun k => (w.cell? (a.add k)).getD undef) (by omega) hlc (by simp) (fun i hi => hl _) ?_ rfl (fun i j hi hj => ?_) (fun i j u hi hu => ?_)
        · obtain ⟨_, cs', h1, _⟩ := hg 0 (by omega)
          have := World.cells?_block h1 hsz
          rwa [block_of_add] at this
        · obtain ⟨v, hv, _⟩ := hcell i j hi hj
          rw [hv]; rfl
        · simp only [hn i hi] at hu
          have hj : j < sz := by rw [← hl (g i)]; exact (List.getElem?_eq_some_iff.1 hu).1
          obtain ⟨v, hv, hrel⟩ := hcell i j hi hj
          rw [hv]
          exact hrel u hu

-- arguments
variable {T : Type} {enc : TypeId × Value → T} {w : World} {v : Value} {d : DataW T} {ps : List MemPlace} {base : Nat}
theorem arg_agg {S : List AV → Prop} {fs : Array Field} (ht : P.underlying t = some (.struct fs)) (hd : Dec P t S) (hv : Value.okWide P w .any base t v) (h : DataW.Trod enc P w 0 (fun _ => true) true t v d ps) : ∃ us, S us ∧ RelV w H0 (.agg us) v := by
  unfold Value.okWide at hv
  rw [ht] at hv
  obtain ⟨cs, rfl, _, _⟩ := hv
  obtain ⟨fuel, hf⟩ := h
  obtain ⟨us, hs, hr⟩ := hd T enc w fuel _ _ hf
  exact ⟨us, hs, .agg us cs (by rw [hr.1]; rfl) fun i a u ha hu => hr.2 i a u ha (by show cs.toList[i]? = _; rw [Array.getElem?_toList]; exact hu)⟩
theorem arg_one {S : AV → Prop} (hd : Dec P t (fun us => ∃ a, S a ∧ us = [a])) (hv : v.cells.toList = [v]) (h : DataW.Trod enc P w 0 (fun _ => true) true t v d ps) : ∃ a, S a ∧ RelV w H0 a v := by
  obtain ⟨fuel, hf⟩ := h
  rw [hv] at hf
  obtain ⟨us, ⟨a, hs, rfl⟩, hr⟩ := hd T enc w fuel _ _ hf
  exact ⟨a, hs, hr.2 0 a v rfl rfl⟩
end

section
variable {P : Program} {T : Type} {enc : TypeId × Value → T}
theorem Ext.below {W W' : World} (h : Ext W H0 W' H0) : Below W.heap.size W W' := ⟨h.os, h.tape, h.output, h.size, fun k hk => (h.keep k hk rfl).1⟩
theorem trodAll_below (hl : laidOutB P = true) {W W' : World} (hb : Below W.heap.size W W') : ∀ (ts : List TypeId) (vs : List Value) (ds : List (DataW T)) (ps : List MemPlace), (∀ t ∈ ts, P.readableRec t = true ∧ t < P.types.size) →
    DataW.TrodAll enc P W 0 (fun _ => true) true ts vs ds ps → (∀ x ∈ ps, x.block < W.heap.size) → DataW.TrodAll enc P W' 0 (fun b => decide (b < W.heap.size)) true ts vs ds ps
  | [], [], [], ps, _, h, _ => h
  | t :: ts, v :: vs, d :: ds, ps, hr, h, hlt => by
    obtain ⟨p, q, h1, h2, rfl⟩ := h
    exact ⟨p, q, Below.trod hl (hr t (by simp)).1 (hr t (by simp)).2 h1 hb fun x hx => hlt x (by simp [hx]), trodAll_below hl hb ts vs ds q (fun t ht => hr t (by simp [ht])) h2 fun x hx => hlt x (by simp [hx]), rfl⟩
  | [], _ :: _, _, _, _, h, _ => h.elim
  | [], [], _ :: _, _, _, h, _ => h.elim
  | _ :: _, [], _, _, _, h, _ => h.elim
  | _ :: _, _ :: _, [], _, _, h, _ => h.elim
/-- A law that says true, and has written nothing that was there. -/
theorem post_law {fn : Func} {s : ChangeSpec} {apart fresh handsOn : Bool} {W W' : World} {args : Array Value} {ds : List (DataW T)} {before : List MemPlace} {tb : TypeId} (hW : DataW.Whole enc P fn.params.toList s.vars apart W args.toList ds [] before)
    (hx : Ext W H0 W' H0) (hl : laidOutB P = true) (hr : ∀ t ∈ fn.params.toList, P.readableRec t = true ∧ t < P.types.size) (hrt : fn.resultTypes = #[tb]) (hb : P.underlying tb = some .bool) (hv : s.vars = [])
    (e1 : (s.fn T (ds ++ [])).results = [.lit (.bool true)]) (e2 : (s.fn T (ds ++ [])).args = ds) (e3 : (s.fn T (ds ++ [])).vars = []) : s.post enc P fn apart fresh handsOn false W args (.bool true) W' := by
  have hW' := hW
  obtain ⟨p, q, hA, hV, rfl, hfz, hnd⟩ := hW
  rw [hv] at hV
  have hq : q = [] := hV
  subst hq
  refine ⟨ds, [], _, [], p, [], hW', ?_, ?_, ?_, hx.below.frame _, fun h => by cases h⟩
  · rw [hrt, e1]
    exact trodAll_mk1 (shut_bool hb true)
  · rw [e2]
    exact trodAll_below hl hx.below _ _ _ _ hr hA fun x hx' => by simpa using hW'.lt x (by simpa using hx')
  · rw [hv, e3]
    exact rfl
/-- Out of a contract where nothing is owned. -/
theorem law_calls {f : FuncId} {avs : List AV} {args : Array Value} {W : World} (h : PCall P f avs H0 (.raw (.bool true))) (ha : RelL W H0 avs args.toList) : Calls P f args W fun e W' => e = .returned (.bool true) ∧ Ext W H0 W' H0 := by
  refine (h W args (relW_none W) ⟨by rw [ha.1]; simp, fun i a v h1 h2 => ha.2 i a v h1 (by rw [Array.getElem?_toList]; exact h2)⟩).mono ?_
  rintro e w' ⟨v, r, H', rfl, ⟨rfl, rfl⟩, _, g2, g3⟩
  have := raw_inv g2
  subst this
  exact ⟨rfl, g3⟩
end
end Go.Fc
