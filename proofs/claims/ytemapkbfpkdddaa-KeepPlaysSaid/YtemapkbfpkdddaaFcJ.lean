/- Rows that a call itself appends to, and letting them be read only from then on. No conditions but room for what is appended. -/
import Derived.Test.YtemapkbfpkdddaaFcI
import Derived.Laws.Append
set_option linter.all false
namespace Go.Fc
open Go

def nilA : AV := .raw (.slice none 0 0)

/-- The value a is a slice of a row of one's own that holds css (or nil, or a literal without elements), and beyond H0. -/
def Own (H0 H : Hp) (e : TypeId) (sz : Nat) (a : AV) (css : List (List AV)) : Prop :=
  H0.Sub H ∧ (∀ cs ∈ css, cs.length = sz ∧ ones cs = true) ∧
  ((css = [] ∧ (a = nilA ∨ ∃ f, a = .sl true sz 0 f)) ∨ ∃ b c, a = .raw (.slice (some ⟨b, 0, none⟩) css.length c) ∧ css.length ≤ c ∧ H0 b = none ∧ H b = some ⟨e, css.flatten, c * sz⟩)
def ownsB (a : AV) (b : Nat) : Prop := ∃ n c, a = .raw (.slice (some ⟨b, 0, none⟩) n c)

theorem Own.nil {H0 H : Hp} (h : H0.Sub H) (e : TypeId) (sz : Nat) : Own H0 H e sz nilA [] := ⟨h, fun _ hc => by simp at hc, .inl ⟨rfl, .inl rfl⟩⟩
theorem Own.lit {H0 H : Hp} (h : H0.Sub H) (e : TypeId) (sz : Nat) (f : Nat → List AV) : Own H0 H e sz (.sl true sz 0 f) [] := ⟨h, fun _ hc => by simp at hc, .inl ⟨rfl, .inr ⟨f, rfl⟩⟩⟩
theorem Own.sub {H0 H : Hp} {e : TypeId} {sz : Nat} {a : AV} {css : List (List AV)} (h : Own H0 H e sz a css) : H0.Sub H := h.1
theorem Own.put {H0 H : Hp} {e : TypeId} {sz : Nat} {a : AV} {css : List (List AV)} (h : Own H0 H e sz a css) {b : Nat} {r : Row} (hb : H b = none) : Own H0 (H.put b r) e sz a css := by
  refine ⟨h.1.put r (h.1.none hb), h.2.1, ?_⟩
  rcases h.2.2 with h1 | ⟨b', c, h1, h2, h3, h4⟩
  · exact .inl h1
  · exact .inr ⟨b', c, h1, h2, h3, by rw [Hp.put_ne _ _ (Hp.ne_of h4 hb)]; exact h4⟩

/-- What is appended. -/
def Src (H : Hp) (sz : Nat) (x : AV) (ys : List (List AV)) : Prop :=
  (∀ y ∈ ys, y.length = sz ∧ ones y = true) ∧ ∀ w vx, RelW w H → RelV w H x vx → ∃ A c news, vx = .slice A ys.length c ∧ RelL w H ys.flatten news ∧ (0 < ys.length → ∃ ad, A = some ad ∧ ∀ (j : Nat) v, news[j]? = some v → w.cell? (ad.add j) = some v)

theorem flatten_len {sz : Nat} : ∀ {l : List (List AV)}, (∀ x ∈ l, x.length = sz) → l.flatten.length = l.length * sz
  | [], _ => by simp
  | x :: l, h => by
    have ih := flatten_len (l := l) (fun y hy => h y (by simp [hy]))
    have hx := h x (by simp)
    simp only [List.flatten_cons, List.length_append, hx, ih, List.length_cons, Nat.add_mul, Nat.one_mul]
    omega
theorem flatten_get {sz : Nat} : ∀ {l : List (List AV)} {i j : Nat}, (∀ x ∈ l, x.length = sz) → i < l.length → j < sz → l.flatten[i * sz + j]? = (l.getD i [])[j]?
  | [], i, j, _, h, _ => by simp at h
  | x :: l, i, j, hx, hi, hj => by
    have hxl := hx x (by simp)
    cases i with
    | zero => simp only [List.flatten_cons, Nat.zero_mul, Nat.zero_add, List.getD_cons_zero]; rw [List.getElem?_append_left (by omega)]
    | succ i =>
      simp only [List.flatten_cons, List.getD_cons_succ]
      rw [List.getElem?_append_right (by rw [Nat.add_mul]; omega), hxl, show (i + 1) * sz + j - sz = i * sz + j by rw [Nat.add_mul]; omega]
      exact flatten_get (fun y hy => hx y (by simp [hy])) (by simpa using hi) hj
theorem idx_lt {i j n sz : Nat} (hi : i < n) (hj : j < sz) : i * sz + j < n * sz := by
  have := Nat.mul_le_mul_right sz (show i + 1 ≤ n from hi)
  rw [Nat.add_mul] at this; omega
theorem idx_split {k n sz : Nat} (h : k < n * sz) : ∃ i j, i < n ∧ j < sz ∧ k = i * sz + j := by
  have hz : 0 < sz := by rcases Nat.eq_zero_or_pos sz with rfl | h' <;> simp_all
  exact ⟨k / sz, k % sz, by rw [Nat.div_lt_iff_lt_mul hz]; exact h, Nat.mod_lt _ hz, by rw [Nat.mul_comm]; exact (Nat.div_add_mod k sz).symm⟩

theorem src_sl {H : Hp} {sz n : Nat} {x : Bool} {f : Nat → List AV} {ys : List (List AV)} (hn : ys.length = n) (hy : ∀ i, i < n → ys.getD i [] = f i) (ho : ∀ i, i < n → (f i).length = sz ∧ ones (f i) = true) : Src H sz (.sl x sz n f) ys := by
  have hmem : ∀ y ∈ ys, ∃ i, i < n ∧ y = f i := fun y hy' => by
    obtain ⟨i, hi⟩ := List.getElem?_of_mem hy'
    have hlt := (List.getElem?_eq_some_iff.1 hi).1
    exact ⟨i, by omega, by rw [← hy i (by omega)]; simp [hi]⟩
  refine ⟨fun y h => by obtain ⟨i, hi, rfl⟩ := hmem y h; exact ho i hi, fun w vx _ hr => ?_⟩
  cases hr with
  | sl0 _ _ _ A c _ =>
    have : ys = [] := by simpa using hn
    subst this
    exact ⟨A, c, [], rfl, ⟨rfl, fun i a v h => by simp at h⟩, fun h => by simp at h⟩
  | sl _ _ _ _ ad c vs hn' hc hx hsz hb hH hcell hr =>
    have hall : ∀ y ∈ ys, y.length = sz := fun y h => by obtain ⟨i, hi, rfl⟩ := hmem y h; exact (ho i hi).1
    have hfl := flatten_len hall
    refine ⟨some ad, c, (List.range (n * sz)).map vs, by rw [hn], ⟨by simp [hfl, hn], fun k a v ha hv => ?_⟩, fun _ => ⟨ad, rfl, fun k v hv => ?_⟩⟩
    · have hk : k < n * sz := by have := (List.getElem?_eq_some_iff.1 ha).1; rw [hfl, hn] at this; exact this
      obtain ⟨i, j, hi, hj, rfl⟩ := idx_split hk
      rw [flatten_get hall (by omega) hj, hy i hi] at ha
      simp only [List.getElem?_map, List.getElem?_range hk, Option.map_some, Option.some.injEq] at hv
      subst hv
      exact hr i j a hi ha
    · have hk : k < n * sz := by have := (List.getElem?_eq_some_iff.1 hv).1; simpa using this
      obtain ⟨i, j, hi, hj, rfl⟩ := idx_split hk
      simp only [List.getElem?_map, List.getElem?_range hk, Option.map_some, Option.some.injEq] at hv
      subst hv
      exact hcell i j hi hj
theorem src_nil {H : Hp} {sz : Nat} : Src H sz nilA [] := ⟨fun y h => by simp at h, fun w vx _ hr => by
  have := raw_inv hr
  subst this
  exact ⟨none, 0, [], rfl, ⟨rfl, fun i a v h => by simp at h⟩, fun h => by simp at h⟩⟩

/-- Bytes of an element. -/
def bytesT (P : Program) (t : TypeId) : Nat := ((P.info? t).map (·.bytes)).getD 0

theorem grow_row {H H0 : Hp} {e : TypeId} {sz need cap : Nat} {w : World} {css : List (List AV)} {vals : List Value} {rest : Array Value} (hw : RelW w H) (hs : H0.Sub H) (hlen1 : ∀ cs ∈ css, cs.length = sz ∧ ones cs = true) (hrel : RelL w H css.flatten vals) (hcl : css.length = need) (hcap : need ≤ cap)
    (hrest : rest.size = (cap - need) * sz) :
    RelW (w.drew.alloc (.cells (vals.toArray ++ rest) e)) (H.put w.heap.size ⟨e, css.flatten, cap * sz⟩) ∧ Ext w H (w.drew.alloc (.cells (vals.toArray ++ rest) e)) (H.put w.heap.size ⟨e, css.flatten, cap * sz⟩) ∧
    Own H0 (H.put w.heap.size ⟨e, css.flatten, cap * sz⟩) e sz (.raw (.slice (some ⟨w.heap.size, 0, none⟩) need cap)) css ∧ H w.heap.size = none := by
  have hlen : ∀ cs ∈ css, cs.length = sz := fun cs h => (hlen1 cs h).1
  have hw' := hw.drew
  have hfl := flatten_len hlen
  have hvl : vals.length = need * sz := by rw [← hrel.1, hfl, hcl]
  have hsz : (vals.toArray ++ rest).size = cap * sz := by
    simp only [Array.size_append, List.size_toArray, hvl, hrest]
    rw [← Nat.add_mul]; congr 1; omega
  have hfree : H w.heap.size = none := hw.ge (Nat.le_refl _)
  have e1 := (Ext.drew w H).trans (Ext.alloc_own hw' (.cells (vals.toArray ++ rest) e) ⟨e, css.flatten, cap * sz⟩)
  have r1 := RelW.alloc_own hw' e (vals.toArray ++ rest) css.flatten (by rw [hfl, hcl, hsz]; exact Nat.mul_le_mul_right _ hcap) (fun i a v ha hv => by
    have hi : i < vals.length := by rw [← hrel.1]; exact (List.getElem?_eq_some_iff.1 ha).1
    rw [Array.getElem?_append_left (by simpa using hi)] at hv
    exact (hrel.2 i a v ha (by simpa using hv)).ext (Ext.drew w H))
  rw [hsz] at r1
  refine ⟨r1, e1, ⟨hs.put _ (hs.none hfree), hlen1, .inr ⟨w.heap.size, cap, by rw [hcl], by omega, hs.none hfree, Hp.put_same _ _ _⟩⟩, hfree⟩

theorem append_own {P : Program} {H0 H : Hp} {t e : TypeId} {sz : Nat} {a x : AV} {css ys : List (List AV)} {K : AV → Hp → Prop} (hu : P.underlying t = some (.slice e)) (hsz : szOf P e = some sz) (hz : (zeroL P e).map List.length = some sz)
    (ha : Own H0 H e sz a css) (hx : Src H sz x ys) (hroom : (css.length + ys.length) * bytesT P e ≤ 140737488355328) (h63 : css.length + ys.length ≤ 9223372036854775807)
    (hk : ∀ a' H', Own H0 H' e sz a' (css ++ ys) → (∀ c r, H c = some r → ¬ ownsB a c → H' c = some r) → K a' H') : AppendVC P t a x H K := by
  intro w va vx ty hw hra hrx
  obtain ⟨hs, hlen1, hform⟩ := ha
  have hlen : ∀ cs ∈ css, cs.length = sz := fun cs h => (hlen1 cs h).1
  obtain ⟨hys, hsrc⟩ := hx
  obtain ⟨A, c, news, rfl, hnews, haddr⟩ := hsrc w vx hw hrx
  have hfl : ys.flatten.length = ys.length * sz := flatten_len fun y hy => (hys y hy).1
  have hnl : news.length = ys.length * sz := by rw [← hnews.1, hfl]
  have hlen1' : ∀ cs ∈ css ++ ys, cs.length = sz ∧ ones cs = true := fun cs h => by
    rcases List.mem_append.1 h with h | h
    · exact hlen1 cs h
    · exact hys cs h
  have hlen' : ∀ cs ∈ css ++ ys, cs.length = sz := fun cs h => (hlen1' cs h).1
  -- the element's row of the table
  obtain ⟨i, hi, hisz⟩ : ∃ i, P.info? e = some i ∧ i.size = sz := by
    unfold szOf at hsz
    cases h : P.info? e with
    | none => rw [h] at hsz; cases hsz
    | some i => rw [h] at hsz; exact ⟨i, rfl, by simpa using hsz⟩
  obtain ⟨z, hiz, hzs⟩ : ∃ z, i.zero = some z ∧ z.cells.size = sz := by
    unfold zeroL at hz
    rw [hi] at hz
    simp only [Option.bind_some, Option.map_map, Option.map_eq_some_iff] at hz
    obtain ⟨z, hz1, hz2⟩ := hz
    exact ⟨z, hz1, by simpa using hz2⟩
  have hby : bytesT P e = i.bytes := by simp [bytesT, hi]
  rw [hby] at hroom
  have hzc : ∀ m, (Builtin.zeroCells z.cells m).size = m * sz := fun m => by simp [Builtin.zeroCells, hzs]
  have hgc : ∀ need old, need ≤ 9223372036854775807 → need ≤ grownCap w need old e := fun need old _ => by
    unfold grownCap Question.cut; simp
  rcases hform with ⟨rfl, hnil⟩ | ⟨b, cap, rfl, hcap, hH0, hH⟩
  · -- nothing there yet
    simp only [List.length_nil, Nat.zero_add, List.nil_append] at *
    by_cases h0 : ys.length = 0
    · have hy0 : ys = [] := by simpa using h0
      subst hy0
      obtain ⟨A', rfl⟩ : ∃ A', va = .slice A' 0 0 := by
        rcases hnil with rfl | ⟨f, rfl⟩
        · exact ⟨none, raw_inv hra⟩
        · cases hra with
          | sl0 _ _ _ A' c' hx => exact ⟨A', by rw [hx rfl]⟩
          | sl _ _ _ _ _ _ _ hn => simp at hn
      refine ⟨w, H, a, .slice A' 0 0, ?_, hk a H ⟨hs, fun _ h => by simp at h, .inl ⟨rfl, hnil⟩⟩ (fun _ _ h _ => h), hw, hra, Ext.refl w H⟩
      have hf : ∀ (A : Option Addr), (Builtin.firstCells i.size 0 (.slice A 0 c)).run P w = .ok #[] w := fun A => by
        cases A <;> simp [Builtin.firstCells, loadCells, loadCellsFrom]
      cases A' <;> simp [Builtin.append_, run_underlying hu, sizeOf, typeInfo, hi, Builtin.lenOf, hf, storeCells]
    · obtain ⟨ad, rfl, hcell⟩ := haddr (by omega)
      have hc0 := hgc ys.length 0 (by omega)
      obtain ⟨A', rfl⟩ : ∃ A', va = .slice A' 0 0 := by
        rcases hnil with rfl | ⟨f, rfl⟩
        · exact ⟨none, raw_inv hra⟩
        · cases hra with
          | sl0 _ _ _ A' c' hx => exact ⟨A', by rw [hx rfl]⟩
          | sl _ _ _ _ _ _ _ hn => simp at hn
      obtain ⟨g1, g2, g3, g4⟩ := grow_row (rest := Builtin.zeroCells z.cells (grownCap w ys.length 0 e - ys.length)) hw hs hlen1' hnews rfl hc0 (hzc _)
      refine ⟨_, _, _, _, ?_, hk _ _ g3 (fun c r hc _ => by rw [Hp.put_ne _ _ (Hp.ne_of hc g4)]; exact hc), g1, .raw _, g2⟩
      cases A' with
      | none =>
        exact run_append_nil w t ty e i z hu hi hiz ad ys.length c news (by rw [hisz]; exact hnl) hcell (by omega) (by omega) (by omega)
      | some b =>
        have := run_append_grow (P := P) w t ty e i z hu hi hiz b 0 0 [] (by simp) (fun j v h => by simp at h) ad ys.length c news (by rw [hisz]; exact hnl) hcell (by omega) (by simp; omega) (by
          rw [Nat.zero_add, nextslicecap_zero (by omega)]; omega)
        simpa using this
  · -- a row of one's own
    have hva := raw_inv hra
    subst hva
    obtain ⟨cur, hh, hcs, hcl, hcr⟩ := hw b _ hH
    simp only at hh hcs hcl hcr
    have hcfl := flatten_len hlen
    by_cases hfit : css.length + ys.length ≤ cap
    · -- in place
      have hfit' : css.length * sz + ys.flatten.length ≤ cap * sz := by
        rw [hfl, ← Nat.add_mul]; exact Nat.mul_le_mul_right _ hfit
      have hst := run_storeCells_at P b (css.length * sz) e news 0 cur w hh (by rw [Nat.add_zero, hnl, hcs, ← hfl]; exact hfit') (hnews.ones (by
        simp only [ones, List.all_eq_true]
        intro u hu'
        obtain ⟨y, hy, huy⟩ := List.mem_flatten.1 hu'
        have := (hys y hy).2
        simp only [ones, List.all_eq_true] at this
        exact this u huy))
      rw [Nat.add_zero] at hst
      generalize hcur : (cur.toList.take (css.length * sz) ++ news ++ cur.toList.drop (css.length * sz + news.length)).toArray = cur' at hst
      have hsz' : cur'.size = cap * sz := by
        subst hcur
        rw [hfl] at hfit'
        simp only [List.size_toArray, List.length_append, List.length_take, List.length_drop, Array.length_toList, hnl, hcs]
        omega
      have hheap : (w.setRow b cur').heap[b]? = some (.cells cur' e (0, 0)) := setRow_heap w b cur cur' e (0, 0) hh
      have hoth : ∀ c, c ≠ b → (w.setRow b cur').heap[c]? = w.heap[c]? := fun c hc => setRow_other w b c cur' hc
      have hsame : (w.setRow b cur').heap.size = w.heap.size := size_setRow w b cur'
      have hw2 := RelW.write hw hH (w' := w.setRow b cur') rfl rfl rfl hsame hoth e cur' (css ++ ys).flatten hheap (by rw [flatten_len hlen', hsz', List.length_append]; exact Nat.mul_le_mul_right _ hfit) (fun k a v ha' hv => by
        subst hcur
        simp only [List.flatten_append] at ha'
        simp only [List.getElem?_toArray] at hv
        rcases Nat.lt_or_ge k (css.length * sz) with h1 | h1
        · rw [List.getElem?_append_left (by rw [hcfl]; exact h1)] at ha'
          rw [List.append_assoc, List.getElem?_append_left (by simp only [List.length_take, Array.length_toList, hcs]; have := Nat.mul_le_mul_right sz hcap; omega), List.getElem?_take, if_pos h1] at hv
          exact hcr k a v ha' (by simpa using hv)
        · rw [List.getElem?_append_right (by rw [hcfl]; exact h1), hcfl] at ha'
          have hm : min (css.length * sz) cur.size = css.length * sz := by have := Nat.mul_le_mul_right sz hcap; omega
          have h2 : k - css.length * sz < news.length := by rw [← hnews.1]; exact (List.getElem?_eq_some_iff.1 ha').1
          rw [List.append_assoc, List.getElem?_append_right (by simp only [List.length_take, Array.length_toList, hm]; exact h1), List.getElem?_append_left (by simp only [List.length_take, Array.length_toList, hm]; exact h2)] at hv
          simp only [List.length_take, Array.length_toList, hm] at hv
          exact hnews.2 _ a v ha' hv)
      rw [hsz'] at hw2
      have hex : Ext w H (w.setRow b cur') (H.put b ⟨e, (css ++ ys).flatten, cap * sz⟩) := Ext.write hH rfl rfl rfl hsame hoth
      refine ⟨w.setRow b cur', _, .raw (.slice (some ⟨b, 0, none⟩) (css.length + ys.length) cap), .slice (some ⟨b, 0, none⟩) (css.length + ys.length) cap, ?_, hk _ (H.put b ⟨e, (css ++ ys).flatten, cap * sz⟩) ?_ ?_, hw2, .raw _, hex⟩
      · have hf : (Builtin.firstCells i.size ys.length (.slice A ys.length c)).run P w = .ok news.toArray w := by
          by_cases h0 : ys.length = 0
          · have : news = [] := by have := hnl; rw [h0, Nat.zero_mul] at this; simpa using this
            subst this
            rw [h0]
            cases A <;> simp [Builtin.firstCells, loadCells, loadCellsFrom]
          · obtain ⟨ad, rfl, hcell⟩ := haddr (by omega)
            exact run_firstCells_some (P := P) w i.size ys.length ad ys.length c news (by rw [hisz]; exact hnl) hcell
        have hadd : (⟨b, 0, none⟩ : Addr).add (css.length * sz) = ⟨b, css.length * sz, none⟩ := by rw [add_plain]; simp
        rw [hisz] at hf
        simp [Builtin.append_, run_underlying hu, sizeOf, typeInfo, hi, Builtin.lenOf, hfit, hf, hisz, hadd, hst]
      · refine ⟨fun c' r hc' => ?_, hlen1', .inr ⟨b, cap, by simp, by simpa using hfit, hH0, Hp.put_same _ _ _⟩⟩
        have hne : c' ≠ b := fun e' => by rw [e', hH0] at hc'; cases hc'
        rw [Hp.put_ne _ _ hne]; exact hs c' r hc'
      · intro c' r hc' hno
        have hne : c' ≠ b := fun e' => hno ⟨_, _, by rw [e']⟩
        rw [Hp.put_ne _ _ hne]; exact hc'
    · -- a new row
      have hpos : 0 < ys.length := by omega
      obtain ⟨ad, rfl, hcell⟩ := haddr hpos
      have hc0 := hgc (css.length + ys.length) cap (by omega)
      have hcur : ∀ k, k < css.length * sz → k < cur.size := fun k hk => by have := Nat.mul_le_mul_right sz hcap; omega
      have holds : RelL w H css.flatten (cur.toList.take (css.length * sz)) := by
        refine ⟨by simp only [List.length_take, Array.length_toList, hcfl, hcs]; have := Nat.mul_le_mul_right sz hcap; omega, fun k a v ha' hv => ?_⟩
        rw [List.getElem?_take] at hv
        split at hv
        · exact hcr k a v ha' (by simpa using hv)
        · cases hv
      have hall := holds.append hnews
      rw [← List.flatten_append] at hall
      obtain ⟨g1, g2, g3, g4⟩ := grow_row (rest := Builtin.zeroCells z.cells (grownCap w (css.length + ys.length) cap e - (css.length + ys.length))) hw hs hlen1' hall (by simp) hc0 (hzc _)
      refine ⟨_, _, _, _, ?_, hk _ _ g3 (fun c r hc _ => by rw [Hp.put_ne _ _ (Hp.ne_of hc g4)]; exact hc), g1, .raw _, g2⟩
      have := run_append_grow (P := P) w t ty e i z hu hi hiz ⟨b, 0, none⟩ css.length cap (cur.toList.take (css.length * sz)) (by rw [← holds.1, hcfl, hisz]) (fun k v hv => by
        rw [List.getElem?_take] at hv
        split at hv
        · rw [add_plain, cell_of b _ cur e (0, 0) hh, Nat.zero_add]; simpa using hv
        · cases hv) ad ys.length c news (by rw [hisz]; exact hnl) hcell (by omega) (by omega) (growslice_fits (by omega) (by omega))
      rw [this]
      congr 3
      apply Array.ext'
      simp

/-- From then on it is only read. -/
theorem Own.freeze {H0 H : Hp} {e : TypeId} {sz n : Nat} {a : AV} {css : List (List AV)} {f : Nat → List AV} (h : Own H0 H e sz a css) (hn : css.length = n) (hf : ∀ i, i < n → css.getD i [] = f i) : RLe a H (.sl false sz n f) H0 := by
  intro w v hw hv
  obtain ⟨hs, hlen1, hform⟩ := h
  have hlen : ∀ cs ∈ css, cs.length = sz := fun cs h => (hlen1 cs h).1
  have hd := Ext.drop (w := w) hs
  refine ⟨hw.drop hs, ?_, hd⟩
  rcases hform with ⟨rfl, hnil⟩ | ⟨b, c, rfl, hc, hH0, hH⟩
  · simp only [List.length_nil] at hn
    subst hn
    rcases hnil with rfl | ⟨g, rfl⟩
    · have := raw_inv hv; subst this; exact .sl0 _ _ _ _ _ (fun h => by cases h)
    · cases hv with
      | sl0 _ _ _ A c hx => exact .sl0 _ _ _ _ _ (fun h => by cases h)
      | sl _ _ _ _ _ _ _ hn => simp at hn
  · have := raw_inv hv
    subst this
    obtain ⟨cur, hh, hcs, hcl, hcr⟩ := hw b _ hH
    simp only at hh hcs hcl hcr
    have hcfl := flatten_len hlen
    by_cases h0 : n = 0
    · rw [h0, hn, h0]; exact .sl0 _ _ _ _ _ (fun h => by cases h)
    · have hfl : ∀ i, i < n → (f i).length = sz := fun i hi => by
        rw [← hf i hi]
        have : css.getD i [] = css[i]'(by omega) := by simp [show i < css.length by omega]
        rw [this]; exact hlen _ (List.getElem_mem _)
      rw [hn]
      have hb : b < w.heap.size := (Array.getElem?_eq_some_iff.1 hh).1
      refine .sl false sz n f ⟨b, 0, none⟩ c (fun j => cur.getD j undef) (by omega) (by omega) (fun h => by cases h) hfl hb hH0 (fun i j hi hj => ?_) (fun i j u hi hu => ?_)
      · have h1 := idx_lt hi hj
        have h2 : i * sz + j < cur.size := by rw [hcfl, hn] at hcl; omega
        rw [add_plain, cell_of b _ cur e (0, 0) hh, Nat.zero_add]
        simp [h2]
      · have hj : j < sz := by have := (List.getElem?_eq_some_iff.1 hu).1; rwa [hfl i hi] at this
        have h1 := idx_lt hi hj
        have h2 : i * sz + j < cur.size := by rw [hcfl, hn] at hcl; omega
        exact (hcr (i * sz + j) u (cur.getD (i * sz + j) undef) (by rw [flatten_get hlen (by omega) hj, hf i hi]; exact hu) (by simp [h2])).ext hd
end Go.Fc
