/- Texts, numbers, lists: small things for the laws of diff. What is unlike in two views, as functions. What is unlike in two views: the document's. No conditions. -/
import Derived.Test.YtflopjbjlbkgnaaDoorGdTm
import Derived.Test.YtflopjbjlbkgnaaDoorGdY
import Derived.Test.YtflopjbjlbkgnaaDoorGdQ
import Derived.Test.YtflopjbjlbkgnaaDoorShelf
import Derived.Lib.ItoaNum
import Derived.Lib.ItoaLen
set_option linter.all false
namespace Go.Gd
open Go
abbrev rI (n : Int) : AV := .raw (.int .i64 n)
abbrev rS (s : ByteArray) : AV := .raw (.string s)
abbrev rB (b : Bool) : AV := .raw (.bool b)
def itoaB (n : Int) : ByteArray := ⟨(Lib.itoa n).toArray⟩
theorem nth_mem {α : Type} [Inhabited α] {l : List α} {k : Nat} (h : k < l.length) : nth l k ∈ l := by
  rw [nth_get h]; exact List.getElem_mem h
theorem list_ext_nth {α : Type} [Inhabited α] {a b : List α} (hl : a.length = b.length) (h : ∀ j, j < a.length → nth a j = nth b j) : a = b := by
  refine List.ext_getElem hl fun i h1 h2 => ?_
  have := h i h1
  rwa [nth_get h1, nth_get h2] at this
/-- A contract of the library that reads package-level variables, in which nothing that was there is changed. -/
theorem pcall_belowG {P : Program} {f : FuncId} {args : List AV} {r : AV} (vals : List Value) (v : Value) (ha : args = vals.map .raw) (hr : ∀ w : NW, RelV w r v) (h : ∀ w : NW, Glob w → Calls P f vals.toArray w.toWorld fun e w' => e = .returned v ∧ RowKit.Below w.heap.size w.toWorld w') : PCall P f args r := by
  intro w vs h1 h2
  have hvs : vs = vals.toArray := by
    apply Array.ext'
    apply List.ext_getElem?
    intro i
    obtain ⟨hl, hv⟩ := h2
    subst ha
    by_cases hi : i < vals.length
    · have hi' : i < vs.size := by rw [← hl]; simpa using hi
      have := raw_inv (hv i (.raw vals[i]) vs[i] (by simp [hi]) (by simp [hi']))
      simp [hi, hi', this]
    · have hi' : ¬ i < vs.size := by rw [← hl]; simpa using hi
      rw [List.getElem?_eq_none (by simpa using hi'), List.getElem?_eq_none (by simpa using hi)]
  subst hvs
  refine (h w h1.glob).mono ?_
  rintro e W ⟨rfl, hb⟩
  have ex : Ext w (entry []) (w.to W) (entry []) := { size := hb.size, free := fun b hb' hO => ⟨hb.block b hb', hO⟩, names := fun _ _ _ _ h => h, os := hb.os, tape := hb.tape, output := hb.output, rest := fun b hb' hO hno => ⟨hb.block b hb', hO, hno⟩, base := rfl }
  refine ⟨v, r, entry [], w.to W, rfl, rfl, ⟨rfl, rfl⟩, { rows := fun i row hi => (by cases hi), dom := h1.dom, inj := h1.inj, own := h1.own, glob := h1.glob.keep ex.toKeep, fin := fun b hb' => Nat.lt_of_lt_of_le (h1.fin b hb') hb.size }, hr _, ex.toB⟩
/-- What an int may be. -/
def rng (n : Int) : Prop := -9223372036854775808 ≤ n ∧ n ≤ 9223372036854775807
@[go_sem] theorem bsize1 (a : UInt8) : (#[a] : Array UInt8).size = 1 := (rfl)
@[go_sem] theorem bsize2 (a b : UInt8) : (#[a, b] : Array UInt8).size = 2 := (rfl)
@[go_sem] theorem bsize3 (a b c : UInt8) : (#[a, b, c] : Array UInt8).size = 3 := (rfl)
@[go_sem] theorem bsize4 (a b c d : UInt8) : (#[a, b, c, d] : Array UInt8).size = 4 := (rfl)
@[go_sem] theorem bsize5 (a b c d e : UInt8) : (#[a, b, c, d, e] : Array UInt8).size = 5 := (rfl)
@[go_sem] theorem bsize6 (a b c d e f : UInt8) : (#[a, b, c, d, e, f] : Array UInt8).size = 6 := (rfl)
@[go_sem] theorem bsize7 (a b c d e f g : UInt8) : (#[a, b, c, d, e, f, g] : Array UInt8).size = 7 := (rfl)
@[go_sem] theorem bsize8 (a b c d e f g h : UInt8) : (#[a, b, c, d, e, f, g, h] : Array UInt8).size = 8 := (rfl)
attribute [go_sem] List.take_zero
theorem itoa_size {n : Int} (h : rng n) : (itoaB n).size ≤ 21 := by
  have := Lib.itoa_length_le n h.1 h.2
  show (Lib.itoa n).toArray.size ≤ 21
  simpa using this
theorem ba_ext {a b : ByteArray} (h : a.data.toList = b.data.toList) : a = b := by
  cases a; cases b
  simp only [ByteArray.mk.injEq]
  exact Array.ext' h
theorem ba_app (a b : ByteArray) : (a ++ b).data.toList = a.data.toList ++ b.data.toList := by simp
theorem itoa_zero : itoaB 0 = (⟨#[48]⟩ : ByteArray) := by
  apply ba_ext
  unfold itoaB Lib.itoa
  rw [if_neg (by decide), Lib.decDigits]
  rfl
@[go_sem] theorem vcD_lookup {P : Program} {ev : Operand → AV} {H : Hp} {ty : TypeId} {K : AV → Hp → Prop} (t : TypeId) (m k : Operand) (c : Bool) : vcD P ev H ty K (.lookup t m k c) = OpVC P (.lookup t m k c) ty ev H K := (vcD_other (by simp [eqOp]) (by simp [isLit])).trans (vc_lookup t m k c)
@[go_sem] theorem rowQ_mp (q : Nat → Bool) (ks : List Value) (vs : List AV) : rowQ q (.mp ks vs) = (allL q vs = true) := (rfl)
@[go_sem] theorem mapTs_is : mapTs.contains 54 = true := (rfl)
@[go_sem] theorem mapTs_ss : mapTs.contains 50 = true := (rfl)
end Go.Gd
namespace Go.Proofs.YtflopjbjlbkgnaaDoor
open Go Go.Gd
set_option maxHeartbeats 4000000
set_option maxRecDepth 10000
theorem tab_is (w : NW) (hg : Glob w) : Lib.TabIs Tryd.prog w.toWorld "internal/strconv.uint64pow10" .u64 Lib.pow10Tab := by
  obtain ⟨⟨cur, el, fr, h1, h2⟩, _⟩ := hg 0 (Lib.pow10Tab.map (Value.int .u64)) (by unfold globs; simp)
  unfold Lib.TabIs World.var?
  rw [show Tryd.prog.globalNamed "internal/strconv.uint64pow10" = some 0 by kernel_rfl]
  simp only [Option.bind_some, h1, Option.some.injEq]
  apply Array.ext'
  simpa using h2
theorem itoa_c (n : Int) (h : rng n) : PCall Tryd.prog 15 [rI n] (rS (itoaB n)) := by
  refine pcall_belowG [.int .i64 n] (.string (itoaB n)) rfl (fun w => .raw _) fun w hg => ?_
  refine (Tryd.strconv_Itoa n h.1 h.2 w.toWorld (tab_is w hg)).mono ?_
  rintro e W ⟨rfl, k, os, rfl⟩
  refine ⟨rfl, ⟨rfl, rfl, rfl, ?_, fun b hb => ?_⟩⟩
  · show w.heap.size ≤ (w.heap ++ os).size
    simp
  · show (w.heap ++ os)[b]? = w.heap[b]?
    rw [Array.getElem?_append_left hb]
theorem texts12_c (a b : List ByteArray) (ha : a.length ≤ 1000000000) : PCall Tryd.prog 7 [slOf eS 1 a, slOf eS 1 b] (rB (decide (a = b))) := by
  refine entP Tryd.func7 Tryd.ntmps7 ?_
  (repeat' (first
    | refine awp_seq_k fun K hK => ?_
    | refine wkA ?_
    | (with_reducible refine gR 6 ?_); refine dE 6 [0, 1, 2, 3, 4, 5, 6, 7, 8] mixed ?_
    | (refine hK _ _ ?_; clear hK K)
    | (refine wcond (fun hc => ?_) (fun hc => ?_) <;> first | contradiction | (exfalso; omega) | skip)
    | (refine wbr (fun hc => ?_) (fun hc => ?_) <;> first | contradiction | (exfalso; omega) | skip)
    | refine wkB ?_
    | exact True.intro
    | (clear hK K)))
  · (refine retd [.tmp 4] ?_; try simp only [go_sem])
    rw [show decide (a = b) = false from decide_eq_false fun h => hc (by rw [h])]
  have hl : a.length = b.length := by omega
  have hKo := hK; clear hK
  refine awp_loop_inv (S := Nat) [(4, 2), (11, 15)] (fun k => k ≤ a.length ∧ ∀ j, j < k → nth a j = nth b j) (fun k => [(5, rI k)]) (fun k => ⟨[], []⟩) (fun k => a.length - k) 0 ⟨by omega, fun j h => by omega⟩ (fle_at (by simp only [go_sem]) lle) ?_
  rintro k ⟨hk1, hk2⟩ Kr hKr
  (refine S ?_; try exact True.intro)
  (repeat' (first
    | refine awp_seq_k fun K hK => ?_
    | refine wkA ?_
    | (with_reducible refine gR 6 ?_); refine dE 6 [0, 1, 2, 3, 4, 5, 6, 7, 8] mixed ?_
    | (refine hK _ _ ?_; clear hK K)
    | (refine wcond (fun hc => ?_) (fun hc => ?_) <;> first | contradiction | (exfalso; omega) | skip)
    | (refine hKo _ _ ?_)
    | (refine wbr (fun hc => ?_) (fun hc => ?_) <;> first | contradiction | (exfalso; omega) | skip)
    | refine wkB ?_
    | exact True.intro
    | (clear hK K)))
  · (refine retd [.tmp 4] ?_; try simp only [go_sem])
    rw [show decide (a = b) = false from decide_eq_false fun h => hc (by rw [h])]
  · refine hKr _ _ (next_mk (k + 1) ⟨by omega, fun j hj => ?_⟩ (by (try simp only); omega) (by simp only [go_sem]) lle)
    by_cases h : j < k
    · exact hk2 j h
    · rw [show j = k by omega]; exact hc
  · (refine retd [.tmp 4] ?_; try simp only [go_sem])
    rw [show decide (a = b) = true from decide_eq_true (list_ext_nth hl fun j hj => hk2 j (by omega))]
theorem eqsh_c (a b : List GShown) (ha : a.length ≤ 1000000000) : PCall Tryd.prog 22 [slOf eGShown 2 a, slOf eGShown 2 b] (rB (decide (a = b))) := by
  refine entP Tryd.func22 Tryd.ntmps22 ?_
  (repeat' (first
    | refine awp_seq_k fun K hK => ?_
    | refine wkA ?_
    | (with_reducible refine gR 6 ?_); refine dE 6 [0, 1, 2, 3, 4, 5, 6, 7, 8] mixed ?_
    | (refine hK _ _ ?_; clear hK K)
    | (refine wcond (fun hc => ?_) (fun hc => ?_) <;> first | contradiction | (exfalso; omega) | skip)
    | (refine wbr (fun hc => ?_) (fun hc => ?_) <;> first | contradiction | (exfalso; omega) | skip)
    | refine wkB ?_
    | exact True.intro
    | (clear hK K)))
  · (refine retd [.tmp 4] ?_; try simp only [go_sem])
    rw [show decide (a = b) = false from decide_eq_false fun h => hc (by rw [h])]
  have hl : a.length = b.length := by omega
  have hKo := hK; clear hK
  refine awp_loop_inv (S := Nat) [(4, 2), (13, 13)] (fun k => k ≤ a.length ∧ ∀ j, j < k → nth a j = nth b j) (fun k => [(13, rI k)]) (fun k => ⟨[], []⟩) (fun k => a.length - k) 0 ⟨by omega, fun j h => by omega⟩ (fle_at (by simp only [go_sem]) lle) ?_
  rintro k ⟨hk1, hk2⟩ Kr hKr
  generalize hx : nth a k = x at *
  generalize hy : nth b k = y at *
  (refine S ?_; try exact True.intro)
  (have W := And.intro hx (hy); repeat' (first
    | refine awp_seq_k fun K hK => ?_
    | refine wkA ?_
    | (with_reducible refine gR 6 ?_); refine dE 6 [0, 1, 2, 3, 4, 5, 6, 7, 8] mixed ?_
    | (refine hK _ _ ?_; clear hK K)
    | (refine wcond (fun hc => ?_) (fun hc => ?_) <;> first | contradiction | (exfalso; omega) | skip)
    | (refine hKo _ _ ?_)
    | (refine wbr (fun hc => ?_) (fun hc => ?_) <;> first | contradiction | (exfalso; omega) | skip)
    | refine wkB ?_
    | exact True.intro
    | (clear hK K))); all_goals (try clear W)
  · (refine retd [.tmp 4] ?_; try simp only [go_sem])
    rw [show decide (a = b) = false from decide_eq_false fun h => hc (by rw [← hx, ← hy, h])]
  · refine hKr _ _ (next_mk (k + 1) ⟨by omega, fun j hj => ?_⟩ (by (try simp only); omega) (by simp only [go_sem]) lle)
    by_cases h : j < k
    · exact hk2 j h
    · rw [show j = k by omega, hx, hy]; exact hc
  · (refine retd [.tmp 4] ?_; try simp only [go_sem])
    rw [show decide (a = b) = true from decide_eq_true (list_ext_nth hl fun j hj => hk2 j (by omega))]
end Go.Proofs.YtflopjbjlbkgnaaDoor

namespace Go.Gd
open Go
/-- The text of a variable; - without it. -/
def findT : List GShown → ByteArray → ByteArray
  | [], _ => (⟨#[45]⟩ : ByteArray)
  | x :: l, n => if x.name = n then x.text else findT l n
def findO : List GShown → ByteArray → Option ByteArray
  | [], _ => none
  | x :: l, n => if x.name = n then some x.text else findO l n
theorem findT_o : ∀ (l : List GShown) (n : ByteArray), findT l n = (findO l n).getD (⟨#[45]⟩ : ByteArray)
  | [], n => rfl
  | x :: l, n => by
    unfold findT findO
    split
    · rfl
    · exact findT_o l n
theorem findO_snoc (x : GShown) (n : ByteArray) : ∀ (l : List GShown), findO (l ++ [x]) n = (findO l n).or (if x.name = n then some x.text else none)
  | [] => by
    show (if x.name = n then some x.text else none) = _
    split <;> rfl
  | y :: l => by
    show (if y.name = n then some y.text else findO (l ++ [x]) n) = ((if y.name = n then some y.text else findO l n) : Option ByteArray).or _
    split
    · rfl
    · exact findO_snoc x n l
/-- A map of names: the first text of each. -/
def putT (a : List ByteArray × List ByteArray) (x : GShown) : List ByteArray × List ByteArray := if (mget x.name a.1 (a.2.map rS)).isSome = true then a else (a.1 ++ [x.name], a.2 ++ [x.text])
def namT (l : List GShown) : List ByteArray × List ByteArray := l.foldl putT ([], [])
theorem namT_snoc (l : List GShown) (x : GShown) : namT (l ++ [x]) = putT (namT l) x := by unfold namT; rw [List.foldl_append]; rfl
theorem mget_app {n k : ByteArray} {v : AV} : ∀ {ks : List ByteArray} {vs : List AV}, ks.length = vs.length → mget n (ks ++ [k]) (vs ++ [v]) = (mget n ks vs).or (if n = k then some v else none)
  | [], [], _ => by
    show (if n = k then some v else mget n [] []) = _
    split <;> rfl
  | [], _ :: _, h => by simp at h
  | _ :: _, [], h => by simp at h
  | k' :: ks, v' :: vs, h => by
    show (if n = k' then some v' else mget n (ks ++ [k]) (vs ++ [v])) = ((if n = k' then some v' else mget n ks vs) : Option AV).or _
    split
    · rfl
    · exact mget_app (by simpa using h)
theorem mnew {n : ByteArray} {x : AV} : ∀ {ks : List ByteArray} {vs : List AV}, ks.length = vs.length → mget n ks vs = none → mkey n ks = ks ++ [n] ∧ mput n x ks vs = vs ++ [x]
  | [], [], _, _ => ⟨rfl, rfl⟩
  | [], _ :: _, h, _ => by simp at h
  | _ :: _, [], h, _ => by simp at h
  | k :: ks, v :: vs, h, hn => by
    have hn : (if n = k then some v else mget n ks vs) = none := hn
    by_cases hk : n = k
    · rw [if_pos hk] at hn; cases hn
    · rw [if_neg hk] at hn
      obtain ⟨a, b⟩ := mnew (n := n) (x := x) (ks := ks) (vs := vs) (by simpa using h) hn
      unfold mkey mput
      rw [if_neg hk, if_neg hk, a, b]
      exact ⟨rfl, rfl⟩
theorem namT_ok (l : List GShown) : (namT l).1.length = (namT l).2.length ∧ ∀ n, mget n (namT l).1 ((namT l).2.map rS) = (findO l n).map rS := by
  suffices h : ∀ k, k ≤ l.length → (namT (l.take k)).1.length = (namT (l.take k)).2.length ∧ ∀ n, mget n (namT (l.take k)).1 ((namT (l.take k)).2.map rS) = (findO (l.take k) n).map rS by
    have := h l.length (Nat.le_refl _)
    rwa [List.take_length] at this
  intro k
  induction k with
  | zero => intro _; exact ⟨rfl, fun n => rfl⟩
  | succ k ih =>
    intro hk
    obtain ⟨h1, h2⟩ := ih (by omega)
    rw [take_nth (by omega), namT_snoc]
    generalize nth l k = x at *
    have hlen : (namT (l.take k)).1.length = ((namT (l.take k)).2.map rS).length := by rw [List.length_map]; exact h1
    have hnn := h2 x.name
    unfold putT
    by_cases hm : (mget x.name (namT (l.take k)).1 ((namT (l.take k)).2.map rS)).isSome = true
    · rw [if_pos hm]
      refine ⟨h1, fun n => ?_⟩
      rw [h2, findO_snoc]
      by_cases e : x.name = n
      · subst e
        rw [hnn] at hm
        cases e2 : findO (l.take k) x.name with
        | none => rw [e2] at hm; exact absurd hm (by simp)
        | some t => rfl
      · rw [if_neg e]; simp
    · rw [if_neg hm]
      refine ⟨by simp [h1], fun n => ?_⟩
      rw [List.map_append]
      show mget n (_ ++ [x.name]) (_ ++ [rS x.text]) = _
      rw [mget_app hlen, h2, findO_snoc]
      by_cases e : x.name = n
      · subst e
        rw [if_pos rfl, if_pos rfl]
        cases findO (l.take k) x.name <;> rfl
      · rw [if_neg e, if_neg (fun h => e h.symm)]; simp
def callS (v : GView) (n : Nat) : GSeen := if n < v.calls.length then nth v.calls n else ⟨⟨#[]⟩, 0, []⟩
def headT (v : GView) (n : Nat) : ByteArray := if n < v.calls.length then (nth v.calls n).name ++ (⟨#[32]⟩ : ByteArray) ++ itoaB (nth v.calls n).line else (⟨#[45]⟩ : ByteArray)
/-- A line of two that are unlike. -/
def lineT (h x y : ByteArray) : ByteArray := h ++ x ++ (⟨#[32, 124, 32]⟩ : ByteArray) ++ y
def putL (h x y : ByteArray) : List ByteArray := if x = y then [] else [lineT h x y]
def mineF (n : Nat) (d : List GShown) (x : GShown) : List ByteArray := putL (itoaB n ++ (⟨#[32]⟩ : ByteArray) ++ x.name ++ (⟨#[32]⟩ : ByteArray)) x.text (findT d x.name)
def otherF (n : Nat) (c : List GShown) (x : GShown) : List ByteArray := if findT c x.name = (⟨#[45]⟩ : ByteArray) then [lineT (itoaB n ++ (⟨#[32]⟩ : ByteArray) ++ x.name ++ (⟨#[32]⟩ : ByteArray)) (⟨#[45]⟩ : ByteArray) x.text] else []
def linesC (n : Nat) (a b : GView) : List ByteArray :=
  putL (itoaB n ++ (⟨#[32]⟩ : ByteArray) ++ (⟨#[97, 116, 32]⟩ : ByteArray)) (headT a n) (headT b n) ++ (callS a n).vars.flatMap (mineF n (callS b n).vars) ++ (callS b n).vars.flatMap (otherF n (callS a n).vars)
def callL (a b : GView) (n : Nat) : List ByteArray :=
  linesC n a b ++ (if linesC n a b = [] ∧ (callS a n).vars ≠ (callS b n).vars then [itoaB n ++ (⟨#[32]⟩ : ByteArray) ++ (⟨#[118, 97, 114, 115]⟩ : ByteArray)] else [])
/-- How long two lists are alike. -/
def preN : List ByteArray → List ByteArray → Nat
  | x :: a, y :: b => if x = y then preN a b + 1 else 0
  | _, _ => 0
def outA (x : ByteArray) : ByteArray := (⟨#[111, 117, 116, 32]⟩ : ByteArray) ++ x ++ (⟨#[32, 124, 32]⟩ : ByteArray) ++ (⟨#[45]⟩ : ByteArray)
def outB (x : ByteArray) : ByteArray := (⟨#[111, 117, 116, 32, 45, 32, 124, 32]⟩ : ByteArray) ++ x
def outL (a b : List ByteArray) : List ByteArray := (a.drop (preN a b)).map outA ++ (b.drop (preN a b)).map outB
def standW (s t : Int) : ByteArray := if s = 0 then (⟨#[114, 117, 110, 115]⟩ : ByteArray) else if s = 1 then (⟨#[119, 97, 105, 116, 115]⟩ : ByteArray) else if s = 2 then (⟨#[101, 110, 100, 115]⟩ : ByteArray) else (⟨#[102, 97, 108, 108, 115, 32]⟩ : ByteArray) ++ itoaB t
def manyC (a b : GView) (k : Nat) : List ByteArray := (List.range k).flatMap (callL a b)
def diffL (a b : GView) : List ByteArray :=
  manyC a b (max a.calls.length b.calls.length) ++ outL a.out_ b.out_ ++ putL (⟨#[105, 110, 32]⟩ : ByteArray) (itoaB a.in_) (itoaB b.in_) ++
    (if a.status ≠ b.status ∨ a.trap ≠ b.trap then [standW a.status a.trap ++ (⟨#[32, 124, 32]⟩ : ByteArray) ++ standW b.status b.trap] else [])
theorem manyC_snoc (a b : GView) (k : Nat) : manyC a b (k + 1) = manyC a b k ++ callL a b k := by unfold manyC; rw [List.range_succ, List.flatMap_append]; simp
theorem flat_snoc {f : GShown → List ByteArray} {l : List GShown} {k : Nat} (h : k < l.length) : (l.take (k + 1)).flatMap f = (l.take k).flatMap f ++ f (nth l k) := by rw [take_nth h, List.flatMap_append]; simp
def digS (a : Int) (b : UInt8) : Int := a * 10 + ((b.toNat : Int) - 48)
def valD (l : List UInt8) : Int := l.foldl digS 0
theorem dec_all : ∀ (n u : Nat), u < n → valD (Lib.decDigits u) = u ∧ (∀ x ∈ Lib.decDigits u, 48 ≤ x.toNat ∧ x.toNat ≤ 57) ∧ Lib.decDigits u ≠ []
  | 0, u, h => by omega
  | n + 1, u, h => by
    have hd : ∀ d : Nat, d < 10 → (UInt8.ofNat (48 + d)).toNat = 48 + d := by decide
    rw [Lib.decDigits]
    split
    · rename_i h1
      refine ⟨?_, fun x hx => ?_, by simp⟩
      · show (0 : Int) * 10 + (((UInt8.ofNat (48 + u)).toNat : Int) - 48) = u
        rw [hd u h1]; omega
      · rw [List.mem_singleton] at hx; subst hx; rw [hd u h1]; omega
    · obtain ⟨e1, e2, _⟩ := dec_all n (u / 10) (by omega)
      have h3 := hd (u % 10) (by omega)
      refine ⟨?_, fun x hx => ?_, by simp⟩
      · unfold valD at e1 ⊢
        rw [List.foldl_append, e1]
        show (((u / 10 : Nat) : Int) * 10 + (((UInt8.ofNat (48 + u % 10)).toNat : Int) - 48)) = _
        rw [h3]; omega
      · rcases List.mem_append.1 hx with hx | hx
        · exact e2 x hx
        · rw [List.mem_singleton] at hx; subst hx; rw [h3]; omega
theorem itoa_list (n : Int) : (itoaB n).data.toList = if n < 0 then 45 :: Lib.decDigits n.natAbs else Lib.decDigits n.toNat := by
  unfold itoaB Lib.itoa; rfl
theorem itoa_inj {m n : Int} (h : itoaB m = itoaB n) : m = n := by
  have h := congrArg (fun b : ByteArray => b.data.toList) h
  simp only [itoa_list] at h
  have no : ∀ (a b : Nat), (45 : UInt8) :: Lib.decDigits a ≠ Lib.decDigits b := fun a b e => by
    have := (dec_all (b + 1) b (Nat.lt_succ_self b)).2.1 45 (by rw [← e]; simp)
    exact absurd this.1 (by decide)
  have inj : ∀ (a b : Nat), Lib.decDigits a = Lib.decDigits b → a = b := fun a b e => by
    have h1 := (dec_all (a + 1) a (Nat.lt_succ_self a)).1
    have h2 := (dec_all (b + 1) b (Nat.lt_succ_self b)).1
    rw [e, h2] at h1
    omega
  split at h <;> split at h
  · have := inj _ _ (List.cons.inj h).2; omega
  · exact (no _ _ h).elim
  · exact (no _ _ h.symm).elim
  · have := inj _ _ h; omega
theorem pre_le : ∀ (a b : List ByteArray), preN a b ≤ a.length ∧ preN a b ≤ b.length
  | [], _ => ⟨Nat.le_refl _, Nat.zero_le _⟩
  | _ :: _, [] => ⟨Nat.zero_le _, Nat.le_refl _⟩
  | x :: a, y :: b => by
    have := pre_le a b
    unfold preN
    split <;> simp <;> omega
theorem pre_is : ∀ (a b : List ByteArray) (k : Nat), k ≤ a.length → k ≤ b.length → (∀ j, j < k → nth a j = nth b j) → (k < a.length → k < b.length → nth a k ≠ nth b k) → preN a b = k
  | [], b, k, h1, h2, _, _ => by have : k = 0 := by simpa using h1
                                 subst this; rfl
  | x :: a, [], k, h1, h2, _, _ => by have : k = 0 := by simpa using h2
                                      subst this; rfl
  | x :: a, y :: b, 0, h1, h2, h3, h4 => by
    have : x ≠ y := h4 (by simp) (by simp)
    unfold preN; rw [if_neg this]
  | x :: a, y :: b, k + 1, h1, h2, h3, h4 => by
    have e : x = y := h3 0 (by omega)
    unfold preN
    rw [if_pos e, pre_is a b k (by simpa using h1) (by simpa using h2) (fun j hj => h3 (j + 1) (by omega)) fun g1 g2 => h4 (by simpa using g1) (by simpa using g2)]
end Go.Gd

namespace Go.Gd
open Go
structure CallOk (c : GSeen) : Prop where
  n : c.vars.length ≤ 1000
  name : c.name.size ≤ 1000
  line : rng c.line
  var : ∀ x ∈ c.vars, x.name.size ≤ 1000 ∧ x.text.size ≤ 1000
/-- A view whose texts are not too long. -/
structure DvOk (v : GView) : Prop where
  calls : v.calls.length ≤ 1000
  call : ∀ c ∈ v.calls, CallOk c
  outs : v.out_.length ≤ 1000
  out : ∀ t ∈ v.out_, t.size ≤ 1000
  in_ : rng v.in_
  st0 : 0 ≤ v.status
  st3 : v.status ≤ 3
  trap : rng v.trap
theorem DvOk.callS {v : GView} (h : DvOk v) (n : Nat) : CallOk (callS v n) := by
  unfold Go.Gd.callS
  split
  · exact h.call _ (nth_mem (by assumption))
  · exact ⟨Nat.zero_le _, Nat.zero_le _, by unfold rng; decide, fun x hx => by cases hx⟩
theorem DvOk.head {v : GView} (h : DvOk v) (n : Nat) : (headT v n).size ≤ 1100 := by
  unfold headT
  split
  · have hc := h.call _ (nth_mem (by assumption))
    have := hc.name
    have := itoa_size hc.line
    rw [ByteArray.size_append, ByteArray.size_append]
    show (nth v.calls n).name.size + 1 + _ ≤ _
    omega
  · show (1 : Nat) ≤ _; omega
theorem find_size : ∀ (l : List GShown) (n : ByteArray), (∀ x ∈ l, x.name.size ≤ 1000 ∧ x.text.size ≤ 1000) → (findT l n).size ≤ 1000
  | [], n, _ => by show (1 : Nat) ≤ _; omega
  | x :: l, n, h => by
    unfold findT
    split
    · exact (h x (by simp)).2
    · exact find_size l n fun y hy => h y (by simp [hy])
theorem findT_cons (x : GShown) (l : List GShown) (n : ByteArray) : findT (x :: l) n = if x.name = n then x.text else findT l n := rfl
theorem putL_len (h x y : ByteArray) : (putL h x y).length ≤ 1 := by unfold putL; split <;> simp
theorem flat_le {f : GShown → List ByteArray} (h : ∀ x, (f x).length ≤ 1) : ∀ (l : List GShown), (l.flatMap f).length ≤ l.length
  | [] => Nat.le_refl _
  | x :: l => by
    have := flat_le h l
    have := h x
    rw [List.flatMap_cons, List.length_append, List.length_cons]
    omega
theorem otherF_len (n : Nat) (c : List GShown) (x : GShown) : (otherF n c x).length ≤ 1 := by unfold otherF; split <;> simp
/-- Rows that grow. -/
theorem rows_of (M : List ByteArray) (f : GShown → List ByteArray) (h1 : ∀ x, (f x).length ≤ 1) (l : List GShown) : ∃ A : Nat → List ByteArray, A 0 = M ∧ (∀ k, k < l.length → A (k + 1) = A k ++ f (nth l k)) ∧ A l.length = M ++ l.flatMap f ∧ ∀ k, (A k).length ≤ M.length + l.length := by
  refine ⟨fun k => M ++ (l.take k).flatMap f, by simp, fun k hk => by show M ++ _ = _; rw [flat_snoc hk, List.append_assoc], by show M ++ _ = _; rw [List.take_length], fun k => ?_⟩
  show (M ++ _).length ≤ _
  have := flat_le h1 (l.take k)
  rw [List.length_append]
  have : (l.take k).length ≤ l.length := by rw [List.length_take]; omega
  omega
theorem at_app (A : ByteArray) : A ++ (⟨#[32, 97, 116, 32]⟩ : ByteArray) = A ++ (⟨#[32]⟩ : ByteArray) ++ (⟨#[97, 116, 32]⟩ : ByteArray) := by rw [ByteArray.append_assoc]; rfl
theorem vars_app (A : ByteArray) : A ++ (⟨#[32, 118, 97, 114, 115]⟩ : ByteArray) = A ++ (⟨#[32]⟩ : ByteArray) ++ (⟨#[118, 97, 114, 115]⟩ : ByteArray) := by rw [ByteArray.append_assoc]; rfl
theorem dash_app (A : ByteArray) : A ++ (⟨#[32, 45, 32, 124, 32]⟩ : ByteArray) = A ++ (⟨#[32]⟩ : ByteArray) ++ (⟨#[45]⟩ : ByteArray) ++ (⟨#[32, 124, 32]⟩ : ByteArray) := by rw [ByteArray.append_assoc, ByteArray.append_assoc]; rfl
theorem bar_app (A : ByteArray) : A ++ (⟨#[32, 124, 32, 45]⟩ : ByteArray) = A ++ (⟨#[32, 124, 32]⟩ : ByteArray) ++ (⟨#[45]⟩ : ByteArray) := by rw [ByteArray.append_assoc]; rfl
end Go.Gd
namespace Go.Proofs.YtflopjbjlbkgnaaDoor
open Go Go.Gd
set_option maxHeartbeats 4000000
set_option maxRecDepth 10000
theorem find_c (l : List GShown) (n : ByteArray) (hl : l.length ≤ 1000000) : PCall Tryd.prog 26 [slOf eGShown 2 l, rS n] (rS (findT l n)) := by
  refine entP Tryd.func26 Tryd.ntmps26 ?_
  (repeat' (first
    | refine awp_seq_k fun K hK => ?_
    | refine wkA ?_
    | (refine hK _ _ ?_; clear hK K)
    | (refine wcond (fun hc => ?_) (fun hc => ?_) <;> first | contradiction | (exfalso; omega) | skip)
    | refine wkB ?_
    | exact True.intro
    | (clear hK K)))
  have hKo := hK; clear hK
  refine awp_loop_inv (S := Nat) [(4, 20)] (fun k => k ≤ l.length ∧ findT (l.drop k) n = findT l n) (fun k => [(5, rI k)]) (fun k => ⟨[], []⟩) (fun k => l.length - k) 0 ⟨by omega, rfl⟩ (fle_at (by simp only [go_sem]) lle) ?_
  rintro k ⟨hk, hf⟩ Kr hKr
  by_cases hlt : k < l.length
  · have hd : l.drop k = nth l k :: l.drop (k + 1) := by rw [nth_get hlt]; exact List.drop_eq_getElem_cons hlt
    rw [hd, findT_cons] at hf
    generalize hx : nth l k = x at *
    by_cases e : x.name = n
    · rw [if_pos e] at hf
      rw [← hf]
      (refine S ?_; try exact True.intro)
      (have W := And.intro hx (e); repeat' (first
    | refine awp_seq_k fun K hK => ?_
    | refine wkA ?_
    | (refine hK _ _ ?_; clear hK K)
    | (refine wcond (fun hc => ?_) (fun hc => ?_) <;> first | contradiction | (exfalso; omega) | skip)
    | (refine hKo _ _ ?_)
    | refine wkB ?_
    | exact True.intro
    | (clear hK K))); all_goals (try clear W)
      (refine retd [.tmp 4] ?_; try simp only [go_sem])
    · rw [if_neg e] at hf
      have e' := eq_false e
      (refine S ?_; try exact True.intro)
      (have W := And.intro hx (e'); repeat' (first
    | refine awp_seq_k fun K hK => ?_
    | refine wkA ?_
    | (refine hK _ _ ?_; clear hK K)
    | (refine wcond (fun hc => ?_) (fun hc => ?_) <;> first | contradiction | (exfalso; omega) | skip)
    | (refine hKo _ _ ?_)
    | refine wkB ?_
    | exact True.intro
    | (clear hK K))); all_goals (try clear W)
      refine hKr _ _ (next_mk (k + 1) ⟨by omega, hf⟩ (by show l.length - (k + 1) < l.length - k; omega) (by simp only [go_sem]) lle)
  · rw [show l.drop k = [] from List.drop_of_length_le (by omega)] at hf
    rw [← hf]
    (refine S ?_; try exact True.intro)
    (repeat' (first
    | refine awp_seq_k fun K hK => ?_
    | refine wkA ?_
    | (refine hK _ _ ?_; clear hK K)
    | (refine wcond (fun hc => ?_) (fun hc => ?_) <;> first | contradiction | (exfalso; omega) | skip)
    | (refine hKo _ _ ?_)
    | refine wkB ?_
    | exact True.intro
    | (clear hK K)))
    (refine retd [.tmp 4] ?_; try simp only [go_sem])
    rw [← hf]; rfl
theorem head_c (v : GView) (n : Nat) (h : DvOk v) (hn : n ≤ 1000) : PCall Tryd.prog 24 [.agg (eGView v), rI n] (rS (headT v n)) := by
  have hcl := h.calls
  unfold headT
  by_cases hlt : n < v.calls.length
  · have hc := h.call _ (nth_mem hlt)
    have hcn := hc.name
    have hit := itoa_c _ hc.line
    have his := itoa_size hc.line
    rw [if_pos hlt]
    generalize hx : nth v.calls n = c at *
    refine entP Tryd.func24 Tryd.ntmps24 ?_
    (have W := hx; repeat' (first
    | refine awp_seq_k fun K hK => ?_
    | refine wkA ?_
    | (with_reducible refine gR 3 ?_); refine dQ 3 mixed ?_
    | (refine hK _ _ ?_; clear hK K)
    | (refine wcond (fun hc => ?_) (fun hc => ?_) <;> first | contradiction | (exfalso; omega) | skip)
    | refine bx 0 ?_
    | refine cq (hit) ?_
    | refine wkB ?_
    | exact True.intro
    | (clear hK K))); all_goals (try clear W)
    (refine retd [.tmp 4] ?_; try simp only [go_sem])
  · rw [if_neg hlt]
    refine entP Tryd.func24 Tryd.ntmps24 ?_
    (repeat' (first
    | refine awp_seq_k fun K hK => ?_
    | refine wkA ?_
    | (with_reducible refine gR 3 ?_); refine dQ 3 mixed ?_
    | (refine hK _ _ ?_; clear hK K)
    | (refine wcond (fun hc => ?_) (fun hc => ?_) <;> first | contradiction | (exfalso; omega) | skip)
    | refine bx 0 ?_
    | refine wkB ?_
    | exact True.intro
    | (clear hK K)))
    (refine retd [.tmp 4] ?_; try simp only [go_sem])
theorem rcall_c (v : GView) (n : Nat) (h : DvOk v) (hn : n ≤ 1000) : PCall Tryd.prog 25 [.agg (eGView v), rI n] (.agg (eGSeen (callS v n))) := by
  have hcl := h.calls
  unfold callS
  by_cases hlt : n < v.calls.length
  · rw [if_pos hlt]
    generalize hx : nth v.calls n = c at *
    refine entP Tryd.func25 Tryd.ntmps25 ?_
    (have W := hx; repeat' (first
    | refine awp_seq_k fun K hK => ?_
    | refine wkA ?_
    | (refine hK _ _ ?_; clear hK K)
    | (refine wcond (fun hc => ?_) (fun hc => ?_) <;> first | contradiction | (exfalso; omega) | skip)
    | refine bx 0 ?_
    | refine al 1 ?_
    | refine wkB ?_
    | exact True.intro
    | (clear hK K))); all_goals (try clear W)
    (refine retd [.cell 4 36] ?_; try simp only [go_sem])
  · rw [if_neg hlt]
    refine entP Tryd.func25 Tryd.ntmps25 ?_
    (repeat' (first
    | refine awp_seq_k fun K hK => ?_
    | refine wkA ?_
    | (refine hK _ _ ?_; clear hK K)
    | (refine wcond (fun hc => ?_) (fun hc => ?_) <;> first | contradiction | (exfalso; omega) | skip)
    | refine bx 0 ?_
    | refine al 1 ?_
    | refine wkB ?_
    | exact True.intro
    | (clear hK K)))
    refine retv [.cell 4 36] ?_
    exact VToL.agg (ds := eGSeen ⟨⟨#[]⟩, 0, []⟩) ⟨.same _ rfl, .same _ rfl, .nil _ _, trivial⟩
end Go.Proofs.YtflopjbjlbkgnaaDoor
