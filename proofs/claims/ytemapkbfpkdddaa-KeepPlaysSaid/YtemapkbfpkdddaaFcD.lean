/- Quiet operations: what each asks and gives, as a pair reckoned from abstract operands, and that it is so. No conditions. -/
import Derived.Test.YtemapkbfpkdddaaFcC
import Derived.Laws.Slices
set_option linter.all false
namespace Go.Fc
open Go

abbrev PA := Prop × AV
def noPA : PA := (False, .any)

def Good (P : Program) (w : World) (H : Hp) (s : Sem Value) (q : PA) : Prop := q.1 → ∃ v, s.run P w = .ok v w ∧ RelV w H q.2 v
theorem good_no {P : Program} {w : World} {H : Hp} {s : Sem Value} : Good P w H s noPA := fun h => h.elim

def unG : AV → Bool × AV
  | .gd p v => (p, v)
  | v => (true, v)
def bsel (c x y : Bool) : Bool := if c then x else y
def qPick (c a b : AV) : PA := match c, unG a, unG b with
  | .raw (.bool c), (pa, .raw (.bool x)), (pb, .raw (.bool y)) => ((c = true → pa = true) ∧ (c = false → pb = true), .raw (.bool (bsel c x y)))
  | _, _, _ => noPA
def qNil : AV → PA
  | .ip cs => (True, .ip cs)
  | .raw (.pointer (some a)) => (True, .raw (.pointer (some a)))
  | .raw (.func (.func f) x y) => (True, .raw (.func (.func f) x y))
  | .raw (.iface t v) => (True, .raw (.iface t v))
  | .raw (.slice a n c) => (True, .raw (.slice a n c))
  | .raw (.map (some r)) => (True, .raw (.map (some r)))
  | _ => noPA

def rawInt (k : IntKind) (n : Int) : AV := .raw (.int k n)
def rawB (b : Bool) : AV := .raw (.bool b)
def bitsOf (op : BinOp) (k : IntKind) (x y : Int) : Int :=
  let a := BitVec.ofInt k.bits x
  let b := BitVec.ofInt k.bits y
  match op with
  | .and => k.wrap (a &&& b).toNat
  | .or => k.wrap (a ||| b).toNat
  | .xor => k.wrap (a ^^^ b).toNat
  | _ => k.wrap (a &&& ~~~b).toNat

def qInt (op : BinOp) (k : IntKind) (a : Int) (k' : IntKind) (b : Int) : PA := match op with
  | .add => (k = k', .raw (.int k (k.wrap (a + b))))
  | .sub => (k = k', .raw (.int k (k.wrap (a - b))))
  | .mul => (k = k', .raw (.int k (k.wrap (a * b))))
  | .quo => (k = k' ∧ b ≠ 0, .raw (.int k (k.wrap (a.tdiv b))))
  | .rem => (k = k' ∧ b ≠ 0, .raw (.int k (a.tmod b)))
  | .and => (k = k', .raw (.int k (bitsOf .and k a b)))
  | .or => (k = k', .raw (.int k (bitsOf .or k a b)))
  | .xor => (k = k', .raw (.int k (bitsOf .xor k a b)))
  | .andNot => (k = k', .raw (.int k (bitsOf .andNot k a b)))
  | .shl => (0 ≤ b, .raw (.int k (k.wrap (a * 2 ^ (min b.toNat k.bits)))))
  | .shr => (0 ≤ b, .raw (.int k (a.fdiv (2 ^ (min b.toNat k.bits)))))
  | .eql => (k = k', .raw (.bool (decide (a = b))))
  | .neq => (k = k', .raw (.bool (!decide (a = b))))
  | .lss => (k = k', .raw (.bool (decide (a < b))))
  | .leq => (k = k', .raw (.bool (decide (a ≤ b))))
  | .gtr => (k = k', .raw (.bool (decide (b < a))))
  | .geq => (k = k', .raw (.bool (decide (b ≤ a))))
def qStr (op : BinOp) (a b : ByteArray) : PA := match op with
  | .add => (a.size + b.size ≤ 9223372036854775807, .raw (.string (a ++ b)))
  | .eql => (True, .raw (.bool (decide (a = b))))
  | .neq => (True, .raw (.bool (!decide (a = b))))
  | .lss => (True, .raw (.bool (Op.bytesLess a.toList b.toList)))
  | .gtr => (True, .raw (.bool (!(Op.bytesLess a.toList b.toList || decide (a = b)))))
  | .leq => (True, .raw (.bool (Op.bytesLess a.toList b.toList || decide (a = b))))
  | .geq => (True, .raw (.bool (!(Op.bytesLess a.toList b.toList))))
  | _ => noPA

/-- Cells that are numbers, texts or bools, held against each other. -/
def eqL : List AV → List AV → Bool
  | [], [] => true
  | .raw (.int _ a) :: l, .raw (.int _ b) :: m => decide (a = b) && eqL l m
  | .raw (.string a) :: l, .raw (.string b) :: m => decide (a = b) && eqL l m
  | .raw (.bool a) :: l, .raw (.bool b) :: m => (a == b) && eqL l m
  | _, _ => false

def isPtrT (P : Program) (t : TypeId) : Bool := match P.underlying t with
  | some (.pointer _) => true
  | _ => false
def isIfaceT (P : Program) (t : TypeId) : Bool := match P.underlying t with
  | some (.interface _) => true
  | _ => false
def isBoolT (P : Program) (t : TypeId) : Bool := match P.underlying t with
  | some .bool => true
  | _ => false
def isStrT (P : Program) (t : TypeId) : Bool := match P.underlying t with
  | some .string => true
  | _ => false
def isSliceT (P : Program) (t : TypeId) : Bool := match P.underlying t with
  | some (.slice _) => true
  | _ => false

inductive LK where
  | int (k : IntKind) | str | bool
  deriving DecidableEq
def kindA : AV → Option LK
  | .raw (.int k _) => some (.int k)
  | .raw (.string _) => some .str
  | .raw (.bool _) => some .bool
  | _ => none
def leafFields (P : Program) (leafK : TypeId → Option (List LK)) : Nat → List Field → Option (List LK)
  | _, [] => some []
  | off, f :: fs => if f.name ≠ "_" ∧ f.offset = off then match leafK f.type, szOf P f.type with
      | some ks, some k => if ks.length = k then (leafFields P leafK (off + k) fs).map (ks ++ ·) else none
      | _, _ => none
    else none
def leafKinds (P : Program) : Nat → TypeId → Option (List LK)
  | 0, _ => none
  | d + 1, t => match P.underlying t with
    | some (.int k) => some [.int k]
    | some .string => some [.str]
    | some .bool => some [.bool]
    | some (.struct fs) => if P.stoodInHeld t then none else leafFields P (leafKinds P d) 0 fs.toList
    | _ => none
/-- The leaves of a struct type that '==' takes. -/
def eqKinds (P : Program) (t : TypeId) : Option (List LK) := if P.eqGuardType P.depth t then none else leafKinds P 8 t
def qEqNe (P : Program) (ne : Bool) (t : TypeId) (x y : AV) : PA := match x, y with
  | .raw (.bool a), .raw (.bool b) => (isBoolT P t = true, .raw (.bool (ne ^^ (a == b))))
  | .raw (.pointer none), .raw (.pointer b) => (isPtrT P t = true, .raw (.bool (ne ^^ b.isNone)))
  | .raw (.pointer (some _)), .raw (.pointer none) => (isPtrT P t = true, .raw (.bool ne))
  | .ip _, .raw (.pointer none) => (isPtrT P t = true, .raw (.bool ne))
  | .raw (.slice none _ _), .raw (.slice b _ _) => (isSliceT P t = true, .raw (.bool (ne ^^ b.isNone)))
  | .raw (.slice (some _) _ _), .raw (.slice none _ _) => (isSliceT P t = true, .raw (.bool ne))
  | .agg cs, .agg ds => match eqKinds P t with
    | some ks => (isAggT P t = some true ∧ cs.map kindA = ks.map some ∧ ds.map kindA = ks.map some, .raw (.bool (ne ^^ eqL cs ds)))
    | none => noPA
  | _, _ => noPA
def qBin (P : Program) (op : BinOp) (t : TypeId) (x y : AV) : PA := match x, y with
  | .raw (.int k a), .raw (.int k' b) => qInt op k a k' b
  | .raw (.string a), .raw (.string b) => qStr op a b
  | x, y => match op with
    | .eql => qEqNe P false t x y
    | .neq => qEqNe P true t x y
    | _ => noPA
def qUn (op : UnOp) (x : AV) : PA := match op, x with
  | .not, .raw (.bool b) => (True, .raw (.bool (!b)))
  | .neg, .raw (.int k n) => (True, .raw (.int k (k.wrap (0 - n))))
  | _, _ => noPA

def qLoad (P : Program) (H : Hp) (t : TypeId) (a : AV) : PA := match cellsAt H a, isAggT P t, szOf P t with
  | some cs, some true, some k => (k ≤ cs.length ∧ 1 ≤ cs.length, .agg (cs.take k))
  | some cs, some false, some k => (k ≤ cs.length ∧ 1 ≤ cs.length, cs.getD 0 .any)
  | _, _, _ => noPA
def qFieldAddr (P : Program) (t : TypeId) (a : AV) (f : Nat) : PA := match a, fOff P t f with
  | .ip cs, some off => (True, .ip (cs.drop off))
  | .raw (.pointer (some ⟨b, o, none⟩)), some off => (True, .raw (.pointer (some ⟨b, o + off, none⟩)))
  | _, _ => noPA
/-- A field's type and place. -/
def fTy (P : Program) (t : TypeId) (f : Nat) : Option (TypeId × Nat) := match P.underlying t with
  | some (.struct fs) => (fs[f]?).map fun fd => (fd.type, fd.offset)
  | _ => none
def qPart (P : Program) (t : TypeId) (cs : List AV) (off : Nat) : PA := match isAggT P t, szOf P t with
  | some true, some k => (off + k ≤ cs.length, .agg ((cs.drop off).take k))
  | some false, some _ => (off < cs.length, cs.getD off .any)
  | _, _ => noPA
def qField (P : Program) (t : TypeId) (a : AV) (f : Nat) : PA := match a, fTy P t f with
  | .agg cs, some (ft, off) => qPart P ft cs off
  | _, _ => noPA
/-- The size of a slice type's elements. -/
def elSz (P : Program) (t : TypeId) : Option Nat := (elT P t).bind (szOf P)
def qIndexAddr (P : Program) (t : TypeId) (a i : AV) : PA := match a, i with
  | .sl _ sz n f, .raw (.int _ i) => (elSz P t = some sz ∧ 0 ≤ i ∧ i < n, .ip (f i.toNat))
  | .raw (.slice (some ⟨b, o, none⟩) n _), .raw (.int _ i) => match elSz P t with
    | some k => (0 ≤ i ∧ i < n, .raw (.pointer (some ⟨b, o + i.toNat * k, none⟩)))
    | none => noPA
  | _, _ => noPA
def byteAt (s : ByteArray) (i : Int) : Int := ((s.data[i.toNat]?.getD 0).toNat : Int)
def qIndex (P : Program) (t : TypeId) (a i : AV) : PA := match a, i with
  | .raw (.string s), .raw (.int _ i) => (isStrT P t = true ∧ 0 ≤ i ∧ i < s.size, .raw (.int .u8 (byteAt s i)))
  | _, _ => noPA
def qExtract (a : AV) (i : Nat) : PA := match a with
  | .tup vs => (i < vs.length, vs.getD i .any)
  | _ => noPA
def optInt : Option AV → Option (Option Int)
  | none => some none
  | some (.raw (.int _ i)) => some (some i)
  | _ => none
/-- Where a slice begins that is cut off another one's front. -/
def cutOff (o lo c sz : Nat) : Nat := if c = lo then o else o + lo * sz
theorem cutOff_lt {o lo c sz : Nat} (h : lo < c) : cutOff o lo c sz = o + lo * sz := by unfold cutOff; rw [if_neg (by omega)]
theorem cutOff_zero {o c sz : Nat} : cutOff o 0 c sz = o := by unfold cutOff; split <;> simp
def qSlice (P : Program) (t : TypeId) (a : AV) (lo hi mx : Option AV) : PA := match a, optInt lo, optInt hi, mx with
  | .raw (.string s), some lo, some hi, none => (isStrT P t = true ∧ 0 ≤ lo.getD 0 ∧ lo.getD 0 ≤ hi.getD s.size ∧ hi.getD s.size ≤ s.size, .raw (.string (s.extract (lo.getD 0).toNat (hi.getD s.size).toNat)))
  | .sl _ sz n f, some lo, some hi, none =>
    (elSz P t = some sz ∧ 0 ≤ lo.getD 0 ∧ lo.getD 0 ≤ hi.getD n ∧ hi.getD n ≤ n, .sl false sz ((hi.getD n).toNat - (lo.getD 0).toNat) (fun i => f ((lo.getD 0).toNat + i)))
  | .raw (.slice (some ⟨b, o, none⟩) n c), some none, some (some hi), none => (isSliceT P t = true ∧ (elSz P t).isSome = true ∧ 0 ≤ hi ∧ hi ≤ c, .raw (.slice (some ⟨b, o, none⟩) hi.toNat c))
  | .raw (.slice (some ⟨b, o, none⟩) n c), some (some lo), some hi, none => (isSliceT P t = true ∧ (elSz P t).isSome = true ∧ 0 ≤ lo ∧ lo ≤ hi.getD n ∧ hi.getD n ≤ c, .raw (.slice (some ⟨b, cutOff o lo.toNat c ((elSz P t).getD 0), none⟩) ((hi.getD n).toNat - lo.toNat) (c - lo.toNat)))
  | .raw (.slice none 0 0), some lo, some hi, none => (isSliceT P t = true ∧ (elSz P t).isSome = true ∧ lo.getD 0 = 0 ∧ hi.getD 0 = 0, .raw (.slice none 0 0))
  | .raw (.slice _ _ c), some (some lo), some (some hi), some (.raw (.int _ m)) => (isSliceT P t = true ∧ (elSz P t).isSome = true ∧ 0 ≤ lo ∧ lo ≤ hi ∧ hi ≤ m ∧ m ≤ c, .any)
  | _, _, _, _ => noPA
def rawsOf : List AV → Option (List Value)
  | [] => some []
  | .raw v :: l => (rawsOf l).map (v :: ·)
  | _ => none
def qFunc (fn : Fn) (first captured : List AV) : PA := match fn, first with
  | .func f, [] => (True, .clo f captured)
  | _, _ => noPA
def qIface (P : Program) (t : TypeId) (x : AV) : PA := match x, isIfaceT P t, P.underlying t with
  | .raw v, false, some _ => (True, .raw (.iface t v))
  | _, _, _ => noPA
def isIntT (P : Program) (t : TypeId) : Option IntKind := match P.underlying t with
  | some (.int k) => some k
  | _ => none
def qConv (P : Program) (s d : TypeId) (x : AV) : PA := match x, isIntT P d with
  | .raw (.int _ n), some k => ((P.underlying s).isSome = true, .raw (.int k (k.wrap n)))
  | .raw (.string s'), none => ((P.underlying s).isSome = true ∧ isStrT P d = true, .raw (.string s'))
  | _, _ => noPA
def qLen (P : Program) (t : TypeId) (x : AV) : PA := match x with
  | .sl _ _ n _ => (isSliceT P t = true, .raw (.int .i64 n))
  | .raw (.slice _ n _) => (isSliceT P t = true, .raw (.int .i64 n))
  | .raw (.string s) => (isStrT P t = true, .raw (.int .i64 s.size))
  | _ => noPA
def qCap (P : Program) (t : TypeId) (x : AV) : PA := match x with
  | .sl true _ n _ => (isSliceT P t = true, .raw (.int .i64 n))
  | .raw (.slice _ _ n) => (isSliceT P t = true, .raw (.int .i64 n))
  | _ => noPA
def qMaxMin (mx : Bool) (args : List AV) : PA := match args with
  | [.raw (.int k a), .raw (.int k' b)] => (k = k', .raw (.int k (if mx then (if b > a then b else a) else (if b < a then b else a))))
  | _ => noPA
def qBuiltin (P : Program) (b : Builtin) (ts : List TypeId) (args : List AV) : PA := match b, ts, args with
  | .len, t :: _, x :: _ => qLen P t x
  | .cap, t :: _, x :: _ => qCap P t x
  | .max, _, args => qMaxMin true args
  | .min, _, args => qMaxMin false args
  | _, _, _ => noPA

def places (P : Program) (t : TypeId) : Option (List (Nat × Nat)) := match P.underlying t with
  | some (.struct fs) => fs.toList.mapM fun f => (szOf P f.type).map fun k => (f.offset, k)
  | _ => none
def fillA (pl : Nat → Option (Nat × Nat)) (cells : List AV) : List (Nat × AV) → Option (List AV)
  | [] => some cells
  | (i, a) :: rest => match pl i with
    | some (off, k) => if a.cells.length = k ∧ off + k ≤ cells.length then fillA pl (splice cells off a.cells) rest else none
    | none => none
def qBuild (P : Program) (t : TypeId) (parts : List (Nat × AV)) : PA := match zeroL P t, places P t with
  | some zs, some pl => match fillA (fun i => pl[i]?) (zs.map .raw) parts with
    | some cs => (ones ((parts.map fun p => p.2.cells).flatten) = true, .agg cs)
    | none => noPA
  | _, _ => noPA

/-- What a quiet operation asks, and gives, its operands read by 'ev'. -/
def vq (P : Program) (ev : Operand → AV) (H : Hp) : Op → PA
  | .move x => (True, ev x)
  | .assign x => (True, ev x)
  | .pick c a b => qPick (ev c) (ev a) (ev b)
  | .nilCheck x => qNil (ev x)
  | .binOp op t x y _ => qBin P op t (ev x) (ev y)
  | .unOp op _ x => qUn op (ev x)
  | .load t a => qLoad P H t (ev a)
  | .fieldAddr t a f => qFieldAddr P t (ev a) f
  | .field t a f => qField P t (ev a) f
  | .indexAddr t a i => qIndexAddr P t (ev a) (ev i)
  | .index t a i => qIndex P t (ev a) (ev i)
  | .extract a i => qExtract (ev a) i
  | .slice t a lo hi mx => qSlice P t (ev a) (lo.map ev) (hi.map ev) (mx.map ev)
  | .makeFunc fn first captured => qFunc fn (first.toList.map ev) (captured.toList.map ev)
  | .makeInterface t x => qIface P t (ev x)
  | .convert s d x => qConv P s d (ev x)
  | .build t parts => qBuild P t (parts.toList.map fun p => (p.1, ev p.2))
  | .call { callee := .builtin b, args, argTypes } => qBuiltin P b argTypes.toList (args.toList.map ev)
  | _ => noPA
end Go.Fc
