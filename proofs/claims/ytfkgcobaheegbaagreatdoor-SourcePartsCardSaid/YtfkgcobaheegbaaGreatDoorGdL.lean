/- Lists of Lean data as slices; small rules for the walks. A region that leaves its order open, all of whose operations only read, reckon, or call what changes nothing: whatever the order, it comes to what the. No conditions. -/
import Derived.Test.YtfkgcobaheegbaaGreatDoorGdJ
import Derived.Orders
set_option linter.all false
namespace Go.Gd
open Go
def nth {α:Type} [Inhabited α] (l:List α) (i:Nat):α:=l.getD i default
theorem jbl {α:Type} [Inhabited α] {l:List α} {i:Nat} (h:i < l.length):nth l i=l[i]:=by simp [nth,h]
theorem jgc {α:Type} [Inhabited α] {l:List α} {i:Nat} (h:i < l.length):l.take (i+1)=l.take i++[nth l i]:=by rw [jbl h,List.take_succ_eq_append_getElem h]
@[reducible] def jal {α:Type} [Inhabited α] (enc:α→List AV) (sz:Nat) (l:List α):AV:=.sl false sz (l.map enc) (enc default)
@[go_sem] theorem jth (next:List AV→Hp→Prop) (Q:Exit→List AV→Hp→Prop) (F:List AV) (H:Hp):jl2 next Q .normal F H=next F H:=(rfl)
@[go_sem] theorem jxj (next:List AV→Hp→Prop) (Q:Exit→List AV→Hp→Prop) (F:List AV) (H:Hp):jl2 next Q .ret F H=Q .ret F H:=(rfl)
@[go_sem] theorem jv6 (next:List AV→Hp→Prop) (Q:Exit→List AV→Hp→Prop) (id:Nat) (F:List AV) (H:Hp):jl2 next Q (.exit id) F H=Q (.exit id) F H:=(rfl)
@[go_sem] theorem jrH (id:Nat) (Q:Exit→List AV→Hp→Prop) (F:List AV) (H:Hp):jgQ id Q .normal F H=Q .normal F H:=(rfl)
@[go_sem] theorem jv5 (id:Nat) (Q:Exit→List AV→Hp→Prop) (F:List AV) (H:Hp):jgQ id Q .ret F H=Q .ret F H:=(rfl)
@[go_sem] theorem jt9 (id:Nat) (Q:Exit→List AV→Hp→Prop) (F:List AV) (H:Hp):jgQ id Q (.exit id) F H=Q .normal F H:=by simp [jgQ]
def AP (K:AV→Hp→Prop) (_:Dep K):AV→Hp→Prop:=K
def AP1 (K:AV→Prop) (_:Dep K):AV→Prop:=K
@[go_sem] theorem jza (K:AV→Hp→Prop) (d:Dep K) (r:AV) (H:Hp):AP K d r H=K r H:=(rfl)
@[go_sem] theorem jxf (K:AV→Prop) (d:Dep K) (r:AV):AP1 K d r=K r:=(rfl)
theorem jrK {K:AV→Hp→Prop} {d:Dep K} {r:AV} {H:Hp} (h:K r H):AP K d r H:=h
def jge (o:Option Bool) (A:Bool→Prop) (_:Dep A):Prop:=match o with
 | some b=>A b
 | none=>False
@[go_sem] theorem jvP (b:Bool) (A:Bool→Prop) (d:Dep A):jge (some b) A d=A b:=(rfl)
def vIf (q:Bool) (A B:Prop) (_:Dep A) (_:Dep B):Prop:=if q=true then A else B
@[go_sem] theorem jzY (A B:Prop) (d:Dep A) (e:Dep B):vIf true A B d e=A:=(rfl)
@[go_sem] theorem jyM (A B:Prop) (d:Dep A) (e:Dep B):vIf false A B d e=B:=(rfl)
@[go_sem] theorem j1I {P:Program} {ops:Array Oper} {K:List AV→Hp→Prop} (F:List AV) (H:Hp):vcl P ops K [] F H=K F H:=(rfl)
@[go_sem] theorem j0h {P:Program} {ops:Array Oper} {K:List AV→Hp→Prop} (dst:Option Tmp) (op:Op) (ty:TypeId) (pos:String) (after:Array Edge) (rest:List Oper) (F:List AV) (H:Hp) :
  vcl P ops K (⟨dst,op,ty,pos,after,none⟩::rest) F H=vc P (evA F) H ty (AP (fun r H'=>vcl P ops K rest (jbu F dst r) H') .mk) op:=(rfl)
@[go_sem] theorem jy5 {P:Program} {ops:Array Oper} {K:List AV→Hp→Prop} (dst:Option Tmp) (op:Op) (ty:TypeId) (pos:String) (after:Array Edge) (j:Nat) (want:Bool) (rest:List Oper) (F:List AV) (H:Hp) :
  vcl P ops K (⟨dst,op,ty,pos,after,some (j,want)⟩::rest) F H=jge (jcA ops F j want) (fun b=>vIf (jbk op || jax op) (vcG P F H b (AP1 (fun r=>vcl P ops K rest (jbu F dst r) H) .mk) op)
    ((b=true→vc P (evA F) H ty (AP (fun r H'=>vcl P ops K rest (jbu F dst r) H') .mk) op)∧(b=false→vcl P ops K rest (jbu F dst .any) H)) .mk .mk) .mk:=by
 unfold jge vIf
 rfl
@[go_sem] theorem jwU (a:Nat):((a:Int)+1).toNat=a+1:=by omega
@[go_sem] theorem jwV (a:Nat):((a:Int) - 1).toNat=a - 1:=by omega
attribute [go_sem] Int.cast_ofNat_Int
def j4M (n:Int):Int:=IntKind.i64.wrap n
theorem jeG {n:Int} (h:-9223372036854775808≤n∧n≤9223372036854775807):IntKind.i64.wrap n=n:=by
 have h1:(2:Int) ^ 64=18446744073709551616:=by decide
 have h2:(2:Int) ^ (64 - 1)=9223372036854775808:=by decide
 simp only [IntKind.wrap,IntKind.bits,IntKind.signed,Bool.true_and,h1,h2,decide_eq_true_eq]
 split<;>omega
theorem jmI {P:Program} {f:FuncId} {fn:Func} {c:Code} {args:List AV} {r:AV} (hf:P.funcs[f]?=some fn) (hb:fn.body=some c) {F:List AV} (hF:args++List.replicate (fn.ntmps - args.length) .any=F)
  (h:AWP P c (jhu P fn fun r' l'=>r'=r∧l'=[]) F ⟨[],[]⟩):PCall P f args r:=jkO hf hb (by rw [hF];exact h)
theorem jkN {P:Program} {f:FuncId} {fn:Func} {c:Code} {args:List AV} {l:List (Nat×Row)} {R:AV→List (Nat×Row)→Prop} (hf:P.funcs[f]?=some fn) (hb:fn.body=some c) {F:List AV} (hF:args++List.replicate (fn.ntmps - args.length) .any=F) {L:List Nat} (hL:ids l=L)
  (h:AWP P c (jhu P fn R) F ⟨L,l⟩):ACalls P f args l R:=jkO hf hb (by rw [hF];subst hL;exact h)
section
variable {P:Program} {ev:Operand→AV} {H:Hp} {ty:TypeId} {K:AV→Hp→Prop}
@[go_sem] theorem j1F (x:Operand):vc P ev H ty K (.move x)=K (ev x) H:=by simp [vc,jaq,vq]
@[go_sem] theorem jyX (x:Operand):vc P ev H ty K (.assign x)=K (ev x) H:=by simp [vc,jaq,vq]
@[go_sem] theorem j1G (c a b:Operand):vc P ev H ty K (.pick c a b)=((jfX (ev c) (ev a) (ev b)).1∧K (jfX (ev c) (ev a) (ev b)).2 H):=by simp [vc,jaq,vq]
@[go_sem] theorem jvW (x:Operand):vc P ev H ty K (.nilCheck x)=((jqG (ev x)).1∧K (jqG (ev x)).2 H):=by simp [vc,jaq,vq]
@[go_sem] theorem j1H (op:UnOp) (t:TypeId) (x:Operand):vc P ev H ty K (.unOp op t x)=((qUn op (ev x)).1∧K (qUn op (ev x)).2 H):=by simp [vc,jaq,vq]
@[go_sem] theorem j1E (t:TypeId) (x:Operand):vc P ev H ty K (.load t x)=((jfW P H t (ev x)).1∧K (jfW P H t (ev x)).2 H):=by simp [vc,jaq,vq]
@[go_sem] theorem jtZ (t:TypeId) (x:Operand) (f:Nat):vc P ev H ty K (.fieldAddr t x f)=((jbW P t (ev x) f).1∧K (jbW P t (ev x) f).2 H):=by simp [vc,jaq,vq]
@[go_sem] theorem jz9 (t:TypeId) (x:Operand) (f:Nat):vc P ev H ty K (.field t x f)=((jg6 P t (ev x) f).1∧K (jg6 P t (ev x) f).2 H):=by simp [vc,jaq,vq]
@[go_sem] theorem jt0 (t:TypeId) (x i:Operand):vc P ev H ty K (.indexAddr t x i)=((jbX P t (ev x) (ev i)).1∧K (jbX P t (ev x) (ev i)).2 H):=by simp [vc,jaq,vq]
@[go_sem] theorem j0a (t:TypeId) (x i:Operand):vc P ev H ty K (.index t x i)=((jg7 P t (ev x) (ev i)).1∧K (jg7 P t (ev x) (ev i)).2 H):=by simp [vc,jaq,vq]
@[go_sem] theorem jw2 (x:Operand) (i:Nat):vc P ev H ty K (.extract x i)=((jeS (ev x) i).1∧K (jeS (ev x) i).2 H):=by simp [vc,jaq,vq]
@[go_sem] theorem j0b (t:TypeId) (a:Operand) (lo hi mx:Option Operand):vc P ev H ty K (.slice t a lo hi mx)=((jg9 P t (ev a) (lo.map ev) (hi.map ev) (mx.map ev)).1∧K (jg9 P t (ev a) (lo.map ev) (hi.map ev) (mx.map ev)).2 H):=by simp [vc,jaq,vq]
@[go_sem] theorem jvV (fn:Fn) (a b:Array Operand):vc P ev H ty K (.makeFunc fn a b)=((joX fn (a.toList.map ev) (b.toList.map ev)).1∧K (joX fn (a.toList.map ev) (b.toList.map ev)).2 H):=by simp [vc,jaq,vq]
@[go_sem] theorem jw1 (s d:TypeId) (x:Operand):vc P ev H ty K (.convert s d x)=((joV P s d (ev x)).1∧K (joV P s d (ev x)).2 H):=by simp [vc,jaq,vq]
@[go_sem] theorem jz8 (t:TypeId) (ps:Array (Nat×Operand)):vc P ev H ty K (.build t ps)=((jjv P t (ps.toList.map fun p=>(p.1,ev p.2))).1∧K (jjv P t (ps.toList.map fun p=>(p.1,ev p.2))).2 H):=by simp [vc,jaq,vq]
@[go_sem] theorem j4u (as:Array Operand) (ts:Array TypeId):vc P ev H ty K (.call ⟨.builtin .len,as,ts⟩)=((jbH P H .len ts.toList (as.toList.map ev)).1∧K (jbH P H .len ts.toList (as.toList.map ev)).2 H):=by simp [vc,jaq,vq]
@[go_sem] theorem j4x (as:Array Operand) (ts:Array TypeId):vc P ev H ty K (.call ⟨.builtin .max,as,ts⟩)=((jbH P H .max ts.toList (as.toList.map ev)).1∧K (jbH P H .max ts.toList (as.toList.map ev)).2 H):=by simp [vc,jaq,vq]
@[go_sem] theorem j4y (as:Array Operand) (ts:Array TypeId):vc P ev H ty K (.call ⟨.builtin .min,as,ts⟩)=((jbH P H .min ts.toList (as.toList.map ev)).1∧K (jbH P H .min ts.toList (as.toList.map ev)).2 H):=by simp [vc,jaq,vq]
@[go_sem] theorem j4o (t:TypeId) (x y:Operand) (t':TypeId):vc P ev H ty K (.binOp .add t x y t')=((jdn P .add t (ev x) (ev y)).1∧K (jdn P .add t (ev x) (ev y)).2 H):=by simp [vc,jaq,vq]
@[go_sem] theorem j4D (t:TypeId) (x y:Operand) (t':TypeId):vc P ev H ty K (.binOp .sub t x y t')=((jdn P .sub t (ev x) (ev y)).1∧K (jdn P .sub t (ev x) (ev y)).2 H):=by simp [vc,jaq,vq]
@[go_sem] theorem j4z (t:TypeId) (x y:Operand) (t':TypeId):vc P ev H ty K (.binOp .mul t x y t')=((jdn P .mul t (ev x) (ev y)).1∧K (jdn P .mul t (ev x) (ev y)).2 H):=by simp [vc,jaq,vq]
@[go_sem] theorem j4B (t:TypeId) (x y:Operand) (t':TypeId):vc P ev H ty K (.binOp .quo t x y t')=((jdn P .quo t (ev x) (ev y)).1∧K (jdn P .quo t (ev x) (ev y)).2 H):=by simp [vc,jaq,vq]
@[go_sem] theorem j4C (t:TypeId) (x y:Operand) (t':TypeId):vc P ev H ty K (.binOp .rem t x y t')=((jdn P .rem t (ev x) (ev y)).1∧K (jdn P .rem t (ev x) (ev y)).2 H):=by simp [vc,jaq,vq]
@[go_sem] theorem j4p (t:TypeId) (x y:Operand) (t':TypeId):vc P ev H ty K (.binOp .and t x y t')=((jdn P .and t (ev x) (ev y)).1∧K (jdn P .and t (ev x) (ev y)).2 H):=by simp [vc,jaq,vq]
@[go_sem] theorem j4w (t:TypeId) (x y:Operand) (t':TypeId):vc P ev H ty K (.binOp .lss t x y t')=((jdn P .lss t (ev x) (ev y)).1∧K (jdn P .lss t (ev x) (ev y)).2 H):=by simp [vc,jaq,vq]
@[go_sem] theorem j4v (t:TypeId) (x y:Operand) (t':TypeId):vc P ev H ty K (.binOp .leq t x y t')=((jdn P .leq t (ev x) (ev y)).1∧K (jdn P .leq t (ev x) (ev y)).2 H):=by simp [vc,jaq,vq]
@[go_sem] theorem j4t (t:TypeId) (x y:Operand) (t':TypeId):vc P ev H ty K (.binOp .gtr t x y t')=((jdn P .gtr t (ev x) (ev y)).1∧K (jdn P .gtr t (ev x) (ev y)).2 H):=by simp [vc,jaq,vq]
@[go_sem] theorem j4s (t:TypeId) (x y:Operand) (t':TypeId):vc P ev H ty K (.binOp .geq t x y t')=((jdn P .geq t (ev x) (ev y)).1∧K (jdn P .geq t (ev x) (ev y)).2 H):=by simp [vc,jaq,vq]
@[go_sem] theorem j4r (t:TypeId) (x y:Operand) (t':TypeId):vc P ev H ty K (.binOp .eql t x y t')=jfc P false t (ev x) (ev y) H K:=(rfl)
@[go_sem] theorem j4A (t:TypeId) (x y:Operand) (t':TypeId):vc P ev H ty K (.binOp .neq t x y t')=jfc P true t (ev x) (ev y) H K:=(rfl)
@[go_sem] theorem j4q (t:TypeId) (x:Operand):vc P ev H ty K (.box t x)=js9 H t (ev x) K:=(rfl)
@[go_sem] theorem jz7 (t:TypeId):vc P ev H ty K (.alloc t)=jdA P H t K:=(rfl)
@[go_sem] theorem j0c (t:TypeId) (a x:Operand):vc P ev H ty K (.store t a x)=jjI P H t (ev a) (ev x) K:=(rfl)
@[go_sem] theorem jtc (t:TypeId) (n:Nat) (ps:Array (Nat×Operand)):vc P ev H ty K (.buildSlice t n ps)=jop P H t n (ps.toList.map fun p=>(p.1,ev p.2)) K:=(rfl)
@[go_sem] theorem j1C (f:Operand) (as:Array Operand) (ts:Array TypeId):vc P ev H ty K (.call ⟨.value f,as,ts⟩)=jbm P (ev f) (as.toList.map ev) H K:=(rfl)
@[go_sem] theorem jyW (t:TypeId) (a x:Operand):vc P ev H ty K (.call ⟨.builtin .append,#[a,x],#[t,t]⟩)=jcZ P t t (ev a) (ev x) H K:=by simp [vc]
@[go_sem] theorem j1D (as:Array Operand) (ts:Array TypeId):vc P ev H ty K (.call ⟨.builtin .copy,as,ts⟩)=jcO P .copy ts.toList (as.toList.map ev) H K:=by simp [vc,jaq]
end
section
variable {P:Program} {F:List AV} {H:Hp} {g:Bool} {K:AV→Prop}
@[go_sem] theorem j1M (c a b:Operand):vcG P F H g K (.pick c a b)=((g=true→(unG (evA F c)).1=true∧(jfX (evG F c) (evA F a) (evA F b)).1)∧K (.gd g (jfX (evG F c) (evA F a) (evA F b)).2)):=(rfl)
@[go_sem] theorem jv0 (x:Operand):vcG P F H g K (.nilCheck x)=((g=true→okG F (.nilCheck x)=true∧(jqG (evG F x)).1)∧K (.gd g (jqG (evG F x)).2)):=by simp [vcG,jax,jaq,vq]
@[go_sem] theorem j1N (op:UnOp) (t:TypeId) (x:Operand):vcG P F H g K (.unOp op t x)=((g=true→okG F (.unOp op t x)=true∧(qUn op (evG F x)).1)∧K (.gd g (qUn op (evG F x)).2)):=by simp [vcG,jax,jaq,vq]
@[go_sem] theorem j1K (t:TypeId) (x:Operand):vcG P F H g K (.load t x)=((g=true→okG F (.load t x)=true∧(jfW P H t (evG F x)).1)∧K (.gd g (jfW P H t (evG F x)).2)):=by simp [vcG,jax,jaq,vq]
@[go_sem] theorem jt2 (t:TypeId) (x:Operand) (f:Nat):vcG P F H g K (.fieldAddr t x f)=((g=true→okG F (.fieldAddr t x f)=true∧(jbW P t (evG F x) f).1)∧K (.gd g (jbW P t (evG F x) f).2)):=by simp [vcG,jax,jaq,vq]
@[go_sem] theorem jt3 (t:TypeId) (x i:Operand):vcG P F H g K (.indexAddr t x i)=((g=true→okG F (.indexAddr t x i)=true∧(jbX P t (evG F x) (evG F i)).1)∧K (.gd g (jbX P t (evG F x) (evG F i)).2)):=by simp [vcG,jax,jaq,vq]
@[go_sem] theorem j0i (t:TypeId) (x i:Operand):vcG P F H g K (.index t x i)=((g=true→okG F (.index t x i)=true∧(jg7 P t (evG F x) (evG F i)).1)∧K (.gd g (jg7 P t (evG F x) (evG F i)).2)):=by simp [vcG,jax,jaq,vq]
@[go_sem] theorem j0j (t:TypeId) (a:Operand) (lo hi mx:Option Operand):vcG P F H g K (.slice t a lo hi mx)=((g=true→okG F (.slice t a lo hi mx)=true∧(jg9 P t (evG F a) (lo.map (evG F)) (hi.map (evG F)) (mx.map (evG F))).1)∧K (.gd g (jg9 P t (evG F a) (lo.map (evG F)) (hi.map (evG F)) (mx.map (evG F))).2)):=by simp [vcG,jax,jaq,vq]
@[go_sem] theorem j4I (as:Array Operand) (ts:Array TypeId):vcG P F H g K (.call ⟨.builtin .len,as,ts⟩)=((g=true→okG F (.call ⟨.builtin .len,as,ts⟩)=true∧(jbH P H .len ts.toList (as.toList.map (evG F))).1)∧K (.gd g (jbH P H .len ts.toList (as.toList.map (evG F))).2)):=by simp [vcG,jax,jaq,vq]
@[go_sem] theorem j4E (t:TypeId) (x y:Operand) (t':TypeId):vcG P F H g K (.binOp .add t x y t')=((g=true→okG F (.binOp .add t x y t')=true∧(jdn P .add t (evG F x) (evG F y)).1)∧K (.gd g (jdn P .add t (evG F x) (evG F y)).2)):=by simp [vcG,jax,jaq,vq]
@[go_sem] theorem j4K (t:TypeId) (x y:Operand) (t':TypeId):vcG P F H g K (.binOp .lss t x y t')=((g=true→okG F (.binOp .lss t x y t')=true∧(jdn P .lss t (evG F x) (evG F y)).1)∧K (.gd g (jdn P .lss t (evG F x) (evG F y)).2)):=by simp [vcG,jax,jaq,vq]
@[go_sem] theorem j4J (t:TypeId) (x y:Operand) (t':TypeId):vcG P F H g K (.binOp .leq t x y t')=((g=true→okG F (.binOp .leq t x y t')=true∧(jdn P .leq t (evG F x) (evG F y)).1)∧K (.gd g (jdn P .leq t (evG F x) (evG F y)).2)):=by simp [vcG,jax,jaq,vq]
@[go_sem] theorem j4H (t:TypeId) (x y:Operand) (t':TypeId):vcG P F H g K (.binOp .gtr t x y t')=((g=true→okG F (.binOp .gtr t x y t')=true∧(jdn P .gtr t (evG F x) (evG F y)).1)∧K (.gd g (jdn P .gtr t (evG F x) (evG F y)).2)):=by simp [vcG,jax,jaq,vq]
@[go_sem] theorem j4G (t:TypeId) (x y:Operand) (t':TypeId):vcG P F H g K (.binOp .geq t x y t')=((g=true→okG F (.binOp .geq t x y t')=true∧(jdn P .geq t (evG F x) (evG F y)).1)∧K (.gd g (jdn P .geq t (evG F x) (evG F y)).2)):=by simp [vcG,jax,jaq,vq]
@[go_sem] theorem j1L (x:Operand):vcG P F H g K (.move x)=((g=true→okG F (.move x)=true)∧K (.gd g (evG F x))):=by simp [vcG,jax,jaq,vq]
@[go_sem] theorem j4F (t:TypeId) (x y:Operand) (t':TypeId):vcG P F H g K (.binOp .eql t x y t')=((g=true→okG F (.binOp .eql t x y t')=true∧(jdn P .eql t (evG F x) (evG F y)).1)∧K (.gd g (jdn P .eql t (evG F x) (evG F y)).2)):=by simp [vcG,jax,vq]
@[go_sem] theorem j4L (t:TypeId) (x y:Operand) (t':TypeId):vcG P F H g K (.binOp .neq t x y t')=((g=true→okG F (.binOp .neq t x y t')=true∧(jdn P .neq t (evG F x) (evG F y)).1)∧K (.gd g (jdn P .neq t (evG F x) (evG F y)).2)):=by simp [vcG,jax,vq]
@[go_sem] theorem j1J (f:Operand) (as:Array Operand) (ts:Array TypeId):vcG P F H g K (.call ⟨.value f,as,ts⟩)=∃ r,(g=true→okG F (.call ⟨.value f,as,ts⟩)=true∧jbm P (evG F f) (as.toList.map (evG F)) H fun r' H'=>r'=r∧H'=H)∧K (.gd g r):=(rfl)
@[go_sem] theorem j0x (t:Tmp):evA F (.tmp t)=F.getD t .any:=(rfl)
@[go_sem] theorem jxO (v:Value):evA F (.const v)=.raw v:=(rfl)
@[go_sem] theorem jzh (f:FuncId):evA F (.func f)=.raw (.func (.func f) #[] #[]):=(rfl)
@[go_sem] theorem jyn (d:Tmp) (a:AV):jbu F (some d) a=F.set d a:=(rfl)
@[go_sem] theorem jym (a:AV):jbu F none a=F:=(rfl)
end
@[go_sem] theorem jyp (len s:Nat) (i:Int) (f:Nat→AV):jyo (some (len,s)) i f=(0≤i∧i < len,f (i.toNat * s)):=(rfl)
attribute [go_sem] evG okG unG jcA jbk jax jaq jfX jqG jzQ jzR jqD jdn qUn jfW jdf jbW jg6 jsD jbX jg7 jeS jfV jg9 jtQ joX jn1 joV jvg jzP jiq jbH jj4 jjv jjI jfc jop jb9
attribute [go_sem] ones Op.operands Call.operands jqh
section
@[go_sem] theorem jxu (cs:List AV):(AV.agg cs).cells=cs:=(rfl)
@[go_sem] theorem jxv (k:IntKind) (n:Int):(AV.raw (.int k n)).cells=[.raw (.int k n)]:=(rfl)
@[go_sem] theorem jtl (s:ByteArray):(AV.raw (.string s)).cells=[.raw (.string s)]:=(rfl)
@[go_sem] theorem jum (a:Option Addr) (n c:Nat):(AV.raw (.slice a n c)).cells=[.raw (.slice a n c)]:=(rfl)
@[go_sem] theorem jzd (x:Bool) (sz:Nat) (css:List (List AV)) (d:List AV):(AV.sl x sz css d).cells=[.sl x sz css d]:=(rfl)
@[go_sem] theorem jzb (i m k j:Nat):(AV.pt i m k j).cells=[.pt i m k j]:=(rfl)
@[go_sem] theorem jzc (i m k j:Nat):(AV.rs i m k j).cells=[.rs i m k j]:=(rfl)
@[go_sem] theorem j1f (k:IntKind) (n:Int):(AV.raw (.int k n)).one=true:=(rfl)
@[go_sem] theorem jwR (s:ByteArray):(AV.raw (.string s)).one=true:=(rfl)
@[go_sem] theorem jyj (a:Option Addr) (n c:Nat):(AV.raw (.slice a n c)).one=true:=(rfl)
@[go_sem] theorem j4a (x:Bool) (sz:Nat) (css:List (List AV)) (d:List AV):(AV.sl x sz css d).one=true:=(rfl)
@[go_sem] theorem j38 (i m k j:Nat):(AV.pt i m k j).one=true:=(rfl)
@[go_sem] theorem j39 (i m k j:Nat):(AV.rs i m k j).one=true:=(rfl)
end
attribute [go_sem] Hp.get Hp.put jas jg4 jqa je6 entry ids jmR jrk jyK room joj jkF jcU
attribute [go_sem] AV.all jaB noQ AV.flat joH jrC jtU fits fresh jek ja9 jcB ju3 neQ VToL
@[go_sem] theorem jxT (sz:Nat):jja sz []=True:=by simp [jsb]
@[go_sem] theorem jwH (sz:Nat) (cs:List AV) (css:List (List AV)):jja sz (cs::css)=((cs.length=sz∧ones cs=true)∧jja sz css):=by simp [jja]
@[go_sem] theorem jxS {α:Type} (enc:α→List AV) (sz:Nat) [EncOK enc sz] (l:List α):jja sz (l.map enc)=True:=by simp [jnu]
@[go_sem] theorem j1i (q:Nat→Bool):QL q []=True:=by simp [jn2]
@[go_sem] theorem jzS (q:Nat→Bool) (cs:List AV) (css:List (List AV)):QL q (cs::css)=(jaB q cs=true∧QL q css):=by simp [QL]
@[go_sem] theorem jwS (q:Nat→Bool) (a b:List (List AV)):QL q (a++b)=(QL q a∧QL q b):=by
 apply propext
 exact ⟨fun h=>⟨fun c hc=>h c (List.mem_append_left _ hc),fun c hc=>h c (List.mem_append_right _ hc)⟩,fun h=>jir h.1 h.2⟩
@[go_sem] theorem j1h {α:Type} (q:Nat→Bool) (enc:α→List AV) {sz:Nat} [EncOK enc sz] (l:List α):QL q (l.map enc)=True:=by simp [jb7]
@[go_sem] theorem jdO {α:Type} [Inhabited α] (enc:α→List AV) (l:List α) (k:Nat) (h:k < l.length):(l.map enc).getD k []=enc (nth l k):=by simp [nth,h]
@[go_sem] theorem jwG {α:Type} [Inhabited α] (enc:α→List AV) (l:List α) (k:Nat):(l.map enc).getD k (enc default)=enc (nth l k):=by
 unfold nth
 rcases Nat.lt_or_ge k l.length with h | h<;>simp [h]
@[go_sem] theorem jyc {α:Type} (enc:α→List AV) (l:List α) (k:Nat):(l.map enc).take k=(l.take k).map enc:=by simp
@[go_sem] theorem ju1 {α β:Type} (f:α→β) (l:List α):(l.map f).length=l.length:=by simp
@[go_sem] theorem jrA {α:Type} (a b:List α):(a++b).length=a.length+b.length:=by simp
@[go_sem] theorem ju7 {α β:Type} (f:α→β) (a b:List α):(a++b).map f=a.map f++b.map f:=by simp
@[go_sem] theorem jrZ (i:Nat):([]:List Nat).contains i=false:=(rfl)
@[go_sem] theorem jrw (i j:Nat) (l:List Nat):(j::l).contains i=(i == j || l.contains i):=List.contains_cons
@[go_sem] theorem jvm (e e':TypeId) (sz sz':Nat) (a b:List (List AV)):(Row.vec e sz a=Row.vec e' sz' b)=(e=e'∧sz=sz'∧a=b):=by simp
attribute [go_sem] List.getD_cons_zero List.getD_cons_succ List.getD_nil List.set_cons_zero List.set_cons_succ List.set_nil List.map_nil List.map_cons List.getElem?_cons_zero List.getElem?_cons_succ List.getElem?_nil List.getElem?_toArray List.all_nil List.all_cons List.append_nil List.nil_append List.cons_append List.length_cons List.length_nil List.take_succ_cons List.take_zero List.take_nil List.drop_succ_cons List.drop_zero List.drop_nil List.flatten_nil List.flatten_cons
theorem jpA (b:Bool):(b == true)=b:=by cases b<;>rfl
theorem jor (b:Bool):(b == false)=!b:=by cases b<;>rfl
attribute [go_sem] if_true if_false true_and and_true false_and and_false Option.map_some Option.map_none Option.getD_some Option.getD_none Option.bind_some Option.bind_none Option.isSome_some Option.isNone_some Option.isNone_none Option.some.injEq Bool.and_true Bool.true_and Bool.and_self Bool.not_true Bool.not_false jpA jor Bool.false_eq_true Bool.true_eq_false reduceCtorEq imp_self implies_true forall_const or_true true_or or_self or_false false_or not_true_eq_false not_false_eq_true eq_self ne_eq and_self List.foldl_cons List.foldl_nil Bool.not_eq_true' Bool.or_true Bool.or_false Bool.true_or Bool.false_or decide_true decide_false Nat.zero_add Nat.add_zero Nat.le_refl Int.toNat_natCast
@[go_sem] theorem jv7 (c x:Bool):jxr c x false=(c && x):=by cases c<;>rfl
@[go_sem] theorem jxs (c y:Bool):jxr c true y=(c || y):=by cases c<;>rfl
@[go_sem] theorem jxb (b:Bool):(false ^^ b)=b:=by cases b<;>rfl
@[go_sem] theorem jy7 (b:Bool):(true ^^ b)=!b:=by cases b<;>rfl
@[go_sem] theorem jru (id id':Nat) (Q:Exit→List AV→Hp→Prop) (F:List AV) (H:Hp):jgQ id Q (.exit id') F H=if id'=id then Q .normal F H else Q (.exit id') F H:=(rfl)
def jjB (J:List (Nat×AV)) (F:List AV):List AV:=J.foldl (fun F p=>F.set p.1 p.2) F
attribute [go_sem] jjB jmC jyd List.replicate_succ List.replicate_zero
def Next (n:Nat) {S:Type} (W:List (Nat×Nat)) (ok:S→Prop) (J:S→List (Nat×AV)) (G:S→Hp) (μ:S→Nat) (F₀ F:List AV) (H:Hp):Prop:=∃ s,μ s < n∧FLe F H (jjB (J s) (jmC W F₀)) (G s)∧ok s
theorem jau {n:Nat} {S:Type} {W:List (Nat×Nat)} {ok:S→Prop} {J:S→List (Nat×AV)} {G:S→Hp} {μ:S→Nat} {F₀ F:List AV} {H:Hp} (s:S) (h1:ok s) (h2:μ s < n) (h4:H=G s) (h3:LLe F (jjB (J s) (jmC W F₀))):Next n W ok J G μ F₀ F H:=⟨s,h2,by rw [← h4];exact FLe.pt H h3,h1⟩
theorem jll {n:Nat} {S:Type} {W:List (Nat×Nat)} {ok:S→Prop} {J:S→List (Nat×AV)} {G:S→Hp} {μ:S→Nat} {F₀ F:List AV} {H:Hp} (D:Nat→Bool) (s:S) (h1:ok s) (h2:μ s < n) (hB:H.B.all (jcB D)=true) (hl:jek D H.l) (h4:⟨H.B,ja9 D H.l⟩=G s) (h3:VToL D H F (jjB (J s) (jmC W F₀))):Next n W ok J G μ F₀ F H:=⟨s,h2,by rw [← h4];exact FLe.free D hB hl h3,h1⟩
theorem jah {P:Program} {c:Code} {Q:Exit→List AV→Hp→Prop} {F:List AV} {H:Hp} {S:Type} (W:List (Nat×Nat)) (ok:S→Prop) (J:S→List (Nat×AV)) (G:S→Hp) (μ:S→Nat) (s₀:S) (h0:ok s₀) (hle:FLe F H (jjB (J s₀) (jmC W F)) (G s₀))
  (round:∀ s,ok s→∀ K:List AV→Hp→Prop,(∀ F' H',Next (μ s) W ok J G μ F F' H'→K F' H')→AWP P c (jl2 K Q) (jjB (J s) (jmC W F)) (G s)):AWP P (.loop c) Q F H:=by
 refine jrO (S:=S) (fun s F' H'=>F'=jjB (J s) (jmC W F)∧H'=G s∧ok s) μ s₀ hle ⟨rfl,rfl,h0⟩ ?_
 rintro s F' H' ⟨rfl,rfl,hok⟩
 refine round s hok _ ?_
 rintro F'' H'' ⟨s',h1,h2,h3⟩
 exact ⟨s',_,_,h1,h2,rfl,rfl,h3⟩
theorem jaE {F F':List AV} {H H':Hp} (h1:H=H') (h2:LLe F F'):FLe F H F' H':=by rw [← h1];exact FLe.pt H h2
theorem jjz {P:Program} {fn:Func} {R:AV→List (Nat×Row)→Prop} {F:List AV} {H:Hp} {out:List AV} {e:Exit} (he:e=.normal∨e=.ret) (ho:jgg P H F fn.results.toList=some out) (hok:jbT P H F fn.results.toList) (r:AV) (H':Hp) (hle:RLe (jbo out) H r H') (hR:R r H'.l):jhu P fn R e F H:=by
 rcases he with rfl | rfl<;>exact ⟨out,r,H',ho,hok,hle,hR⟩
theorem jdB {P:Program} {H:Hp} {t:TypeId} {K:AV→Hp→Prop} (i:Nat) {zs:List Value} (hz:jbK P t=some zs) (hi:H.get i=none) (h:K (.pt i 0 0 0) (H.put i (.var t (zs.map .raw)))):jdA P H t K:=by
 unfold jdA
 rw [hz]
 exact ⟨i,hi,h⟩
theorem je1 {H:Hp} {t:TypeId} {x:AV} {K:AV→Hp→Prop} (i:Nat) (ho:ones x.cells=true) (hi:H.get i=none) (h:K (.pt i 0 0 0) (H.put i (.var t x.cells))):js9 H t x K:=⟨ho,i,hi,h⟩
def nxF:List (Nat×Row)→Nat→Nat
 | [],m=>m
 | (i,_)::l,m=>nxF l (if m≤i then i+1 else m)
def nx (l:List (Nat×Row)):Nat:=nxF l 0
theorem jnR:∀ (l:List (Nat×Row)) (m i:Nat),nxF l m≤i→jas l i=none∧m≤i
 | [],m,i,h=>⟨rfl,h⟩
 | (j,r)::l,m,i,h=>by
  obtain ⟨h1,h2⟩:=jnR l _ i h
  simp only [jas]
  split at h2
  ·rw [if_neg (by omega)];exact ⟨h1,by omega⟩
  ·rw [if_neg (by omega)];exact ⟨h1,h2⟩
theorem jkk (l:List (Nat×Row)) (i:Nat) (h:nx l≤i):jas l i=none:=(jnR l 0 i h).1
attribute [go_sem] nxF
attribute [go_sem] nx
@[go_sem] theorem jva:(none:Option Operand).toArray.toList=[]:=(rfl)
@[go_sem] theorem jvb (x:Operand):(some x).toArray.toList=[x]:=(rfl)
theorem jm2 {H:Hp} {A:Nat→Prop} {d:Dep A} (h:A (nx H.l)):jjH H A d:=⟨_,jkk _ _ (Nat.le_refl _),h⟩
theorem jmZ {P:Program} {H:Hp} {t:TypeId} {K:AV→Hp→Prop} {zs:List Value} (hz:jbK P t=some zs) (h:K (.pt (nx H.l) 0 0 0) (H.put (nx H.l) (.var t (zs.map .raw)))):jdA P H t K:=jdB _ hz (jkk _ _ (Nat.le_refl _)) h
theorem jrl {H:Hp} {t:TypeId} {x:AV} {K:AV→Hp→Prop} (ho:ones x.cells=true) (h:K (.pt (nx H.l) 0 0 0) (H.put (nx H.l) (.var t x.cells))):js9 H t x K:=je1 _ ho (jkk _ _ (Nat.le_refl _)) h
theorem jph {e:TypeId} {sz:Nat} {css:List (List AV)} {H:Hp} {K:AV→Hp→Prop} (h1:jaB noQ css.flatten=true) (h2:K (.sl true sz css []) H):jkI e sz css H K:=.inl ⟨h1,h2⟩
theorem jiN {e:TypeId} {sz:Nat} {css:List (List AV)} {H:Hp} {K:AV→Hp→Prop} (i:Nat) (h0:0 < sz) (hi:H.get i=none) (h2:K (.rs i css.length sz css.length) (H.put i (.vec e sz css))):jkI e sz css H K:=.inr ⟨h0,i,hi,h2⟩
theorem jpg {e:TypeId} {sz:Nat} {css:List (List AV)} {H:Hp} {K:AV→Hp→Prop} (h0:0 < sz) (h2:K (.rs (nx H.l) css.length sz css.length) (H.put (nx H.l) (.vec e sz css))):jkI e sz css H K:=jiN _ h0 (jkk _ _ (Nat.le_refl _)) h2
theorem jpi {e:TypeId} {sz:Nat} {H:Hp} {K:AV→Hp→Prop} (h0:0 < sz) (h2:K (.rs (nx H.l) 0 sz 0) (H.put (nx H.l) (.vec e sz []))):jkI e sz [] H K:=jpg h0 h2
def VLe (a a':AV):Prop:=∀ (w:NW) v,RelV w a v→RelV w a' v
theorem VLe.refl (a:AV):VLe a a:=fun _ _ h=>h
theorem VLe.sl {x:Bool} {sz:Nat} {css:List (List AV)} {d d':List AV}:VLe (.sl x sz css d) (.sl false sz css d'):=fun w v hr=>by
 cases hr with
 | sl0 _ _ A c _=>exact .sl0 _ _ _ _ (fun e=>by cases e)
 | sl _ _ _ a c vs hn hc hx hsz hb hH hcell hr=>exact .sl _ _ _ a c vs hn hc (fun e=>by cases e) hsz hb hH hcell hr
theorem VLe.nil {sz:Nat} {d:List AV}:VLe (.raw (.slice none 0 0)) (.sl false sz [] d):=fun w v hr=>by
 have:=jar hr
 subst this
 exact .sl0 _ _ _ _ (fun e=>by cases e)
def VLes:List AV→List AV→Prop
 | [],[]=>True
 | a::l,b::m=>VLe a b∧VLes l m
 | _,_=>False
theorem VLes.get:∀ {l m:List AV},VLes l m→l.length=m.length∧∀ (i:Nat) a b,l[i]?=some a→m[i]?=some b→VLe a b
 | [],[],_=>⟨rfl,fun i a b h=>by simp at h⟩
 | x::l,y::m,h=>by
  have ih:=VLes.get h.2
  refine ⟨by simp [ih.1],fun i a b ha hb=>?_⟩
  cases i with
  | zero=>simp at ha hb;subst ha hb;exact h.1
  | succ i=>exact ih.2 i a b (by simpa using ha) (by simpa using hb)
attribute [go_sem] jbo
@[go_sem] theorem jwF (l:List AV) (n m:Nat):(l.drop n).getD m .any=l.getD (n+m) .any:=by simp [List.getD_eq_getElem?_getD]
attribute [go_sem] List.drop_drop List.length_drop Array.toList_append
theorem jvi {P:Program} {fn:Func} {F:List AV} {H:Hp} {out:List AV} {e:Exit} {r:AV} {l:List (Nat×Row)} (he:e=.normal∨e=.ret) (ho:jgg P H F fn.results.toList=some out) (hok:jbT P H F fn.results.toList) (h1:jbo out=r) (h2:H.l=l):jhu P fn (fun r' l'=>r'=r∧l'=l) e F H:=
 jjz he ho hok r H (RLe.of_eq H h1) ⟨rfl,h2⟩
theorem jfZ {P:Program} {fn:Func} {F:List AV} {H:Hp} {out:List AV} {e:Exit} {r:AV} {l:List (Nat×Row)} (D:Nat→Bool) (he:e=.normal∨e=.ret) (ho:jgg P H F fn.results.toList=some out) (hok:jbT P H F fn.results.toList) (hB:H.B.all (jcB D)=true) (hl:jek D H.l) (hv:VTo D H (jbo out) r) (h2:ja9 D H.l=l):jhu P fn (fun r' l'=>r'=r∧l'=l) e F H:=
 jjz he ho hok r _ (RLe.free D hB hl hv) ⟨rfl,h2⟩
theorem jiP {D:Nat→Bool} {H:Hp} {a a':AV} (h:a=a') (hq:a.all (jcB D)=true):VTo D H a a':=by subst h;exact .same _ hq
def jd9 (B:List Nat):Nat→Bool:=fun i=>!(B.contains i)
theorem jsK {P:Program} {fn:Func} {F:List AV} {H:Hp} {out:List AV} {e:Exit} {r:AV} {l:List (Nat×Row)} (he:e=.normal∨e=.ret) (ho:jgg P H F fn.results.toList=some out) (hok:jbT P H F fn.results.toList) (hl:jek (jd9 H.B) H.l) (hv:VTo (jd9 H.B) H (jbo out) r) (h2:ja9 (jd9 H.B) H.l=l):jhu P fn (fun r' l'=>r'=r∧l'=l) e F H:=
 jfZ (jd9 H.B) he ho hok (by
  rw [List.all_eq_true]
  intro x hx
  simp [jcB,jd9,hx]) hl hv h2
attribute [go_sem] jgg jbT
theorem jlE {P:Program} {fn:Func} {F:List AV} {H:Hp} {out:List AV} {e:Exit} {r:AV} {l:List (Nat×Row)} (rs:List ResultVar) (hrs:fn.results.toList=rs) (he:e=.normal∨e=.ret) (ho:jgg P H F rs=some out) (hok:jbT P H F rs) (hl:jek (jd9 H.B) H.l) (hv:VTo (jd9 H.B) H (jbo out) r) (h2:ja9 (jd9 H.B) H.l=l):jhu P fn (fun r' l'=>r'=r∧l'=l) e F H:=by
 subst hrs
 exact jsK he ho hok hl hv h2
theorem jsL {P:Program} {fn:Func} {F:List AV} {H:Hp} {out:List AV} {e:Exit} {r:AV} {l:List (Nat×Row)} (rs:List ResultVar) (hrs:fn.results.toList=rs) (he:e=.normal∨e=.ret) (ho:jgg P H F rs=some out) (hok:jbT P H F rs) (h1:jbo out=r) (h2:H.l=l):jhu P fn (fun r' l'=>r'=r∧l'=l) e F H:=by
 subst hrs
 exact jvi he ho hok h1 h2
attribute [go_sem] jd9 cond_true cond_false jib
theorem jid {n:Nat} {S:Type} {W:List (Nat×Nat)} {ok:S→Prop} {J:S→List (Nat×AV)} {G:S→Hp} {μ:S→Nat} {F₀ F:List AV} {H:Hp} (L:List Nat) (s:S) (h1:ok s) (h2:μ s < n) (hB:H.B.all (jcB fun i=>L.contains i)=true) (hl:jek (fun i=>L.contains i) H.l) (h4:⟨H.B,ja9 (fun i=>L.contains i) H.l⟩=G s) (h3:VToL (fun i=>L.contains i) H F (jjB (J s) (jmC W F₀))):Next n W ok J G μ F₀ F H:=jll _ s h1 h2 hB hl h4 h3
theorem jm3 {D:Nat→Bool} {H:Hp} (a:AV):VTo D H a .any:=.drop a
@[go_sem] theorem jvN (i:Nat) (e:TypeId) (m sz:Nat) (css ys:List (List AV)) (H:Hp) (K:AV→Hp→Prop):jiM i e m sz m css ys H K=K (.rs i (m+ys.length) sz (m+ys.length)) (H.put i (.vec e sz (css++ys))):=if_pos rfl
theorem jm1 {α:Type} {enc:α→List AV} (vars more ys:List α) {i:Nat} {e:TypeId} {m sz n:Nat} {css yss:List (List AV)} {H:Hp} {K:AV→Hp→Prop} (hm:m=vars.length+more.length) (hn:n=vars.length) (hc:css=(vars++more).map enc) (hy:yss=ys.map enc)
  (h:K (.rs i (vars.length+ys.length+(more.drop ys.length).length) sz (vars.length+ys.length)) (H.put i (.vec e sz ((vars++ys++more.drop ys.length).map enc)))):jiM i e m sz n css yss H K:=by
 subst hm hn hc hy
 unfold jiM
 split
 ·rename_i h'
  have:more=[]:=List.length_eq_zero_iff.1 (by omega)
  subst this
  simpa using h
 ·have e1:max (vars.length+more.length) (vars.length+(ys.map enc).length)=vars.length+ys.length+(more.drop ys.length).length:=by simp;omega
  have e2:jfw ((vars++more).map enc) vars.length (ys.map enc)=(vars++ys++more.drop ys.length).map enc:=by
   unfold jfw
   rw [← List.map_take,List.take_left',← List.map_drop,List.length_map,List.drop_append,List.drop_eq_nil_of_le (by omega),List.nil_append]
   ·simp
   ·rfl
  rw [e1,e2]
  simpa using h
theorem jo1 {b c:Bool} (h:b=c):AV.raw (.bool b)=AV.raw (.bool c):=by rw [h]
theorem jqO {k:IntKind} {b c:Int} (h:b=c):AV.raw (.int k b)=AV.raw (.int k c):=by rw [h]
section
variable {P:Program} {ops:Array Oper} {H:Hp}
def jpn (ops:Array Oper) (o:Oper) (F G:List AV):Prop:=(∀ x∈o.op.operands.toList,evA G x=evA F x)∧∀ j b,o.guard=some (j,b)→jcA ops G j b=jcA ops F j b
def QV (P:Program) (ops:Array Oper) (o:Oper) (F:List AV) (H:Hp) (r:AV):Prop:=∀ G,jpn ops o F G→AOp P ops o G H fun F' H'=>F'=jbu G o.dst r∧H'=H
theorem jgO {f:AV} {args:List AV} {K K':AV→Hp→Prop} (h:jbm P f args H K) (hk:∀ r H,K r H→K' r H):jbm P f args H K':=by
 unfold jbm at *
 split at h
 ·rcases h with h | h
  ·exact .inl ⟨h.1,h.2.mono hk⟩
  ·exact .inr fun w vs h1 h2=>by
    obtain ⟨v,w',r,H',e,k,g⟩:=h w vs h1 h2
    exact ⟨v,w',r,H',e,hk _ _ k,g⟩
 ·exact h.elim
def jht (P:Program) (t:TypeId) (n:Nat) (parts:List (Nat×AV)) (K:AV→Prop):Prop:=match elT P t with
 | some e=>match jct P e with
  | some sz=>((parts.length=n∧jqh sz 0 parts∧n * sz≤16777216∧(n * sz=0∨(jbK P e).isSome=true))∧jaB noQ (jcU parts).flatten=true)∧K (.sl true sz (jcU parts) [])
  | none=>False
 | none=>False
theorem jrm {t:TypeId} {n:Nat} {parts:List (Nat×AV)} {K:AV→Hp→Prop} (h:jht P t n parts fun r=>K r H):jop P H t n parts K:=by
 unfold jht at h
 unfold jop
 split at h
 ·rename_i e he
  split at h
  ·rename_i sz hs
   rw [he]
   simp only [hs]
   exact ⟨h.1.1,.inl ⟨h.1.2,h.2⟩⟩
  ·exact h.elim
 ·exact h.elim
theorem jgP {t:TypeId} {n:Nat} {parts:List (Nat×AV)} {K:AV→Prop} (h:jht P t n parts K):∃ r,K r∧∀ K':AV→Prop,K' r→jht P t n parts K':=by
 unfold jht at h
 split at h
 ·rename_i e he
  split at h
  ·rename_i sz hs
   exact ⟨_,h.2,fun K' hk=>by unfold jht;rw [he];simp only [hs];exact ⟨h.1,hk⟩⟩
  ·exact h.elim
 ·exact h.elim
def joE:Op→Bool
 | .binOp .eql ..=>true
 | .binOp .neq ..=>true
 | _=>false
theorem jpv {o:Oper} {F:List AV} {K:List AV→Hp→Prop} (hg:o.guard=none) (hq:(vq P (evA F) H o.op).1) (hk:K (jbu F o.dst (vq P (evA F) H o.op).2) H):AOp P ops o F H K:=
 juc hg (jue (K:=fun r H'=>K (jbu F o.dst r) H') hq hk)
theorem jeT {o:Oper} {F:List AV} (hg:o.guard=none) (hq:(vq P (evA F) H o.op).1):QV P ops o F H (vq P (evA F) H o.op).2:=fun G hG=>by
 have e:vq P (evA G) H o.op=vq P (evA F) H o.op:=jeg _ hG.1
 exact jpv hg (by rw [e];exact hq) ⟨by rw [e],rfl⟩
theorem jqM {dst:Option Tmp} {f:Operand} {args:Array Operand} {ts:Array TypeId} {ty:TypeId} {pos:String} {after:Array Edge} {F:List AV} {r:AV} (h:jbm P (evA F f) (args.toList.map (evA F)) H fun r' H'=>r'=r∧H'=H) :
  QV P ops ⟨dst,.call ⟨.value f,args,ts⟩,ty,pos,after,none⟩ F H r:=fun G hG=>by
 refine je8 (K:=fun F' H'=>F'=jbu G dst r∧H'=H) rfl ?_
 show jbm P (evA G f) (args.toList.map (evA G)) H _
 rw [hG.1 f (by simp [Op.operands,Call.operands]),List.map_congr_left (g:=evA F) (fun x hx=>hG.1 x (by simp [Op.operands,Call.operands] at hx ⊢;exact .inr hx))]
 exact jgO h fun r' H' ⟨e1,e2⟩=>⟨by rw [e1],e2⟩
theorem jqN {dst:Option Tmp} {t:TypeId} {n:Nat} {parts:Array (Nat×Operand)} {ty:TypeId} {pos:String} {after:Array Edge} {F:List AV} {r:AV} (h:jht P t n (parts.toList.map fun p=>(p.1,evA F p.2)) fun r'=>r'=r) :
  QV P ops ⟨dst,.buildSlice t n parts,ty,pos,after,none⟩ F H r:=fun G hG=>by
 refine je8 (K:=fun F' H'=>F'=jbu G dst r∧H'=H) rfl ?_
 show jop P H t n (parts.toList.map fun p=>(p.1,evA G p.2)) (fun r_1 H'=>jbu G dst r_1=jbu G dst r∧H'=H)
 rw [List.map_congr_left (g:=fun p=>(p.1,evA F p.2)) (fun x hx=>by rw [hG.1 x.2 (by simp [Op.operands] at hx ⊢;exact ⟨_,hx⟩)])]
 refine jrm ?_
 obtain ⟨r',e,hk⟩:=jgP h
 subst e
 exact hk _ ⟨rfl,rfl⟩
theorem jlo {F G:List AV} (o:Op) (h:∀ x∈o.operands.toList,evA G x=evA F x):okG G o=okG F o:=by
 unfold okG
 rw [Bool.eq_iff_iff,List.all_eq_true,List.all_eq_true]
 constructor<;>intro hh x hx<;>have:=hh x hx<;>rw [h x hx] at *<;>exact this
def jk8:Op→Bool
 | .pick ..=>true
 | _=>false
theorem jgf {F:List AV} {g:Bool} {K:AV→Prop} (o:Op) (h:jbk o=false) (hp:jk8 o=false):vcG P F H g K o=if jax o then (g=true→okG F o=true∧(vq P (evG F) H o).1)∧K (.gd g (vq P (evG F) H o).2) else False:=by
 cases o
 case call c=>
  obtain ⟨callee,args,ts⟩:=c
  cases callee
  case value f=>cases h
  all_goals rfl
 case pick=>cases hp
 all_goals rfl
theorem jkM {F:List AV} {g:Bool} {K:AV→Prop} {o:Op} (h:vcG P F H g K o):∃ r,K (.gd g r)∧∀ (G:List AV) (K':AV→Prop),(∀ x∈o.operands.toList,evA G x=evA F x)→K' (.gd g r)→vcG P G H g K' o:=by
 cases hc:jbk o with
 | false=>
  by_cases hp:jk8 o=true
  ·cases o<;>try cases hp
   rename_i c a b
   refine ⟨_,h.2,fun G K' hG hk=>?_⟩
   have he:∀ x∈(Op.pick c a b).operands.toList,evG G x=evG F x:=fun x hx=>by unfold evG;rw [hG x hx]
   show (g=true→(unG (evA G c)).1=true∧(jfX (evG G c) (evA G a) (evA G b)).1)∧K' (.gd g (jfX (evG G c) (evA G a) (evA G b)).2)
   rw [hG c (by simp [Op.operands]),hG a (by simp [Op.operands]),hG b (by simp [Op.operands]),he c (by simp [Op.operands])]
   exact ⟨h.1,hk⟩
  have hp:jk8 o=false:=by simpa using hp
  rw [jgf o hc hp] at h
  split at h
  ·rename_i hq
   refine ⟨_,h.2,fun G K' hG hk=>?_⟩
   have he:∀ x∈o.operands.toList,evG G x=evG F x:=fun x hx=>by unfold evG;rw [hG x hx]
   rw [jgf o hc hp,if_pos hq,jeg _ he,jlo o hG]
   exact ⟨h.1,hk⟩
  ·exact h.elim
 | true=>
  cases o<;>try cases hc
  rename_i c
  obtain ⟨callee,args,ts⟩:=c
  cases callee<;>try cases hc
  rename_i f
  obtain ⟨r,h1,h2⟩:=h
  refine ⟨r,h2,fun G K' hG hk=>⟨r,fun hg=>⟨jlo _ hG ▸ (h1 hg).1,?_⟩,hk⟩⟩
  have he:∀ x∈(Op.call ⟨.value f,args,ts⟩).operands.toList,evG G x=evG F x:=fun x hx=>by unfold evG;rw [hG x hx]
  rw [he f (by simp [Op.operands,Call.operands]),List.map_congr_left (g:=evG F) (fun x hx=>he x (by simp [Op.operands,Call.operands] at hx ⊢;exact .inr hx))]
  exact (h1 hg).2
theorem jkq {o:Oper} {F:List AV} {j:Nat} {want b:Bool} {r:AV} (hg:o.guard=some (j,want)) (hb:jcA ops F j want=some b) (hq:(jbk o.op || jax o.op)=true) (h:vcG P F H b (fun r'=>r'=r) o.op):QV P ops o F H r:=fun G hG=>by
 have hv:vcl P ops (fun F' H'=>F'=jbu G o.dst r∧H'=H) [o] G H:=by
  simp only [vcl,hg,hG.2 j want hg,hb,hq,if_true]
  obtain ⟨r',h1,h2⟩:=jkM h
  exact h2 G _ hG.1 ⟨by rw [h1],trivial⟩
 have hs:=jeF [o] G H hv
 intro w tm Q next h1 h2 hn
 have:=hs w tm (fun e a w=>match e with | .normal=>next a w | e=>Q e a w) h1 h2 hn
 simp only [wpList] at this
 unfold jl0
 split
 ·rename_i hw
  rw [if_pos hw] at this
  rcases this with h | ⟨ha,hl⟩
  ·refine .inl ?_
   unfold Oper.wp at *
   generalize (execOp (Act.mk tm []).eval o).run P w=res at *
   cases res with
   | ok n w'=>
    cases n<;>simp only [Oper.upon] at h ⊢
    case enter f args=>exact Calls.mono h fun e w'' he=>by cases e<;>exact he
    all_goals exact h
   | halt x w'=>cases x<;>simp only [Oper.upon] at h ⊢;exact h
  ·exact .inr ⟨ha,hl⟩
 ·rename_i hw
  rw [if_neg hw] at this
  exact this
def je7 (P:Program) (ops:Array Oper) (H:Hp) (K:List AV→Prop):List Oper→List AV→Prop
 | [],F=>K F
 | o::rest,F=>match o.guard with
  | none=>match o.op with
   | .call { callee:=.value f,args,.. }=>∃ r,(jbm P (evA F f) (args.toList.map (evA F)) H fun r' H'=>r'=r∧H'=H)∧je7 P ops H K rest (jbu F o.dst r)
   | .buildSlice t n parts=>jht P t n (parts.toList.map fun p=>(p.1,evA F p.2)) fun r=>je7 P ops H K rest (jbu F o.dst r)
   | op=>(vq P (evA F) H op).1∧je7 P ops H K rest (jbu F o.dst (vq P (evA F) H op).2)
  | some (j,want)=>match jcA ops F j want with
   | some b=>(jbk o.op || jax o.op)=true∧vcG P F H b (fun r=>je7 P ops H K rest (jbu F o.dst r)) o.op
   | none=>False
def jy9 (P:Program) (ops:Array Oper) (H:Hp) (K:List AV→Prop):List Oper→List AV→List AV→Prop
 | [],F,rs=>rs=[]∧K F
 | o::rest,F,rs=>∃ r rs',rs=r::rs'∧QV P ops o F H r∧jy9 P ops H K rest (jbu F o.dst r) rs'
theorem jqL {K:List AV→Prop}:∀ (l:List Oper) (F:List AV),je7 P ops H K l F→∃ rs,jy9 P ops H K l F rs
 | [],F,h=>⟨[],rfl,h⟩
 | o::rest,F,h=>by
  have mk:∀ r,QV P ops o F H r→je7 P ops H K rest (jbu F o.dst r)→∃ rs,jy9 P ops H K (o::rest) F rs:=fun r h1 h2=>by
   obtain ⟨rs,h3⟩:=jqL rest _ h2
   exact ⟨r::rs,r,rs,rfl,h1,h3⟩
  obtain ⟨dst,op,ty,pos,after,guard⟩:=o
  cases guard with
  | none=>
   unfold je7 at h
   simp only at h
   split at h
   ·obtain ⟨r,h1,h2⟩:=h
    exact mk r (jqM h1) h2
   ·rename_i t n parts
    obtain ⟨r,h1,h2⟩:=jgP h
    exact mk r (jqN (h2 _ rfl)) h1
   ·exact mk _ (jeT rfl h.1) h.2
  | some g=>
   obtain ⟨j,want⟩:=g
   unfold je7 at h
   simp only at h
   split at h
   ·rename_i b hb
    obtain ⟨hq,hv⟩:=h
    obtain ⟨r,h1,h2⟩:=jkM hv
    exact mk _ (jkq rfl hb hq (r:=.gd b r) (h2 F _ (fun _ _=>rfl) rfl)) h1
   ·exact h.elim
-- the order
def FL (os:List Oper) (rs:List AV) (L:Nat→Bool) (F:List AV):Nat→List AV
 | 0=>F
 | m+1=>if L m then jbu (FL os rs L F m) ((os[m]?).bind (·.dst)) (rs.getD m .any) else FL os rs L F m
def jkJ (os:List Oper) (rs:List AV) (L:Nat→Bool) (F:List AV) (s:Nat):Nat→AV
 | 0=>F.getD s .any
 | m+1=>if L m=true∧(os[m]?).bind (·.dst)=some s then rs.getD m .any else jkJ os rs L F s m
theorem ja6 (os:List Oper) (rs:List AV) (L:Nat→Bool) (F:List AV):∀ m,(FL os rs L F m).length=F.length
 | 0=>rfl
 | m+1=>by
  unfold FL
  split
  ·rw [← ja6 os rs L F m]
   cases (os[m]?).bind (·.dst)<;>simp [jbu]
  ·exact ja6 os rs L F m
theorem jgR (os:List Oper) (rs:List AV) (L:Nat→Bool) (F:List AV) {s:Nat} (hs:s < F.length):∀ m,(FL os rs L F m).getD s .any=jkJ os rs L F s m
 | 0=>rfl
 | m+1=>by
  have ih:=jgR os rs L F hs m
  have hl:=ja6 os rs L F m
  unfold FL jkJ
  cases hd:(os[m]?).bind (·.dst) with
  | none=>
   have hno:¬ (L m=true∧(none:Option Tmp)=some s):=fun h=>by have:=h.2;cases this
   rw [if_neg hno]
   cases hL:L m
   ·exact ih
   ·exact ih
  | some d=>
   cases hL:L m
   ·simpa using ih
   ·simp only [if_true,jbu,true_and,Option.some.injEq]
    by_cases e:d=s
    ·subst e;simp [hl,hs]
    ·rw [if_neg e]
     have:(List.set (FL os rs L F m) d (rs.getD m .any)).getD s .any=(FL os rs L F m).getD s .any:=by simp [List.getElem?_set,e]
     rw [this,ih]
theorem jtf {os:List Oper} {rs:List AV} {L L':Nat→Bool} {F:List AV} {m m':Nat} {G:List AV} (hG:G.length=F.length) (h:∀ s,s < F.length→G.getD s .any=jkJ os rs L F s m):G=FL os rs L F m:=by
 refine List.ext_getElem? fun s=>?_
 rcases Nat.lt_or_ge s F.length with hs | hs
 ·have h1:=h s hs
  rw [← jgR os rs L F hs m] at h1
  have h2:G[s]?=some (G.getD s .any):=by simp [hG,hs]
  have h3:(FL os rs L F m)[s]?=some ((FL os rs L F m).getD s .any):=by simp [ja6,hs]
  rw [h2,h3,h1]
 ·rw [List.getElem?_eq_none (by omega),List.getElem?_eq_none (by rw [ja6];omega)]
def looks (os:List Oper) (o:Oper):List Nat:=
 (o.op.operands.toList.filterMap fun | .tmp t=>some t | _=>none)++
 (match o.guard with
   | some (g,_)=>((os[g]?).bind (·.dst)).toList
   | none=>[])
def nub:List Nat→List Nat
 | []=>[]
 | x::l=>if (nub l).contains x then nub l else x::nub l
theorem jmD {x:Nat}:∀ {l:List Nat},x∈nub l↔x∈l
 | []=>Iff.rfl
 | y::l=>by
  have ih:x∈nub l↔x∈l:=jmD
  unfold nub
  split
  ·rename_i h
   rw [ih,List.mem_cons]
   refine ⟨.inr,fun h'=>h'.elim (fun e=>?_) id⟩
   subst e
   exact ih.1 (List.contains_iff_mem.1 h)
  ·rw [List.mem_cons,List.mem_cons,ih]
def jbw (acc:List (List Nat)) (o:Oper):List (List Nat):=acc++[nub ((o.after.toList.filter (Region.binds .any)).flatMap fun e=>e.on::acc.getD e.on [])]
def jdp (os:List Oper):List (List Nat):=os.foldl jbw []
def jmd (os:List Oper) (a b:Oper):Bool:=
 (match a.dst with
   | some d=>(looks os b).contains d || b.dst == some d
   | none=>false) ||
 (match b.dst with
   | some d=>(looks os a).contains d
   | none=>false)
def jhU (os:List Oper):Bool:=
 let ps:=jdp os
 (List.range os.length).all fun j=>match os[j]? with
  | some b=>(b.after.toList.all fun e=>!Region.binds .any e || decide (e.on < j)) &&
   (List.range j).all fun i=>match os[i]? with
    | some a=>!jmd os a b || (ps.getD j []).contains i
    | none=>true
  | none=>true
theorem jin:∀ (os:List Oper) (acc:List (List Nat)) (j:Nat),j < acc.length→(os.foldl jbw acc)[j]?=acc[j]?
 | [],acc,j,_=>rfl
 | o::os,acc,j,h=>by
  simp only [List.foldl_cons]
  rw [jin os _ j (by simp [jbw];omega)]
  unfold jbw
  rw [List.getElem?_append_left h]
theorem jju:∀ (os:List Oper) (acc:List (List Nat)) (j:Nat) (o:Oper),os[j]?=some o→(os.foldl jbw acc).getD (acc.length+j) []=nub ((o.after.toList.filter (Region.binds .any)).flatMap fun e=>e.on::(if e.on < acc.length+j then (os.foldl jbw acc).getD e.on [] else []))
 | [],acc,j,o,h=>by simp at h
 | o'::os,acc,0,o,h=>by
  simp only [List.getElem?_cons_zero,Option.some.injEq] at h
  subst h
  simp only [List.foldl_cons,Nat.add_zero]
  have h1:(os.foldl jbw (jbw acc o')).getD acc.length []=nub ((o'.after.toList.filter (Region.binds .any)).flatMap fun e=>e.on::acc.getD e.on []):=by
   rw [List.getD_eq_getElem?_getD,jin os _ _ (by simp [jbw])]
   unfold jbw
   rw [List.getElem?_append_right (Nat.le_refl _)]
   simp
  rw [h1]
  congr 2
  funext e
  congr 1
  split
  ·rename_i hlt
   rw [List.getD_eq_getElem?_getD,List.getD_eq_getElem?_getD,jin os _ _ (by simp [jbw];omega)]
   unfold jbw
   rw [List.getElem?_append_left hlt]
  ·rename_i hge
   rw [List.getD_eq_getElem?_getD,List.getElem?_eq_none (by omega)]
   rfl
 | o'::os,acc,j+1,o,h=>by
  simp only [List.foldl_cons]
  have:=jju os (jbw acc o') j o (by simpa using h)
  have e:(jbw acc o').length+j=acc.length+(j+1):=by simp [jbw];omega
  rw [e] at this
  exact this
theorem jnZ {os:List Oper} {j:Nat} {o:Oper} (h:os[j]?=some o):(jdp os).getD j []=nub ((o.after.toList.filter (Region.binds .any)).flatMap fun e=>e.on::(if e.on < j then (jdp os).getD e.on [] else [])):=by
 have:=jju os [] j o h
 simp only [List.length_nil,Nat.zero_add] at this
 exact this
def jdq (os:List Oper) (L:Nat→Bool):Prop:=∀ j o,os[j]?=some o→L j=true→∀ e∈o.after.toList,Region.binds .any e=true→L e.on=true
theorem jcn {os:List Oper} {L:Nat→Bool} (hc:jdq os L) (hlt:∀ j o,os[j]?=some o→∀ e∈o.after.toList,Region.binds .any e=true→e.on < j):∀ n j,j < n→∀ o,os[j]?=some o→(∀ e∈o.after.toList,Region.binds .any e=true→L e.on=true)→∀ i∈(jdp os).getD j [],L i=true:=by
 intro n
 induction n with
 | zero=>intro j hj;omega
 | succ n ih=>
  intro j hj o ho hL i hi
  rw [jnZ ho,jmD] at hi
  obtain ⟨e,he,hi⟩:=List.mem_flatMap.1 hi
  obtain ⟨he1,he2⟩:=List.mem_filter.1 he
  have hon:=hL e he1 he2
  rcases List.mem_cons.1 hi with rfl | hi
  ·exact hon
  ·rw [if_pos (hlt j o ho e he1 he2)] at hi
   have hlt':=hlt j o ho e he1 he2
   have hjlen:=(List.getElem?_eq_some_iff.1 ho).1
   have ho':os[e.on]?=some (os[e.on]'(by omega)):=List.getElem?_eq_getElem (by omega)
   exact ih e.on (by omega) _ ho' (fun e' h1 h2=>hc _ _ ho' hon e' h1 h2) i hi
theorem jl4 (o:Oper) (os:List Oper) (r:AV) (rs:List AV) (F:List AV):∀ m,FL (o::os) (r::rs) (fun _=>true) F (m+1)=FL os rs (fun _=>true) (jbu F o.dst r) m
 | 0=>by simp [FL]
 | m+1=>by
  have ih:=jl4 o os r rs F m
  rw [FL,if_pos rfl,ih,FL,if_pos rfl]
  simp
theorem jly {K:List AV→Prop}:∀ (l:List Oper) (F:List AV) (rs:List AV),jy9 P ops H K l F rs→(∀ i o,l[i]?=some o→QV P ops o (FL l rs (fun _=>true) F i) H (rs.getD i .any))∧K (FL l rs (fun _=>true) F l.length)
 | [],F,rs,h=>⟨fun i o hi=>by simp at hi,h.2⟩
 | o::l,F,rs,h=>by
  obtain ⟨r,rs',rfl,h1,h2⟩:=h
  obtain ⟨g1,g2⟩:=jly l _ rs' h2
  refine ⟨fun i o' hi=>?_,by rw [List.length_cons,jl4];exact g2⟩
  cases i with
  | zero=>
   simp only [List.getElem?_cons_zero,Option.some.injEq] at hi
   subst hi
   exact h1
  | succ i=>
   rw [jl4]
   exact g1 i o' (by simpa using hi)
theorem jdN {os:List Oper} (h:jhU os=true):(∀ j o,os[j]?=some o→∀ e∈o.after.toList,Region.binds .any e=true→e.on < j)∧
  ∀ i j a b,i < j→os[i]?=some a→os[j]?=some b→jmd os a b=true→i∈(jdp os).getD j []:=by
 simp only [jhU,List.all_eq_true,List.mem_range] at h
 constructor
 ·intro j o ho e he hb
  have:=h j (List.getElem?_eq_some_iff.1 ho).1
  rw [ho] at this
  simp only [Bool.and_eq_true,List.all_eq_true] at this
  have:=this.1 e he
  simpa [hb] using this
 ·intro i j a b hij ha hb hc
  have:=h j (List.getElem?_eq_some_iff.1 hb).1
  rw [hb] at this
  simp only [Bool.and_eq_true,List.all_eq_true,List.mem_range] at this
  have:=this.2 i hij
  rw [ha] at this
  simp only [hc,Bool.not_true,Bool.false_or] at this
  simpa using this
theorem jlV {os:List Oper} {rs F:List AV} {L:Nat→Bool} {i s:Nat} (hw:∀ k o,os[k]?=some o→o.dst=some s→L k=decide (k < i)):∀ m,jkJ os rs L F s m=jkJ os rs (fun _=>true) F s (min m i)
 | 0=>by simp [jkJ]
 | m+1=>by
  have ih:=jlV (rs:=rs) (F:=F) hw m
  rw [jkJ]
  by_cases hd:(os[m]?).bind (·.dst)=some s
  ·obtain ⟨o,ho,hs⟩:=Option.bind_eq_some_iff.1 hd
   have hL:=hw m o ho hs
   by_cases hm:m < i
   ·rw [if_pos ⟨by rw [hL];simpa using hm,hd⟩,show min (m+1) i=m+1 by omega,jkJ,if_pos ⟨rfl,hd⟩]
   ·rw [if_neg (by rw [hL];simp [hm]),ih,show min (m+1) i=min m i by omega]
  ·rw [if_neg (by simp [hd]),ih]
   by_cases hm:m < i
   ·rw [show min (m+1) i=m+1 by omega,show min m i=m by omega,jkJ,if_neg (by simp [hd])]
   ·rw [show min (m+1) i=min m i by omega]
theorem jkK {os:List Oper} {rs F:List AV} {L L':Nat→Bool} {i s:Nat} {o:Oper} (ho:os[i]?=some o) (hL':∀ k,L' k=(L k || k == i)) (hw:∀ k o',os[k]?=some o'→o'.dst=some s→L k=decide (k < i)) (hs:o.dst=some s):∀ m,i < m→jkJ os rs L' F s m=rs.getD i .any
 | 0,h=>by omega
 | m+1,h=>by
  rw [jkJ]
  by_cases hm:m=i
  ·subst hm
   rw [if_pos ⟨by rw [hL'];simp,by rw [ho];exact hs⟩]
  ·rw [if_neg]
   ·exact jkK ho hL' hw hs m (by omega)
   ·rintro ⟨h1,h2⟩
    obtain ⟨o',ho',hs'⟩:=Option.bind_eq_some_iff.1 h2
    rw [hL',hw m o' ho' hs'] at h1
    simp at h1
    omega
theorem jkL {os:List Oper} {rs F:List AV} {L L':Nat→Bool} {i s:Nat} {o:Oper} (ho:os[i]?=some o) (hL':∀ k,L' k=(L k || k == i)) (hs:o.dst≠some s):∀ m,jkJ os rs L' F s m=jkJ os rs L F s m
 | 0=>rfl
 | m+1=>by
  have ih:=jkL (rs:=rs) (F:=F) ho hL' hs m
  rw [jkJ,jkJ,ih,hL']
  by_cases hm:m=i
  ·subst hm
   rw [ho]
   simp [hs]
  ·simp [hm]
theorem jlp {os:List Oper} {o:Oper} {t:Nat} (h:Operand.tmp t∈o.op.operands.toList):t∈looks os o:=
 List.mem_append_left _ (List.mem_filterMap.2 ⟨_,h,rfl⟩)
theorem jm8 {os:List Oper} {o:Oper} {F G:List AV} (hl:F.length=G.length) (h:∀ s∈looks os o,s < F.length→G.getD s .any=F.getD s .any):jpn os.toArray o F G:=by
 have hget:∀ s∈looks os o,G[s]?=F[s]?:=fun s hs=>by
  rcases Nat.lt_or_ge s F.length with h1 | h1
  ·have:=h s hs h1
   have e1:G[s]?=some (G.getD s .any):=by simp [← hl,h1]
   have e2:F[s]?=some (F.getD s .any):=by simp [h1]
   rw [e1,e2,this]
  ·rw [List.getElem?_eq_none (by omega),List.getElem?_eq_none h1]
 constructor
 ·intro x hx
  cases x with
  | tmp t=>simp only [evA,List.getD_eq_getElem?_getD,hget t (jlp hx)]
  | const v=>rfl
  | global g=>rfl
  | func f=>rfl
 ·intro j b hg
  unfold jcA
  cases hd:(os.toArray[j]?).bind (·.dst) with
  | none=>rfl
  | some d=>
   simp only
   rw [hget d (List.mem_append_right _ (by rw [hg];simp at hd ⊢;simpa using hd))]
theorem jub {l:List Oper} {rs F:List AV} {Q:Exit→List AV→Hp→Prop} (hok:jhU l=true) (hqv:∀ i o,l[i]?=some o→QV P l.toArray o (FL l rs (fun _=>true) F i) H (rs.getD i .any)) (hK:Q .normal (FL l rs (fun _=>true) F l.length) H) (w0:NW) :
  ∀ (fuel:Nat) (listed:Array Bool),listed.size=l.length→jdq l (fun i=>listed.getD i false)→(List.range l.length).countP (fun i=>!listed.getD i false)=fuel→
   ∀ (w:NW) tm,RelW w H→RelF w (FL l rs (fun i=>listed.getD i false) F l.length) tm→Ext w0 H w H→wpAny P .any l.toArray (Post Q w0 H) fuel listed ⟨tm,[]⟩ w.toWorld:=by
 obtain ⟨hlt,hcl⟩:=jdN hok
 -- when all are done
 have fin:∀ (listed:Array Bool),(∀ i,i < l.length→listed.getD i false=true)→∀ (w:NW) tm,RelW w H→RelF w (FL l rs (fun i=>listed.getD i false) F l.length) tm→Ext w0 H w H→Post Q w0 H .normal ⟨tm,[]⟩ w.toWorld:=by
  intro listed hall w tm h1 h2 h3
  have e:FL l rs (fun i=>listed.getD i false) F l.length=FL l rs (fun _=>true) F l.length:=by
   have gen:∀ m,m≤l.length→FL l rs (fun i=>listed.getD i false) F m=FL l rs (fun _=>true) F m:=by
    intro m
    induction m with
    | zero=>intro _;rfl
    | succ m ih=>intro hm;rw [FL,FL,ih (by omega),hall m (by omega)]
   exact gen _ (Nat.le_refl _)
  rw [e] at h2
  exact ⟨tm,_,H,w,rfl,rfl,hK,h1,h2,h3.toB⟩
 intro fuel
 induction fuel with
 | zero=>
  intro listed hsz hcls hcnt w tm h1 h2 h3
  have hall:∀ i,i < l.length→listed.getD i false=true:=fun i hi=>by
   have:=(List.countP_eq_zero.1 hcnt) i (List.mem_range.2 hi)
   simpa using this
  refine ⟨?_,fin listed hall w tm h1 h2 h3⟩
  rw [List.eq_nil_iff_forall_not_mem]
  intro j hj
  obtain ⟨hj0,o,ho,_⟩:=mem_ready.1 hj
  have hjl:j < l.length:=by have:=(Array.getElem?_eq_some_iff.1 ho).1;simpa using this
  have:=hall j hjl
  simp [hsz,hjl] at this hj0
  rw [this] at hj0;cases hj0
 | succ fuel ih=>
  intro listed hsz hcls hcnt w tm h1 h2 h3
  refine ⟨fun hnil=>?_,fun i hi=>?_⟩
  ·-- some operation is ready
   exfalso
   have hex:∃ i,i < l.length∧listed.getD i false=false:=by
    have hpos:0 < (List.range l.length).countP (fun i=>!listed.getD i false):=by omega
    obtain ⟨i,hi,hp⟩:=List.countP_pos_iff.1 hpos
    exact ⟨i,List.mem_range.1 hi,by simpa using hp⟩
   obtain ⟨i,⟨hi,hf⟩,hleast⟩:=exists_least hex
   have ho:l[i]?=some l[i]:=List.getElem?_eq_getElem hi
   have:i∈Region.ready .any l.toArray listed:=mem_ready.2 ⟨by simp [hsz,hi] at hf ⊢;exact hf,l[i],by simp [hi],fun e he hb=>by
    have h4:=hlt i _ ho e (by simpa using he) hb
    cases hv:listed.getD e.on false with
    | true=>rfl
    | false=>have:=hleast e.on ⟨by omega,hv⟩;omega⟩
   rw [hnil] at this
   cases this
  ·obtain ⟨hi0,o,ho,hpre⟩:=mem_ready.1 hi
   have ho':l[i]?=some o:=by simpa using ho
   have hil:=(List.getElem?_eq_some_iff.1 ho').1
   have hif:listed.getD i false=false:=by simp [hsz,hil] at hi0 ⊢;exact hi0
   have hpre':∀ e∈o.after.toList,Region.binds .any e=true→listed.getD e.on false=true:=fun e he hb=>hpre e (by simpa using he) hb
   have hbefore:=jcn hcls hlt (i+1) i (by omega) o ho' hpre'
   -- who writes where o touches
   have hwr:∀ k o' s,l[k]?=some o'→o'.dst=some s→(s∈looks l o∨o.dst=some s)→listed.getD k false=decide (k < i):=by
    intro k o' s hk hs hcase
    rcases Nat.lt_trichotomy k i with h | h | h
    ·rw [decide_eq_true h]
     refine hbefore k (hcl k i o' o h hk ho' ?_)
     unfold jmd
     rw [hs]
     rcases hcase with h5 | h5
     ·simp [h5]
     ·simp [h5]
    ·subst h;simpa using hif
    ·rw [decide_eq_false (by omega)]
     cases hv:listed.getD k false with
     | false=>rfl
     | true=>
      have hki:i∈(jdp l).getD k []:=hcl i k o o' h ho' hk (by
       unfold jmd
       rw [hs]
       rcases hcase with h5 | h5
       ·simp [h5]
       ·simp [h5])
      have:=jcn hcls hlt (k+1) k (by omega) o' hk (fun e he hb=>hcls k o' hk hv e he hb) i hki
      rw [hif] at this;cases this
   have hag:jpn l.toArray o (FL l rs (fun _=>true) F i) (FL l rs (fun i=>listed.getD i false) F l.length):=by
    refine jm8 (by rw [ja6,ja6]) fun s hs hlen=>?_
    rw [ja6] at hlen
    rw [jgR _ _ _ _ hlen,jgR _ _ _ _ hlen,jlV (fun k o' hk hd=>hwr k o' s hk hd (.inl hs)),show min l.length i=i by omega]
   have hop:=hqv i o ho' _ hag
   have hL':∀ k,(listed.setIfInBounds i true).getD k false=(listed.getD k false || k == i):=fun k=>by
    by_cases hk:k=i
    ·subst hk;simp [hsz,hil]
    ·simp [Array.getElem?_setIfInBounds_ne (Ne.symm hk),hk]
   have hnext:jbu (FL l rs (fun i=>listed.getD i false) F l.length) o.dst (rs.getD i .any)=FL l rs (fun k=>(listed.setIfInBounds i true).getD k false) F l.length:=by
    refine jtf (m':=0) (L':=fun _=>true) (by cases o.dst<;>simp [jbu,ja6]) fun s hs=>?_
    by_cases hd:o.dst=some s
    ·rw [jkK (L:=fun i=>listed.getD i false) ho' hL' (fun k o' hk hd'=>hwr k o' s hk hd' (.inr hd)) hd _ hil,hd]
     simp [jbu,ja6,hs]
    ·rw [jkL (L:=fun i=>listed.getD i false) ho' hL' hd,← jgR _ _ _ _ hs]
     cases hd':o.dst with
     | none=>rfl
     | some d=>
      have:d≠s:=fun e=>hd (by rw [hd',e])
      simp [jbu,List.getElem?_set,this]
   have:=hop w tm (Post Q w0 H) (wpAny P .any l.toArray (Post Q w0 H) fuel (listed.setIfInBounds i true)) h1 h2 (by
    rintro tm' w' F' H' ⟨rfl,rfl⟩ g1 g2 g3
    refine ih (listed.setIfInBounds i true) (by simpa using hsz) ?_ ?_ w' tm' g1 (by rw [← hnext];exact g2) (h3.trans g3)
    ·intro j o' hj hLj e he hb
     simp only [hL'] at hLj ⊢
     rcases Bool.or_eq_true_iff.1 hLj with h6 | h6
     ·have h7:listed.getD e.on false=true:=hcls j o' hj h6 e he hb
      rw [h7];rfl
     ·obtain rfl:j=i:=by simpa using h6
      rw [ho'] at hj;cases hj
      rw [hpre' e he hb];rfl
    ·have:∀ (n:Nat),i < n→(List.range n).countP (fun k=>!(listed.setIfInBounds i true).getD k false)+1=(List.range n).countP (fun k=>!listed.getD k false):=by
      intro n
      induction n with
      | zero=>intro h;omega
      | succ n ihn=>
       intro h
       rw [List.range_succ,List.countP_append,List.countP_append]
       by_cases hn:n=i
       ·subst hn
        have:(List.range n).countP (fun k=>!(listed.setIfInBounds n true).getD k false)=(List.range n).countP (fun k=>!listed.getD k false):=by
         refine List.countP_congr fun k hk=>?_
         rw [hL']
         have:k≠n:=by have:=List.mem_range.1 hk;omega
         simp [this]
        rw [this]
        simp only [List.countP_singleton,hL',hif]
        simp
       ·rw [← ihn (by omega)]
        simp only [List.countP_singleton,hL']
        have:(n == i)=false:=by simpa using hn
        rw [this,Bool.or_false]
        omega
     have:=this l.length hil
     omega)
   unfold wpOp
   rw [ho]
   exact this
theorem jhO {id:Nat} {l:List Oper} {F:List AV} {Q:Exit→List AV→Hp→Prop} (hm:P.follows .mixedOrders=true) (hok:jhU l=true) (h:je7 P l.toArray H (fun F'=>Q .normal F' H) l F):AWP P (.region id l.toArray true) Q F H:=fun w tm h1 h2=>by
 obtain ⟨rs,hrun⟩:=jqL l F h
 obtain ⟨hqv,hK⟩:=jly l F rs hrun
 have hz:∀ i,(Array.replicate l.toArray.size false).getD i false=false:=fun i=>by
  by_cases hi:i < l.length<;>simp [Array.getElem?_replicate,hi]
 refine wp_region_any hm ?_
 have e0:FL l rs (fun i=>(Array.replicate l.toArray.size false).getD i false) F l.length=F:=by
  have gen:∀ m,FL l rs (fun i=>(Array.replicate l.toArray.size false).getD i false) F m=F:=by
   intro m
   induction m with
   | zero=>rfl
   | succ m ih=>rw [FL,hz,if_neg (by simp),ih]
  exact gen _
 exact jub hok hqv hK w l.toArray.size (Array.replicate l.toArray.size false) (by simp) (fun j o _ hj=>by have:=(hz j).symm.trans hj;cases this) (by
  rw [List.countP_eq_length.2 (fun i _=>by rw [hz];rfl)]
  simp) (w.to w.drew) tm h1.drew (by rw [e0];exact h2.ext (Ext.drew w H)) (Ext.drew w H)
end
section
variable {P:Program} {ops:Array Oper} {H:Hp} {K:List AV→Prop} {F:List AV} {dst:Option Tmp} {ty:TypeId} {pos:String} {after:Array Edge} {rest:List Oper}
@[go_sem] theorem j0f:je7 P ops H K [] F=K F:=(rfl)
@[go_sem] theorem jy3 (x:Operand):je7 P ops H K (⟨dst,.move x,ty,pos,after,none⟩::rest) F=je7 P ops H K rest (jbu F dst (evA F x)):=by simp [je7,vq]
@[go_sem] theorem jvZ (x:Operand):je7 P ops H K (⟨dst,.assign x,ty,pos,after,none⟩::rest) F=je7 P ops H K rest (jbu F dst (evA F x)):=by simp [je7,vq]
@[go_sem] theorem jte (x:Operand):je7 P ops H K (⟨dst,.nilCheck x,ty,pos,after,none⟩::rest) F=((jqG (evA F x)).1∧je7 P ops H K rest (jbu F dst (jqG (evA F x)).2)):=(rfl)
@[go_sem] theorem jy2 (t:TypeId) (x:Operand):je7 P ops H K (⟨dst,.load t x,ty,pos,after,none⟩::rest) F=((jfW P H t (evA F x)).1∧je7 P ops H K rest (jbu F dst (jfW P H t (evA F x)).2)):=(rfl)
@[go_sem] theorem jrF (t:TypeId) (x:Operand) (f:Nat):je7 P ops H K (⟨dst,.fieldAddr t x f,ty,pos,after,none⟩::rest) F=((jbW P t (evA F x) f).1∧je7 P ops H K rest (jbu F dst (jbW P t (evA F x) f).2)):=(rfl)
@[go_sem] theorem jw9 (t:TypeId) (x:Operand) (f:Nat):je7 P ops H K (⟨dst,.field t x f,ty,pos,after,none⟩::rest) F=((jg6 P t (evA F x) f).1∧je7 P ops H K rest (jbu F dst (jg6 P t (evA F x) f).2)):=(rfl)
@[go_sem] theorem jrG (t:TypeId) (x i:Operand):je7 P ops H K (⟨dst,.indexAddr t x i,ty,pos,after,none⟩::rest) F=((jbX P t (evA F x) (evA F i)).1∧je7 P ops H K rest (jbu F dst (jbX P t (evA F x) (evA F i)).2)):=(rfl)
@[go_sem] theorem j0e (as:Array Operand) (ts:Array TypeId):je7 P ops H K (⟨dst,.call ⟨.builtin .len,as,ts⟩,ty,pos,after,none⟩::rest) F=((jbH P H .len ts.toList (as.toList.map (evA F))).1∧je7 P ops H K rest (jbu F dst (jbH P H .len ts.toList (as.toList.map (evA F))).2)):=(rfl)
@[go_sem] theorem jw8 (op:BinOp) (t:TypeId) (x y:Operand) (t':TypeId):je7 P ops H K (⟨dst,.binOp op t x y t',ty,pos,after,none⟩::rest) F=((jdn P op t (evA F x) (evA F y)).1∧je7 P ops H K rest (jbu F dst (jdn P op t (evA F x) (evA F y)).2)):=(rfl)
@[go_sem] theorem jy1 (f:Operand) (as:Array Operand) (ts:Array TypeId):je7 P ops H K (⟨dst,.call ⟨.value f,as,ts⟩,ty,pos,after,none⟩::rest) F=∃ r,(jbm P (evA F f) (as.toList.map (evA F)) H fun r' H'=>r'=r∧H'=H)∧je7 P ops H K rest (jbu F dst r):=(rfl)
end
end Go.Gd
