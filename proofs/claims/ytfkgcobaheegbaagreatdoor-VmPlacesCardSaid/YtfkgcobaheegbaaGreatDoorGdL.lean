/- Lemmas. No conditions. -/
import Derived.Test.YtfkgcobaheegbaaGreatDoorGdJ
set_option linter.all false
namespace Go.Gd
open Go
def nth{α:Type}[Inhabited α](l:List α)(i:Nat):α:=l.getD i default
variable{α:Type}{i:Nat}
theorem dN[Inhabited α]{l:List α}(h:i<l.length):nth l i=l[i]:=by simp[nth,h]
theorem Hf[Inhabited α]{l:List α}(h:i<l.length):l.take (i+1)=l.take i++[nth l i]:=by rw[dN h,List.take_succ_eq_append_getElem h]
variable{β:Type}
theorem KL[Inhabited α][Inhabited β](f:α->β){l:List α}(h:i<l.length):nth (l.map f) i=f (nth l i):=by rw[dN h,dN (by simpa using h)];simp
@[reducible] def bt{α:Type}[Inhabited α](enc:α->List AV)(sz:Nat)(l:List α):AV:=.sl false sz (l.map enc) (enc default)
@[go_sem] theorem jvm(next:List AV->Hp->Prop)(Q:Exit->List AV->Hp->Prop)(F:List AV)(H:Hp):tq next Q .normal F H=next F H:=(rfl)
@[go_sem] theorem jz4(next:List AV->Hp->Prop)(Q:Exit->List AV->Hp->Prop)(F:List AV)(H:Hp):tq next Q .ret F H=Q .ret F H:=(rfl)
@[go_sem] theorem jyU(next:List AV->Hp->Prop)(Q:Exit->List AV->Hp->Prop)(id:Nat)(F:List AV)(H:Hp):tq next Q (.exit id) F H=Q (.exit id) F H:=(rfl)
@[go_sem] theorem jtn(id:Nat)(Q:Exit->List AV->Hp->Prop)(F:List AV)(H:Hp):rG id Q .normal F H=Q .normal F H:=(rfl)
@[go_sem] theorem jyT(id:Nat)(Q:Exit->List AV->Hp->Prop)(F:List AV)(H:Hp):rG id Q .ret F H=Q .ret F H:=(rfl)
@[go_sem] theorem jwq(id:Nat)(Q:Exit->List AV->Hp->Prop)(F:List AV)(H:Hp):rG id Q (.exit id) F H=Q .normal F H:=by simp[rG]
def AP(K:AV->Hp->Prop)(_:gv K):AV->Hp->Prop:=K
def wq(K:AV->Prop)(_:gv K):AV->Prop:=K
@[go_sem] theorem j2e(K:AV->Hp->Prop)(d:gv K)(r:AV)(H:Hp):AP K d r H=K r H:=(rfl)
@[go_sem] theorem jz0(K:AV->Prop)(d:gv K)(r:AV):wq K d r=K r:=(rfl)
variable{K:AV->Hp->Prop}{r:AV}{H:Hp}
theorem KX{d:gv K}(h:K r H):AP K d r H:=h
def tA(o:Option Bool)(A:Bool->Prop)(_:gv A):Prop:=match o with
 |some b=>A b
 |none=>False
@[go_sem] theorem jyC(b:Bool)(A:Bool->Prop)(d:gv A):tA (some b) A d=A b:=(rfl)
def p9(q:Bool)(A B:Prop)(_:gv A)(_:gv B):Prop:=if q=true then A else B
@[go_sem] theorem j3r(A B:Prop)(d:gv A)(e:gv B):p9 true A B d e=A:=(rfl)
@[go_sem] theorem j1U(A B:Prop)(d:gv A)(e:gv B):p9 false A B d e=B:=(rfl)
variable{P:Program}{ops:Array Oper}
@[go_sem] theorem j5b{K:List AV->Hp->Prop}(F:List AV)(H:Hp):kD P ops K [] F H=K F H:=(rfl)
@[go_sem] theorem j3H{K:List AV->Hp->Prop}(dst:Option Tmp)(op:Op)(ty:TypeId)(pos:String)(after:Array Edge)(rest:List Oper)(F:List AV)(H:Hp) :
  kD P ops K (⟨dst,op,ty,pos,after,none⟩::rest) F H=vc P (cf F) H ty (AP (fun r H'=>kD P ops K rest (cM F dst r) H') .mk) op:=(rfl)
@[go_sem] theorem j19{K:List AV->Hp->Prop}(dst:Option Tmp)(op:Op)(ty:TypeId)(pos:String)(after:Array Edge)(j:Nat)(want:Bool)(rest:List Oper)(F:List AV)(H:Hp) :
  kD P ops K (⟨dst,op,ty,pos,after,some (j,want)⟩::rest) F H=tA (mw ops F j want) (fun b=>p9 (kV op || iy op) (eu P F H b (wq (fun r=>kD P ops K rest (cM F dst r) H) .mk) op)
    ((b=true->vc P (cf F) H ty (AP (fun r H'=>kD P ops K rest (cM F dst r) H') .mk) op)/\(b=false->kD P ops K rest (cM F dst .any) H)) .mk .mk) .mk:=by
 unfold tA p9;rfl
@[go_sem] theorem jzE(a:Nat):((a:Int)+1).toNat=a+1:=jB
@[go_sem] theorem jzF(a b:Nat):((a:Int)-(b:Int)).toNat=a-b:=jB
@[go_sem] theorem jzG(a:Nat):((a:Int)-1).toNat=a-1:=jB
attribute [go_sem] Int.cast_ofNat_Int
theorem sf{n:Int}(h:-9223372036854775808<=n/\n<=9223372036854775807):IntKind.i64.wrap n=n:=by
 have h1:(2:Int) ^ 64=18446744073709551616:=jC
 have h2:(2:Int) ^ (64-1)=9223372036854775808:=jC
 simp only[IntKind.wrap,IntKind.bits,IntKind.signed,Bool.true_and,h1,h2,decide_eq_true_eq];split<;>omega
variable{fn:Func}{F:List AV}
theorem Li{f:FuncId}{c:Code}{args:List AV}(hf:P.funcs[f]?=some fn)(hb:fn.body=some c)(hF:args++List.replicate (fn.ntmps-args.length) .any=F)
  (h:dH P c (kj P fn fun r' l'=>r'=r/\l'=[]) F ⟨[],[]⟩):dV P f args r:=EJ hf hb (by rw[hF];exact h)
variable{l:List (Nat×Row)}{R:AV->List (Nat×Row)->Prop}
theorem OO{f:FuncId}{c:Code}{args:List AV}(hf:P.funcs[f]?=some fn)(hb:fn.body=some c)(hF:args++List.replicate (fn.ntmps-args.length) .any=F){L:List Nat}(hL:ids l=L)
  (h:dH P c (kj P fn R) F ⟨L,l⟩):aj P f args l R:=EJ hf hb (by rw[hF];subst hL;exact h)
section
variable {P:Program}{ev:Operand->AV}{H:Hp}{ty:TypeId}{K:AV->Hp->Prop}
@[go_sem] theorem j48(x:Operand):vc P ev H ty K (.move x)=K (ev x) H:=by simp[vc,db,vq]
@[go_sem] theorem j14(x:Operand):vc P ev H ty K (.assign x)=K (ev x) H:=by simp[vc,db,vq]
@[go_sem] theorem j49(c a b:Operand):vc P ev H ty K (.pick c a b)=((nq (ev c) (ev a) (ev b)).1/\K (nq (ev c) (ev a) (ev b)).2 H):=by simp[vc,db,vq]
@[go_sem] theorem jyK(x:Operand):vc P ev H ty K (.nilCheck x)=((ra (ev x)).1/\K (ra (ev x)).2 H):=by simp[vc,db,vq]
@[go_sem] theorem j5a(op:UnOp)(t:TypeId)(x:Operand):vc P ev H ty K (.unOp op t x)=((rh op (ev x)).1/\K (rh op (ev x)).2 H):=by simp[vc,db,vq]
@[go_sem] theorem j47(t:TypeId)(x:Operand):vc P ev H ty K (.load t x)=((oM P H t (ev x)).1/\K (oM P H t (ev x)).2 H):=by simp[vc,db,vq]
@[go_sem] theorem jwh(t:TypeId)(x:Operand)(f:Nat):vc P ev H ty K (.fieldAddr t x f)=((rk P t (ev x) f).1/\K (rk P t (ev x) f).2 H):=by simp[vc,db,vq]
@[go_sem] theorem j3B(t:TypeId)(x:Operand)(f:Nat):vc P ev H ty K (.field t x f)=((ui P t (ev x) f).1/\K (ui P t (ev x) f).2 H):=by simp[vc,db,vq]
@[go_sem] theorem jwi(t:TypeId)(x i:Operand):vc P ev H ty K (.indexAddr t x i)=((ru P t (ev x) (ev i)).1/\K (ru P t (ev x) (ev i)).2 H):=by simp[vc,db,vq]
@[go_sem] theorem j3C(t:TypeId)(x i:Operand):vc P ev H ty K (.index t x i)=((rf P t (ev x) (ev i)).1/\K (rf P t (ev x) (ev i)).2 H):=by simp[vc,db,vq]
@[go_sem] theorem jzN(x:Operand)(i:Nat):vc P ev H ty K (.extract x i)=((uh (ev x) i).1/\K (uh (ev x) i).2 H):=by simp[vc,db,vq]
@[go_sem] theorem j3D(t:TypeId)(a:Operand)(lo hi mx:Option Operand):vc P ev H ty K (.slice t a lo hi mx)=((rQ P t (ev a) (lo.map ev) (hi.map ev) (mx.map ev)).1/\K (rQ P t (ev a) (lo.map ev) (hi.map ev) (mx.map ev)).2 H):=by simp[vc,db,vq]
@[go_sem] theorem jyJ(fn:Fn)(a b:Array Operand):vc P ev H ty K (.makeFunc fn a b)=((uk fn (a.toList.map ev) (b.toList.map ev)).1/\K (uk fn (a.toList.map ev) (b.toList.map ev)).2 H):=by simp[vc,db,vq]
@[go_sem] theorem jzM(s d:TypeId)(x:Operand):vc P ev H ty K (.convert s d x)=((uU P s d (ev x)).1/\K (uU P s d (ev x)).2 H):=by simp[vc,db,vq]
@[go_sem] theorem j3A(t:TypeId)(ps:Array (Nat×Operand)):vc P ev H ty K (.build t ps)=((tU P t (ps.toList.map fun p=>(p.1,ev p.2))).1/\K (tU P t (ps.toList.map fun p=>(p.1,ev p.2))).2 H):=by simp[vc,db,vq]
@[go_sem] theorem j70(as:Array Operand)(ts:Array TypeId):vc P ev H ty K (.call ⟨.builtin .len,as,ts⟩)=((mJ P H .len ts.toList (as.toList.map ev)).1/\K (mJ P H .len ts.toList (as.toList.map ev)).2 H):=by simp[vc,db,vq]
@[go_sem] theorem j73(as:Array Operand)(ts:Array TypeId):vc P ev H ty K (.call ⟨.builtin .max,as,ts⟩)=((mJ P H .max ts.toList (as.toList.map ev)).1/\K (mJ P H .max ts.toList (as.toList.map ev)).2 H):=by simp[vc,db,vq]
@[go_sem] theorem j74(as:Array Operand)(ts:Array TypeId):vc P ev H ty K (.call ⟨.builtin .min,as,ts⟩)=((mJ P H .min ts.toList (as.toList.map ev)).1/\K (mJ P H .min ts.toList (as.toList.map ev)).2 H):=by simp[vc,db,vq]
@[go_sem] theorem j7V(t:TypeId)(x y:Operand)(t':TypeId):vc P ev H ty K (.binOp .add t x y t')=((fl P .add t (ev x) (ev y)).1/\K (fl P .add t (ev x) (ev y)).2 H):=by simp[vc,db,vq]
@[go_sem] theorem j79(t:TypeId)(x y:Operand)(t':TypeId):vc P ev H ty K (.binOp .sub t x y t')=((fl P .sub t (ev x) (ev y)).1/\K (fl P .sub t (ev x) (ev y)).2 H):=by simp[vc,db,vq]
@[go_sem] theorem j75(t:TypeId)(x y:Operand)(t':TypeId):vc P ev H ty K (.binOp .mul t x y t')=((fl P .mul t (ev x) (ev y)).1/\K (fl P .mul t (ev x) (ev y)).2 H):=by simp[vc,db,vq]
@[go_sem] theorem j77(t:TypeId)(x y:Operand)(t':TypeId):vc P ev H ty K (.binOp .quo t x y t')=((fl P .quo t (ev x) (ev y)).1/\K (fl P .quo t (ev x) (ev y)).2 H):=by simp[vc,db,vq]
@[go_sem] theorem j78(t:TypeId)(x y:Operand)(t':TypeId):vc P ev H ty K (.binOp .rem t x y t')=((fl P .rem t (ev x) (ev y)).1/\K (fl P .rem t (ev x) (ev y)).2 H):=by simp[vc,db,vq]
@[go_sem] theorem j72(t:TypeId)(x y:Operand)(t':TypeId):vc P ev H ty K (.binOp .lss t x y t')=((fl P .lss t (ev x) (ev y)).1/\K (fl P .lss t (ev x) (ev y)).2 H):=by simp[vc,db,vq]
@[go_sem] theorem j71(t:TypeId)(x y:Operand)(t':TypeId):vc P ev H ty K (.binOp .leq t x y t')=((fl P .leq t (ev x) (ev y)).1/\K (fl P .leq t (ev x) (ev y)).2 H):=by simp[vc,db,vq]
@[go_sem] theorem j7Z(t:TypeId)(x y:Operand)(t':TypeId):vc P ev H ty K (.binOp .gtr t x y t')=((fl P .gtr t (ev x) (ev y)).1/\K (fl P .gtr t (ev x) (ev y)).2 H):=by simp[vc,db,vq]
@[go_sem] theorem j7Y(t:TypeId)(x y:Operand)(t':TypeId):vc P ev H ty K (.binOp .geq t x y t')=((fl P .geq t (ev x) (ev y)).1/\K (fl P .geq t (ev x) (ev y)).2 H):=by simp[vc,db,vq]
@[go_sem] theorem j7X(t:TypeId)(x y:Operand)(t':TypeId):vc P ev H ty K (.binOp .eql t x y t')=p6 P false t (ev x) (ev y) H K:=(rfl)
@[go_sem] theorem j76(t:TypeId)(x y:Operand)(t':TypeId):vc P ev H ty K (.binOp .neq t x y t')=p6 P true t (ev x) (ev y) H K:=(rfl)
@[go_sem] theorem j7W(t:TypeId)(x:Operand):vc P ev H ty K (.box t x)=qA H t (ev x) K:=(rfl)
@[go_sem] theorem j3z(t:TypeId):vc P ev H ty K (.alloc t)=nz P H t K:=(rfl)
@[go_sem] theorem j3E(t:TypeId)(a x:Operand):vc P ev H ty K (.store t a x)=tX P H t (ev a) (ev x) K:=(rfl)
@[go_sem] theorem jvh(t:TypeId)(n:Nat)(ps:Array (Nat×Operand)):vc P ev H ty K (.buildSlice t n ps)=nj P H t n (ps.toList.map fun p=>(p.1,ev p.2)) K:=(rfl)
@[go_sem] theorem j45(f:Operand)(as:Array Operand)(ts:Array TypeId):vc P ev H ty K (.call ⟨.value f,as,ts⟩)=fF P (ev f) (as.toList.map ev) H K:=(rfl)
@[go_sem] theorem j13(t:TypeId)(a x:Operand):vc P ev H ty K (.call ⟨.builtin .append,#[a,x],#[t,t]⟩)=o8 P t t (ev a) (ev x) H K:=by simp[vc]
@[go_sem] theorem jyI(t t':TypeId)(a x:Operand):vc P ev H ty K (.call ⟨.builtin .append,#[a,x],#[t,t']⟩)=o8 P t t' (ev a) (ev x) H K:=by simp[vc]
@[go_sem] theorem j46(as:Array Operand)(ts:Array TypeId):vc P ev H ty K (.call ⟨.builtin .copy,as,ts⟩)=sa P .copy ts.toList (as.toList.map ev) H K:=by simp[vc,db]
end
section
variable {P:Program}{F:List AV}{H:Hp}{g:Bool}{K:AV->Prop}
@[go_sem] theorem j5f(c a b:Operand):eu P F H g K (.pick c a b)=((g=true->(lr (cf F c)).1=true/\(nq (bQ F c) (cf F a) (cf F b)).1)/\K (.gd g (nq (bQ F c) (cf F a) (cf F b)).2)):=(rfl)
@[go_sem] theorem jyM(x:Operand):eu P F H g K (.nilCheck x)=((g=true->gi F (.nilCheck x)=true/\(ra (bQ F x)).1)/\K (.gd g (ra (bQ F x)).2)):=by simp[eu,iy,db,vq]
@[go_sem] theorem j5g(op:UnOp)(t:TypeId)(x:Operand):eu P F H g K (.unOp op t x)=((g=true->gi F (.unOp op t x)=true/\(rh op (bQ F x)).1)/\K (.gd g (rh op (bQ F x)).2)):=by simp[eu,iy,db,vq]
@[go_sem] theorem j5d(t:TypeId)(x:Operand):eu P F H g K (.load t x)=((g=true->gi F (.load t x)=true/\(oM P H t (bQ F x)).1)/\K (.gd g (oM P H t (bQ F x)).2)):=by simp[eu,iy,db,vq]
@[go_sem] theorem jwj(t:TypeId)(x:Operand)(f:Nat):eu P F H g K (.fieldAddr t x f)=((g=true->gi F (.fieldAddr t x f)=true/\(rk P t (bQ F x) f).1)/\K (.gd g (rk P t (bQ F x) f).2)):=by simp[eu,iy,db,vq]
@[go_sem] theorem jwk(t:TypeId)(x i:Operand):eu P F H g K (.indexAddr t x i)=((g=true->gi F (.indexAddr t x i)=true/\(ru P t (bQ F x) (bQ F i)).1)/\K (.gd g (ru P t (bQ F x) (bQ F i)).2)):=by simp[eu,iy,db,vq]
@[go_sem] theorem j3I(t:TypeId)(x i:Operand):eu P F H g K (.index t x i)=((g=true->gi F (.index t x i)=true/\(rf P t (bQ F x) (bQ F i)).1)/\K (.gd g (rf P t (bQ F x) (bQ F i)).2)):=by simp[eu,iy,db,vq]
@[go_sem] theorem j3J(t:TypeId)(a:Operand)(lo hi mx:Option Operand):eu P F H g K (.slice t a lo hi mx)=((g=true->gi F (.slice t a lo hi mx)=true/\(rQ P t (bQ F a) (lo.map (bQ F)) (hi.map (bQ F)) (mx.map (bQ F))).1)/\K (.gd g (rQ P t (bQ F a) (lo.map (bQ F)) (hi.map (bQ F)) (mx.map (bQ F))).2)):=by simp[eu,iy,db,vq]
@[go_sem] theorem j8e(as:Array Operand)(ts:Array TypeId):eu P F H g K (.call ⟨.builtin .len,as,ts⟩)=((g=true->gi F (.call ⟨.builtin .len,as,ts⟩)=true/\(mJ P H .len ts.toList (as.toList.map (bQ F))).1)/\K (.gd g (mJ P H .len ts.toList (as.toList.map (bQ F))).2)):=by simp[eu,iy,db,vq]
@[go_sem] theorem j8a(t:TypeId)(x y:Operand)(t':TypeId):eu P F H g K (.binOp .add t x y t')=((g=true->gi F (.binOp .add t x y t')=true/\(fl P .add t (bQ F x) (bQ F y)).1)/\K (.gd g (fl P .add t (bQ F x) (bQ F y)).2)):=by simp[eu,iy,db,vq]
@[go_sem] theorem j8i(t:TypeId)(x y:Operand)(t':TypeId):eu P F H g K (.binOp .sub t x y t')=((g=true->gi F (.binOp .sub t x y t')=true/\(fl P .sub t (bQ F x) (bQ F y)).1)/\K (.gd g (fl P .sub t (bQ F x) (bQ F y)).2)):=by simp[eu,iy,db,vq]
@[go_sem] theorem j8g(t:TypeId)(x y:Operand)(t':TypeId):eu P F H g K (.binOp .lss t x y t')=((g=true->gi F (.binOp .lss t x y t')=true/\(fl P .lss t (bQ F x) (bQ F y)).1)/\K (.gd g (fl P .lss t (bQ F x) (bQ F y)).2)):=by simp[eu,iy,db,vq]
@[go_sem] theorem j8f(t:TypeId)(x y:Operand)(t':TypeId):eu P F H g K (.binOp .leq t x y t')=((g=true->gi F (.binOp .leq t x y t')=true/\(fl P .leq t (bQ F x) (bQ F y)).1)/\K (.gd g (fl P .leq t (bQ F x) (bQ F y)).2)):=by simp[eu,iy,db,vq]
@[go_sem] theorem j8d(t:TypeId)(x y:Operand)(t':TypeId):eu P F H g K (.binOp .gtr t x y t')=((g=true->gi F (.binOp .gtr t x y t')=true/\(fl P .gtr t (bQ F x) (bQ F y)).1)/\K (.gd g (fl P .gtr t (bQ F x) (bQ F y)).2)):=by simp[eu,iy,db,vq]
@[go_sem] theorem j8c(t:TypeId)(x y:Operand)(t':TypeId):eu P F H g K (.binOp .geq t x y t')=((g=true->gi F (.binOp .geq t x y t')=true/\(fl P .geq t (bQ F x) (bQ F y)).1)/\K (.gd g (fl P .geq t (bQ F x) (bQ F y)).2)):=by simp[eu,iy,db,vq]
@[go_sem] theorem j5e(x:Operand):eu P F H g K (.move x)=((g=true->gi F (.move x)=true)/\K (.gd g (bQ F x))):=by simp[eu,iy,db,vq]
@[go_sem] theorem j8b(t:TypeId)(x y:Operand)(t':TypeId):eu P F H g K (.binOp .eql t x y t')=((g=true->gi F (.binOp .eql t x y t')=true/\(fl P .eql t (bQ F x) (bQ F y)).1)/\K (.gd g (fl P .eql t (bQ F x) (bQ F y)).2)):=by simp[eu,iy,vq]
@[go_sem] theorem j8h(t:TypeId)(x y:Operand)(t':TypeId):eu P F H g K (.binOp .neq t x y t')=((g=true->gi F (.binOp .neq t x y t')=true/\(fl P .neq t (bQ F x) (bQ F y)).1)/\K (.gd g (fl P .neq t (bQ F x) (bQ F y)).2)):=by simp[eu,iy,vq]
@[go_sem] theorem j5c(f:Operand)(as:Array Operand)(ts:Array TypeId):eu P F H g K (.call ⟨.value f,as,ts⟩)=∃r,(g=true->gi F (.call ⟨.value f,as,ts⟩)=true/\fF P (bQ F f) (as.toList.map (bQ F)) H fun r' H'=>r'=r/\H'=H)/\K (.gd g r):=(rfl)
@[go_sem] theorem j3Y(t:Tmp):cf F (.tmp t)=F.getD t .any:=(rfl)
@[go_sem] theorem j0I(v:Value):cf F (.const v)=.raw v:=(rfl)
@[go_sem] theorem j2l(f:FuncId):cf F (.func f)=.raw (.func (.func f) #[] #[]):=(rfl)
@[go_sem] theorem j1x(d:Tmp)(a:AV):cM F (some d) a=F.set d a:=(rfl)
@[go_sem] theorem j1w(a:AV):cM F none a=F:=(rfl)
end
attribute [go_sem] bQ gi lr mw kV iy db nq ra yu ya vk fl rh oM pH rk ui xV ru rf uh qD rQ Fe uk xq uU sY xw wg mJ qy tU tX p6 nj jQ
attribute [go_sem] cR Op.operands Call.operands v6
section
@[go_sem] theorem j0e(cs:List AV):(AV.agg cs).cells=cs:=(rfl)
@[go_sem] theorem j0f(k:IntKind)(n:Int):(AV.raw (.int k n)).cells=[.raw (.int k n)]:=(rfl)
@[go_sem] theorem jvs(s:ByteArray):(AV.raw (.string s)).cells=[.raw (.string s)]:=(rfl)
@[go_sem] theorem jwB(a:Option Addr)(n c:Nat):(AV.raw (.slice a n c)).cells=[.raw (.slice a n c)]:=(rfl)
@[go_sem] theorem j2h(x:Bool)(sz:Nat)(css:List (List AV))(d:List AV):(AV.sl x sz css d).cells=[.sl x sz css d]:=(rfl)
@[go_sem] theorem j2f(i m k j:Nat):(AV.pt i m k j).cells=[.pt i m k j]:=(rfl)
@[go_sem] theorem j2g(i m k j:Nat):(AV.rs i m k j).cells=[.rs i m k j]:=(rfl)
@[go_sem] theorem j4M(k:IntKind)(n:Int):(AV.raw (.int k n)).one=true:=(rfl)
@[go_sem] theorem jzA(s:ByteArray):(AV.raw (.string s)).one=true:=(rfl)
@[go_sem] theorem j1t(a:Option Addr)(n c:Nat):(AV.raw (.slice a n c)).one=true:=(rfl)
@[go_sem] theorem j7v(x:Bool)(sz:Nat)(css:List (List AV))(d:List AV):(AV.sl x sz css d).one=true:=(rfl)
@[go_sem] theorem j7t(i m k j:Nat):(AV.pt i m k j).one=true:=(rfl)
@[go_sem] theorem j7u(i m k j:Nat):(AV.rs i m k j).one=true:=(rfl)
end
attribute [go_sem] Hp.get Hp.put aD br yE iT entry ids tB Ca vy room yr A8 lL
attribute [go_sem] AV.all aY dQ AV.flat uA qh sC fits fresh gz eo fy GU G1 bZ
@[go_sem] theorem j0P(sz:Nat):lz sz []=True:=by simp[PQ]
@[go_sem] theorem jzq(sz:Nat)(cs:List AV)(css:List (List AV)):lz sz (cs::css)=((cs.length=sz/\cR cs=true)/\lz sz css):=by simp[lz]
@[go_sem] theorem j0O(enc:α->List AV)(sz:Nat)[bL enc sz](l:List α):lz sz (l.map enc)=True:=by simp[EY]
@[go_sem] theorem j4P(q:Nat->Bool):QL q []=True:=by simp[FX]
@[go_sem] theorem j3m(q:Nat->Bool)(cs:List AV)(css:List (List AV)):QL q (cs::css)=(aY q cs=true/\QL q css):=by simp[QL]
@[go_sem] theorem jzC(q:Nat->Bool)(a b:List (List AV)):QL q (a++b)=(QL q a/\QL q b):=by
 apply propext;exact⟨fun h=>⟨fun c hc=>h c (List.mem_append_left _ hc),fun c hc=>h c (List.mem_append_right _ hc)⟩,fun h=>Mn h.1 h.2⟩
variable{sz:Nat}
@[go_sem] theorem j4O(q:Nat->Bool)(enc:α->List AV)[bL enc sz](l:List α):QL q (l.map enc)=True:=by simp[lu]
@[go_sem] theorem j0M[Inhabited α](enc:α->List AV)(l:List α)(k:Nat)(h:k<l.length):(l.map enc).getD k []=enc (nth l k):=by simp[nth,h]
@[go_sem] theorem jzp[Inhabited α](enc:α->List AV)(l:List α)(k:Nat):(l.map enc).getD k (enc default)=enc (nth l k):=by
 unfold nth;rcases Nat.lt_or_ge k l.length with h|h<;>simp[h]
@[go_sem] theorem j1h(enc:α->List AV)(l:List α)(k:Nat):(l.map enc).take k=(l.take k).map enc:=jE
@[go_sem] theorem j1O(l:List α):l.take l.length=l:=jE
@[go_sem] theorem jxG(f:α->β)(l:List α):(l.map f).length=l.length:=jE
@[go_sem] theorem jti(a b:List α):(a++b).length=a.length+b.length:=jE
@[go_sem] theorem jxN(f:α->β)(a b:List α):(a++b).map f=a.map f++b.map f:=jE
@[go_sem] theorem jtR(i:Nat):([]:List Nat).contains i=false:=(rfl)
@[go_sem] theorem jte(i j:Nat)(l:List Nat):(j::l).contains i=(i == j || l.contains i):=List.contains_cons
@[go_sem] theorem jye(e e':TypeId)(sz sz':Nat)(a b:List (List AV)):(Row.aO e sz a=Row.aO e' sz' b)=(e=e'/\sz=sz'/\a=b):=jE
@[go_sem] theorem jyd(e e':TypeId)(a b:List AV):(Row.var e a=Row.var e' b)=(e=e'/\a=b):=jE
attribute [go_sem] List.getD_cons_zero List.getD_cons_succ List.getD_nil List.set_cons_zero List.set_cons_succ List.set_nil List.map_nil List.map_cons List.getElem?_cons_zero List.getElem?_cons_succ List.getElem?_nil List.getElem?_toArray List.all_nil List.all_cons List.append_nil List.nil_append List.cons_append List.length_cons List.length_nil List.take_succ_cons List.take_zero List.take_nil List.drop_succ_cons List.drop_zero List.drop_nil List.flatten_nil List.flatten_cons
theorem OV(b:Bool):(b == true)=b:=by cases b<;>rfl
theorem Js(b:Bool):(b == false)=!b:=by cases b<;>rfl
attribute [go_sem] if_true if_false true_and and_true false_and and_false Option.map_some Option.map_none Option.getD_some Option.getD_none Option.bind_some Option.bind_none Option.isSome_some Option.isNone_some Option.isNone_none Option.some.injEq Bool.and_true Bool.true_and Bool.and_self Bool.not_true Bool.not_false OV Js Bool.false_eq_true Bool.true_eq_false reduceCtorEq imp_self implies_true forall_const or_true true_or or_self or_false false_or not_true_eq_false not_false_eq_true eq_self ne_eq and_self List.foldl_cons List.foldl_nil Bool.not_eq_true' Bool.or_true Bool.or_false Bool.true_or Bool.false_or decide_true decide_false Nat.zero_add Nat.add_zero Nat.le_refl Int.toNat_natCast
@[go_sem] theorem jyV(c x:Bool):ve c x false=(c && x):=by cases c<;>rfl
@[go_sem] theorem j0c(c y:Bool):ve c true y=(c || y):=by cases c<;>rfl
@[go_sem] theorem jzU(b:Bool):(false ^^ b)=b:=by cases b<;>rfl
@[go_sem] theorem j2c(b:Bool):(true ^^ b)=!b:=by cases b<;>rfl
@[go_sem] theorem jtd(id id':Nat)(Q:Exit->List AV->Hp->Prop)(F:List AV)(H:Hp):rG id Q (.exit id') F H=if id'=id then Q .normal F H else Q (.exit id') F H:=(rfl)
def mH(J:List (Nat×AV))(F:List AV):List AV:=J.foldl (fun F p=>F.set p.1 p.2) F
attribute [go_sem] mH mB GG List.replicate_succ List.replicate_zero
def Next(n:Nat){S:Type}(W:List (Nat×Nat))(ok:S->Prop)(J:S->List (Nat×AV))(G:S->Hp)(μ:S->Nat)(F₀ F:List AV)(H:Hp):Prop:=∃s,μ s<n/\dz F H (mH (J s) (mB W F₀)) (G s)/\ok s
variable{n:Nat}{W:List (Nat×Nat)}{F₀:List AV}
theorem fw{S:Type}{ok:S->Prop}{J:S->List (Nat×AV)}{G:S->Hp}{μ:S->Nat}(s:S)(h1:ok s)(h2:μ s<n)(h4:H=G s)(h3:jt F (mH (J s) (mB W F₀))):Next n W ok J G μ F₀ F H:=⟨s,h2,by rw[<-h4];exact dz.pt H h3,h1⟩
theorem Ah{S:Type}{ok:S->Prop}{J:S->List (Nat×AV)}{G:S->Hp}{μ:S->Nat}(D:Nat->Bool)(s:S)(h1:ok s)(h2:μ s<n)(hB:H.B.all (fy D)=true)(hl:gz D H.l)(h4:⟨H.B,eo D H.l⟩=G s)(h3:bZ D H F (mH (J s) (mB W F₀))):Next n W ok J G μ F₀ F H:=⟨s,h2,by rw[<-h4];exact dz.free D hB hl h3,h1⟩
theorem fm{c:Code}{Q:Exit->List AV->Hp->Prop}{S:Type}(W:List (Nat×Nat))(ok:S->Prop)(J:S->List (Nat×AV))(G:S->Hp)(μ:S->Nat)(s₀:S)(h0:ok s₀)(hle:dz F H (mH (J s₀) (mB W F)) (G s₀))
  (round:∀s,ok s->∀K:List AV->Hp->Prop,(∀F' H',Next (μ s) W ok J G μ F F' H'->K F' H')->dH P c (tq K Q) (mH (J s) (mB W F)) (G s)):dH P (.loop c) Q F H:=by
 refine K8 (S:=S) (fun s F' H'=>F'=mH (J s) (mB W F)/\H'=G s/\ok s) μ s₀ hle ⟨rfl,rfl,h0⟩ ?_;rintro s F' H' ⟨rfl,rfl,hok⟩;refine round s hok _ ?_;rintro F'' H'' ⟨s',h1,h2,h3⟩;exact⟨s',_,_,h1,h2,rfl,rfl,h3⟩
theorem fi{F':List AV}{H':Hp}(h1:H=H')(h2:jt F F'):dz F H F' H':=by rw[<-h1];exact dz.pt H h2
theorem rK{out:List AV}{e:Exit}(he:e=.normal\/e=.ret)(ho:iO P H F fn.results.toList=some out)(hok:jc P H F fn.results.toList)(r:AV)(H':Hp)(hle:gH (jy out) H r H')(hR:R r H'.l):kj P fn R e F H:=by
 rcases he with rfl|rfl<;>exact⟨out,r,H',ho,hok,hle,hR⟩
variable{t:TypeId}{zs:List Value}
theorem x9(i:Nat)(hz:ee P t=some zs)(hi:H.get i=none)(h:K (.pt i 0 0 0) (H.put i (.var t (zs.map .raw)))):nz P H t K:=by
 unfold nz;rw[hz];exact⟨i,hi,h⟩
theorem yq{x:AV}(i:Nat)(ho:cR x.cells=true)(hi:H.get i=none)(h:K (.pt i 0 0 0) (H.put i (.var t x.cells))):qA H t x K:=⟨ho,i,hi,h⟩
def y7:List (Nat×Row)->Nat->Nat
 |[],m=>m
 |(i,_)::l,m=>y7 l (if m<=i then i+1 else m)
def nx(l:List (Nat×Row)):Nat:=y7 l 0
theorem Dt:∀(l:List (Nat×Row)) (m i:Nat),y7 l m<=i->aD l i=none/\m<=i
 |[],m,i,h=>⟨rfl,h⟩
 |(j,r)::l,m,i,h=>by
  obtain⟨h1,h2⟩:=Dt l _ i h;simp only[aD];split at h2
  ·rw[jN];exact⟨h1,jB⟩
  ·rw[jN];exact⟨h1,h2⟩
theorem yI(l:List (Nat×Row))(i:Nat)(h:nx l<=i):aD l i=none:=(Dt l 0 i h).1
attribute [go_sem] y7
attribute [go_sem] nx
@[go_sem] theorem jxX:(none:Option Operand).toArray.toList=[]:=(rfl)
@[go_sem] theorem jxY(x:Operand):(some x).toArray.toList=[x]:=(rfl)
theorem KO{A:Nat->Prop}{d:gv A}(h:A (nx H.l)):uK H A d:=⟨_,yI _ _ jl,h⟩
theorem My(hz:ee P t=some zs)(h:K (.pt (nx H.l) 0 0 0) (H.put (nx H.l) (.var t (zs.map .raw)))):nz P H t K:=x9 _ hz (yI _ _ jl) h
theorem JP{x:AV}(ho:cR x.cells=true)(h:K (.pt (nx H.l) 0 0 0) (H.put (nx H.l) (.var t x.cells))):qA H t x K:=yq _ ho (yI _ _ jl) h
variable{css:List (List AV)}
theorem Jd{e:TypeId}(h1:aY dQ css.flatten=true)(h2:K (.sl true sz css []) H):q9 e sz css H K:=.inl ⟨h1,h2⟩
theorem Bq{e:TypeId}(i:Nat)(h0:0<sz)(hi:H.get i=none)(h2:K (.rs i css.length sz css.length) (H.put i (.aO e sz css))):q9 e sz css H K:=.inr ⟨h0,i,hi,h2⟩
theorem Pd{e:TypeId}(h0:0<sz)(h2:K (.rs (nx H.l) css.length sz css.length) (H.put (nx H.l) (.aO e sz css))):q9 e sz css H K:=Bq _ h0 (yI _ _ jl) h2
theorem OZ{e:TypeId}(h0:0<sz)(h2:K (.rs (nx H.l) 0 sz 0) (H.put (nx H.l) (.aO e sz []))):q9 e sz [] H K:=Pd h0 h2
def gq(a a':AV):Prop:=∀(w:NW) v,av w a v->av w a' v
theorem gq.refl(a:AV):gq a a:=fun _ _ h=>h
theorem gq.sl{x:Bool}{sz:Nat}{css:List (List AV)}{d d':List AV}:gq (.sl x sz css d) (.sl false sz css d'):=fun w v hr=>by
 cases hr with
 |fZ _ _ A c _=>exact .fZ _ _ _ _ (fun e=>by cases e)
 |sl _ _ _ a c vs hn hc hx hsz hb hH hcell hr=>exact .sl _ _ _ a c vs hn hc (fun e=>by cases e) hsz hb hH hcell hr
theorem gq.nil{d:List AV}:gq (.raw (.slice none 0 0)) (.sl false sz [] d):=fun w v hr=>by
 have:=de hr;subst this;exact .fZ _ _ _ _ (fun e=>by cases e)
def pI:List AV->List AV->Prop
 |[],[]=>True
 |a::l,b::m=>gq a b/\pI l m
 |_,_=>False
theorem pI.get:∀{l m:List AV},pI l m->l.length=m.length/\∀(i:Nat) a b,l[i]?=some a->m[i]?=some b->gq a b
 |[],[],_=>⟨rfl,fun i a b h=>by simp at h⟩
 |x::l,y::m,h=>by
  have ih:=pI.get h.2;refine⟨by simp[ih.1],fun i a b ha hb=>?_⟩;cases i with
  |zero=>simp at ha hb;subst ha hb;exact h.1
  |succ i=>exact ih.2 i a b (by simpa using ha) (by simpa using hb)
attribute [go_sem] jy
@[go_sem] theorem jzo(l:List AV)(n m:Nat):(l.drop n).getD m .any=l.getD (n+m) .any:=by simp[List.getD_eq_getElem?_getD]
attribute [go_sem] List.drop_drop List.length_drop Array.toList_append
theorem PJ{out:List AV}{e:Exit}(he:e=.normal\/e=.ret)(ho:iO P H F fn.results.toList=some out)(hok:jc P H F fn.results.toList)(h1:jy out=r)(h2:H.l=l):kj P fn (fun r' l'=>r'=r/\l'=l) e F H:=
 rK he ho hok r H (gH.of_eq H h1) ⟨rfl,h2⟩
theorem Pz{out:List AV}{e:Exit}(D:Nat->Bool)(he:e=.normal\/e=.ret)(ho:iO P H F fn.results.toList=some out)(hok:jc P H F fn.results.toList)(hB:H.B.all (fy D)=true)(hl:gz D H.l)(hv:dU D H (jy out) r)(h2:eo D H.l=l):kj P fn (fun r' l'=>r'=r/\l'=l) e F H:=
 rK he ho hok r _ (gH.free D hB hl hv) ⟨rfl,h2⟩
variable{D:Nat->Bool}
theorem xI{a a':AV}(h:a=a')(hq:a.all (fy D)=true):dU D H a a':=by subst h;exact .same _ hq
def mg(B:List Nat):Nat->Bool:=fun i=>!(B.contains i)
theorem Ik{out:List AV}{e:Exit}(he:e=.normal\/e=.ret)(ho:iO P H F fn.results.toList=some out)(hok:jc P H F fn.results.toList)(hl:gz (mg H.B) H.l)(hv:dU (mg H.B) H (jy out) r)(h2:eo (mg H.B) H.l=l):kj P fn (fun r' l'=>r'=r/\l'=l) e F H:=
 Pz (mg H.B) he ho hok (by
  rw[List.all_eq_true];intro x hx;simp[fy,mg,hx]) hl hv h2
attribute [go_sem] iO jc
theorem C1{out:List AV}{e:Exit}(rs:List ResultVar)(hrs:fn.results.toList=rs)(he:e=.normal\/e=.ret)(ho:iO P H F rs=some out)(hok:jc P H F rs)(hl:gz (mg H.B) H.l)(hv:dU (mg H.B) H (jy out) r)(h2:eo (mg H.B) H.l=l):kj P fn (fun r' l'=>r'=r/\l'=l) e F H:=by
 subst hrs;exact Ik he ho hok hl hv h2
theorem I4{out:List AV}{e:Exit}(rs:List ResultVar)(hrs:fn.results.toList=rs)(he:e=.normal\/e=.ret)(ho:iO P H F rs=some out)(hok:jc P H F rs)(h1:jy out=r)(h2:H.l=l):kj P fn (fun r' l'=>r'=r/\l'=l) e F H:=by
 subst hrs;exact PJ he ho hok h1 h2
attribute [go_sem] mg cond_true cond_false sX
theorem Bf{S:Type}{ok:S->Prop}{J:S->List (Nat×AV)}{G:S->Hp}{μ:S->Nat}(L:List Nat)(s:S)(h1:ok s)(h2:μ s<n)(hB:H.B.all (fy fun i=>L.contains i)=true)(hl:gz (fun i=>L.contains i) H.l)(h4:⟨H.B,eo (fun i=>L.contains i) H.l⟩=G s)(h3:bZ (fun i=>L.contains i) H F (mH (J s) (mB W F₀))):Next n W ok J G μ F₀ F H:=Ah _ s h1 h2 hB hl h4 h3
theorem Nf(a:AV):dU D H a .any:=.drop a
@[go_sem] theorem jyA(i:Nat)(e:TypeId)(m sz:Nat)(css ys:List (List AV))(H:Hp)(K:AV->Hp->Prop):td i e m sz m css ys H K=K (.rs i (m+ys.length) sz (m+ys.length)) (H.put i (.aO e sz (css++ys))):=if_pos rfl
theorem NE{enc:α->List AV}(vars more ys:List α){e:TypeId}{m:Nat}{yss:List (List AV)}(hm:m=vars.length+more.length)(hn:n=vars.length)(hc:css=(vars++more).map enc)(hy:yss=ys.map enc)
  (h:K (.rs i (vars.length+ys.length+(more.drop ys.length).length) sz (vars.length+ys.length)) (H.put i (.aO e sz ((vars++ys++more.drop ys.length).map enc)))):td i e m sz n css yss H K:=by
 subst hm hn hc hy;unfold td;split
 ·rename_i h'
  have:more=[]:=List.length_eq_zero_iff.1 jB;subst this;simpa using h
 ·have e1:max (vars.length+more.length) (vars.length+(ys.map enc).length)=vars.length+ys.length+(more.drop ys.length).length:=by simp;omega
  have e2:ij ((vars++more).map enc) vars.length (ys.map enc)=(vars++ys++more.drop ys.length).map enc:=by
   unfold ij;rw[<-List.map_take,List.take_left',<-List.map_drop,List.length_map,List.drop_append,List.drop_eq_nil_of_le jB,List.nil_append]
   ·simp
   ·rfl
  rw[e1,e2];simpa using h
theorem LX{b c:Bool}(h:b=c):AV.raw (.bool b)=AV.raw (.bool c):=by rw[h]
theorem LW{k:IntKind}{b c:Int}(h:b=c):AV.raw (.int k b)=AV.raw (.int k c):=by rw[h]
section
variable {P:Program}{ops:Array Oper}{H:Hp}
def dL(ops:Array Oper)(o:Oper)(F G:List AV):Prop:=(∀x∈o.op.operands.toList,cf G x=cf F x)/\∀j b,o.guard=some (j,b)->mw ops G j b=mw ops F j b
def QV(P:Program)(ops:Array Oper)(o:Oper)(F:List AV)(H:Hp)(r:AV):Prop:=∀G,dL ops o F G->me P ops o G H fun F' H'=>F'=cM G o.dst r/\H'=H
theorem zB{f:AV}{args:List AV}{K K':AV->Hp->Prop}(h:fF P f args H K)(hk:∀r H,K r H->K' r H):fF P f args H K':=by
 unfold fF at*;split at h
 ·rcases h with h|h
  ·exact .inl ⟨h.1,h.2.mono hk⟩
  ·exact .inr fun w vs h1 h2=>by
    obtain⟨v,w',r,H',e,k,g⟩:=h w vs h1 h2;exact⟨v,w',r,H',e,hk _ _ k,g⟩
 ·exact h.elim
def o0(P:Program)(t:TypeId)(n:Nat)(parts:List (Nat×AV))(K:AV->Prop):Prop:=match iw P t with
 |some e=>match da P e with
  |some sz=>((parts.length=n/\v6 sz 0 parts/\n*sz<=16777216/\(n*sz=0\/(ee P e).isSome=true))/\aY dQ (lL parts).flatten=true)/\K (.sl true sz (lL parts) [])
  |none=>False
 |none=>False
variable{t:TypeId}{n:Nat}{parts:List (Nat×AV)}
theorem K5{K:AV->Hp->Prop}(h:o0 P t n parts fun r=>K r H):nj P H t n parts K:=by
 unfold o0 at h;unfold nj;split at h
 ·rename_i e he
  split at h
  ·rename_i sz hs
   rw[he];simp only[hs];exact⟨h.1.1,.inl ⟨h.1.2,h.2⟩⟩
  ·exact h.elim
 ·exact h.elim
variable{K:AV->Prop}
theorem Cr(h:o0 P t n parts K):∃r,K r/\∀K':AV->Prop,K' r->o0 P t n parts K':=by
 unfold o0 at h;split at h
 ·rename_i e he
  split at h
  ·rename_i sz hs
   exact⟨_,h.2,fun K' hk=>by unfold o0;rw[he];simp only[hs];exact⟨h.1,hk⟩⟩
  ·exact h.elim
 ·exact h.elim
def ov:Op->Bool
 |.binOp .eql ..=>true
 |.binOp .neq ..=>true
 |_=>false
variable{o:Oper}{F:List AV}
theorem N9{K:List AV->Hp->Prop}(hg:o.guard=none)(hq:(vq P (cf F) H o.op).1)(hk:K (cM F o.dst (vq P (cf F) H o.op).2) H):me P ops o F H K:=
 HZ hg (J0 (K:=fun r H'=>K (cM F o.dst r) H') hq hk)
theorem vp(hg:o.guard=none)(hq:(vq P (cf F) H o.op).1):QV P ops o F H (vq P (cf F) H o.op).2:=fun G hG=>by
 have e:vq P (cf G) H o.op=vq P (cf F) H o.op:=tO _ hG.1;exact N9 hg (by rw[e];exact hq) ⟨by rw[e],rfl⟩
variable{dst:Option Tmp}{after:Array Edge}
theorem MX{f:Operand}{args:Array Operand}{ts:Array TypeId}{ty:TypeId}{pos:String}{r:AV}(h:fF P (cf F f) (args.toList.map (cf F)) H fun r' H'=>r'=r/\H'=H) :
  QV P ops ⟨dst,.call ⟨.value f,args,ts⟩,ty,pos,after,none⟩ F H r:=fun G hG=>by
 refine pM (K:=fun F' H'=>F'=cM G dst r/\H'=H) rfl ?_;show fF P (cf G f) (args.toList.map (cf G)) H _;rw[hG.1 f (by simp[Op.operands,Call.operands]),List.map_congr_left (g:=cf F) (fun x hx=>hG.1 x (by simp[Op.operands,Call.operands]at hx ⊢;exact .inr hx))];exact zB h fun r' H' ⟨e1,e2⟩=>⟨by rw[e1],e2⟩
theorem C0{parts:Array (Nat×Operand)}{ty:TypeId}{pos:String}{r:AV}(h:o0 P t n (parts.toList.map fun p=>(p.1,cf F p.2)) fun r'=>r'=r) :
  QV P ops ⟨dst,.buildSlice t n parts,ty,pos,after,none⟩ F H r:=fun G hG=>by
 refine pM (K:=fun F' H'=>F'=cM G dst r/\H'=H) rfl ?_;show nj P H t n (parts.toList.map fun p=>(p.1,cf G p.2)) (fun r_1 H'=>cM G dst r_1=cM G dst r/\H'=H);rw[List.map_congr_left (g:=fun p=>(p.1,cf F p.2)) (fun x hx=>by rw[hG.1 x.2 (by simp[Op.operands]at hx ⊢;exact⟨_,hx⟩)])];refine K5 ?_;obtain⟨r',e,hk⟩:=Cr h;subst e;exact hk _ ⟨rfl,rfl⟩
variable{G:List AV}
theorem EX(o:Op)(h:∀x∈o.operands.toList,cf G x=cf F x):gi G o=gi F o:=by
 unfold gi;rw[Bool.eq_iff_iff,List.all_eq_true,List.all_eq_true];constructor<;>intro hh x hx<;>have:=hh x hx<;>rw[h x hx]at*<;>exact this
def wT:Op->Bool
 |.pick ..=>true
 |_=>false
theorem xU{g:Bool}(o:Op)(h:kV o=false)(hp:wT o=false):eu P F H g K o=if iy o then(g=true->gi F o=true/\(vq P (bQ F) H o).1)/\K (.gd g (vq P (bQ F) H o).2)else False:=by
 cases o
 case call c=>
  obtain⟨callee,args,ts⟩:=c;cases callee
  case value f=>cases h
  all_goals rfl
 case pick=>cases hp
 all_goals rfl
theorem Ef{g:Bool}{o:Op}(h:eu P F H g K o):∃r,K (.gd g r)/\∀(G:List AV) (K':AV->Prop),(∀x∈o.operands.toList,cf G x=cf F x)->K' (.gd g r)->eu P G H g K' o:=by
 cases hc:kV o with
 |false=>
  by_cases hp:wT o=true
  ·cases o<;>try cases hp
   rename_i c a b;refine⟨_,h.2,fun G K' hG hk=>?_⟩;have he:∀x∈(Op.pick c a b).operands.toList,bQ G x=bQ F x:=fun x hx=>by unfold bQ;rw[hG x hx]
   show(g=true->(lr (cf G c)).1=true/\(nq (bQ G c) (cf G a) (cf G b)).1)/\K' (.gd g (nq (bQ G c) (cf G a) (cf G b)).2);rw[hG c (by simp[Op.operands]),hG a (by simp[Op.operands]),hG b (by simp[Op.operands]),he c (by simp[Op.operands])];exact⟨h.1,hk⟩
  have hp:wT o=false:=by simpa using hp
  rw[xU o hc hp]at h;split at h
  ·rename_i hq
   refine⟨_,h.2,fun G K' hG hk=>?_⟩;have he:∀x∈o.operands.toList,bQ G x=bQ F x:=fun x hx=>by unfold bQ;rw[hG x hx]
   rw[xU o hc hp,if_pos hq,tO _ he,EX o hG];exact⟨h.1,hk⟩
  ·exact h.elim
 |true=>
  cases o<;>try cases hc
  rename_i c;obtain⟨callee,args,ts⟩:=c;cases callee<;>try cases hc
  rename_i f;obtain⟨r,h1,h2⟩:=h;refine⟨r,h2,fun G K' hG hk=>⟨r,fun hg=>⟨EX _ hG ▸ (h1 hg).1,?_⟩,hk⟩⟩;have he:∀x∈(Op.call ⟨.value f,args,ts⟩).operands.toList,bQ G x=bQ F x:=fun x hx=>by unfold bQ;rw[hG x hx]
  rw[he f (by simp[Op.operands,Call.operands]),List.map_congr_left (g:=bQ F) (fun x hx=>he x (by simp[Op.operands,Call.operands]at hx ⊢;exact .inr hx))];exact(h1 hg).2
theorem ER{j:Nat}{want b:Bool}{r:AV}(hg:o.guard=some (j,want))(hb:mw ops F j want=some b)(hq:(kV o.op || iy o.op)=true)(h:eu P F H b (fun r'=>r'=r) o.op):QV P ops o F H r:=fun G hG=>by
 have hv:kD P ops (fun F' H'=>F'=cM G o.dst r/\H'=H) [o] G H:=by
  simp only[kD,hg,hG.2 j want hg,hb,hq,if_true];obtain⟨r',h1,h2⟩:=Ef h;exact h2 G _ hG.1 ⟨by rw[h1],trivial⟩
 have hs:=wC [o] G H hv;intro w tm Q next h1 h2 hn;have:=hs w tm (fun e a w=>match e with|.normal=>next a w|e=>Q e a w) h1 h2 hn;simp only[wpList]at this;unfold se;split
 ·rename_i hw
  rw[if_pos hw]at this;rcases this with h|⟨ha,hl⟩
  ·refine .inl ?_
   unfold Oper.wp at*;generalize (execOp (Act.mk tm []).eval o).run P w=res at*;cases res with
   |ok n w'=>
    cases n<;>simp only[Oper.upon]at h ⊢
    case enter f args=>exact Calls.mono h fun e w'' he=>by cases e<;>exact he
    all_goals exact h
   |halt x w'=>cases x<;>simp only[Oper.upon]at h ⊢;exact h
  ·exact .inr ⟨ha,hl⟩
 ·rename_i hw
  rw[if_neg hw]at this;exact this
-- the order
def FL(os:List Oper)(rs:List AV)(L:Nat->Bool)(F:List AV):Nat->List AV
 |0=>F
 |m+1=>if L m then cM (FL os rs L F m) ((os[m]?).bind (·.dst)) (rs.getD m .any)else FL os rs L F m
def n7(os:List Oper)(rs:List AV)(L:Nat->Bool)(F:List AV)(s:Nat):Nat->AV
 |0=>F.getD s .any
 |m+1=>if L m=true/\(os[m]?).bind (·.dst)=some s then rs.getD m .any else n7 os rs L F s m
theorem nA(os:List Oper)(rs:List AV)(L:Nat->Bool)(F:List AV):∀m,(FL os rs L F m).length=F.length
 |0=>rfl
 |m+1=>by
  unfold FL;split
  ·rw[<-nA os rs L F m]
   cases(os[m]?).bind (·.dst)<;>simp[cM]
  ·exact nA os rs L F m
theorem vw(os:List Oper)(rs:List AV)(L:Nat->Bool)(F:List AV){s:Nat}(hs:s<F.length):∀m,(FL os rs L F m).getD s .any=n7 os rs L F s m
 |0=>rfl
 |m+1=>by
  have ih:=vw os rs L F hs m;have hl:=nA os rs L F m;unfold FL n7;cases hd:(os[m]?).bind (·.dst)with
  |none=>
   have hno:¬(L m=true/\(none:Option Tmp)=some s):=fun h=>by have:=h.2;cases this
   rw[if_neg hno];cases hL:L m
   ·exact ih
   ·exact ih
  |some d=>
   cases hL:L m
   ·simpa using ih
   ·simp only[if_true,cM,true_and,Option.some.injEq]
    by_cases e:d=s
    ·subst e;simp[hl,hs]
    ·rw[if_neg e]
     have:(List.set (FL os rs L F m) d (rs.getD m .any)).getD s .any=(FL os rs L F m).getD s .any:=by simp[List.getElem?_set,e]
     rw[this,ih]
variable{os:List Oper}{L:Nat->Bool}
theorem Kc{rs:List AV}{L':Nat->Bool}{m m':Nat}(hG:G.length=F.length)(h:∀s,s<F.length->G.getD s .any=n7 os rs L F s m):G=FL os rs L F m:=by
 refine List.ext_getElem? fun s=>?_
 rcases Nat.lt_or_ge s F.length with hs|hs
 ·have h1:=h s hs
  rw[<-vw os rs L F hs m]at h1;have h2:G[s]?=some (G.getD s .any):=by simp[hG,hs]
  have h3:(FL os rs L F m)[s]?=some ((FL os rs L F m).getD s .any):=by simp[nA,hs]
  rw[h2,h3,h1]
 ·rw[List.getElem?_eq_none jB,List.getElem?_eq_none (by rw[nA];omega)]
def looks(os:List Oper)(o:Oper):List Nat:=
 (o.op.operands.toList.filterMap fun|.tmp t=>some t|_=>none)++
 (match o.guard with
   |some (g,_)=>((os[g]?).bind (·.dst)).toList
   |none=>[])
def pT:List Nat->List Nat
 |[]=>[]
 |x::l=>if(pT l).contains x then pT l else x::pT l
theorem Bb{x:Nat}:∀{l:List Nat},x∈pT l<->x∈l
 |[]=>Iff.rfl
 |y::l=>by
  have ih:x∈pT l<->x∈l:=Bb;unfold pT;split
  ·rename_i h
   rw[ih,List.mem_cons];refine⟨.inr,fun h'=>h'.elim (fun e=>?_) id⟩;subst e;exact ih.1 (List.contains_iff_mem.1 h)
  ·rw[List.mem_cons,List.mem_cons,ih]
def mI(acc:List (List Nat))(o:Oper):List (List Nat):=acc++[pT ((o.after.toList.filter (Region.binds .any)).flatMap fun e=>e.on::acc.getD e.on [])]
def j8(os:List Oper):List (List Nat):=os.foldl mI []
def vQ(os:List Oper)(a b:Oper):Bool:=
 (match a.dst with
   |some d=>(looks os b).contains d || b.dst == some d
   |none=>false) ||
 (match b.dst with
   |some d=>(looks os a).contains d
   |none=>false)
def xY(os:List Oper):Bool:=
 let ps:=j8 os
 (List.range os.length).all fun j=>match os[j]? with
  |some b=>(b.after.toList.all fun e=>!Region.binds .any e || decide (e.on<j)) &&
   (List.range j).all fun i=>match os[i]? with
    |some a=>!vQ os a b || (ps.getD j []).contains i
    |none=>true
  |none=>true
theorem zE:∀(os:List Oper) (acc:List (List Nat)) (j:Nat),j<acc.length->(os.foldl mI acc)[j]?=acc[j]?
 |[],acc,j,_=>rfl
 |o::os,acc,j,h=>by
  simp only[List.foldl_cons];rw[zE os _ j (by simp[mI];omega)];unfold mI;rw[List.getElem?_append_left h]
theorem F0:∀(os:List Oper) (acc:List (List Nat)) (j:Nat) (o:Oper),os[j]?=some o->(os.foldl mI acc).getD (acc.length+j) []=pT ((o.after.toList.filter (Region.binds .any)).flatMap fun e=>e.on::(if e.on<acc.length+j then(os.foldl mI acc).getD e.on []else[]))
 |[],acc,j,o,h=>by simp at h
 |o'::os,acc,0,o,h=>by
  simp only[List.getElem?_cons_zero,Option.some.injEq]at h;subst h;simp only[List.foldl_cons,Nat.add_zero];have h1:(os.foldl mI (mI acc o')).getD acc.length []=pT ((o'.after.toList.filter (Region.binds .any)).flatMap fun e=>e.on::acc.getD e.on []):=by
   rw[List.getD_eq_getElem?_getD,zE os _ _ (by simp[mI])];unfold mI;rw[List.getElem?_append_right jl];simp
  rw[h1];congr 2
  funext e
  congr 1
  split
  ·rename_i hlt
   rw[List.getD_eq_getElem?_getD,List.getD_eq_getElem?_getD,zE os _ _ (by simp[mI];omega)];unfold mI;rw[List.getElem?_append_left hlt]
  ·rename_i hge
   rw[List.getD_eq_getElem?_getD,List.getElem?_eq_none jB];rfl
 |o'::os,acc,j+1,o,h=>by
  simp only[List.foldl_cons];have:=F0 os (mI acc o') j o (by simpa using h);have e:(mI acc o').length+j=acc.length+(j+1):=by simp[mI];omega
  rw[e]at this;exact this
theorem F7{j:Nat}(h:os[j]?=some o):(j8 os).getD j []=pT ((o.after.toList.filter (Region.binds .any)).flatMap fun e=>e.on::(if e.on<j then(j8 os).getD e.on []else[])):=by
 have:=F0 os [] j o h;simp only[List.length_nil,Nat.zero_add]at this;exact this
def nI(os:List Oper)(L:Nat->Bool):Prop:=∀j o,os[j]?=some o->L j=true->∀e∈o.after.toList,Region.binds .any e=true->L e.on=true
theorem yy(hc:nI os L)(hlt:∀j o,os[j]?=some o->∀e∈o.after.toList,Region.binds .any e=true->e.on<j):∀n j,j<n->∀o,os[j]?=some o->(∀e∈o.after.toList,Region.binds .any e=true->L e.on=true)->∀i∈(j8 os).getD j [],L i=true:=by
 intro n;induction n with
 |zero=>intro j hj;omega
 |succ n ih=>
  intro j hj o ho hL i hi;rw[F7 ho,Bb]at hi;obtain⟨e,he,hi⟩:=List.mem_flatMap.1 hi;obtain⟨he1,he2⟩:=List.mem_filter.1 he;have hon:=hL e he1 he2;rcases List.mem_cons.1 hi with rfl|hi
  ·exact hon
  ·rw[if_pos (hlt j o ho e he1 he2)]at hi
   have hlt':=hlt j o ho e he1 he2;have hjlen:=(List.getElem?_eq_some_iff.1 ho).1;have ho':os[e.on]?=some (os[e.on]' jB):=List.getElem?_eq_getElem jB;exact ih e.on jB _ ho' (fun e' h1 h2=>hc _ _ ho' hon e' h1 h2) i hi
theorem wW(h:xY os=true):(∀j o,os[j]?=some o->∀e∈o.after.toList,Region.binds .any e=true->e.on<j)/\
  ∀i j a b,i<j->os[i]?=some a->os[j]?=some b->vQ os a b=true->i∈(j8 os).getD j []:=by
 simp only[xY,List.all_eq_true,List.mem_range]at h;constructor
 ·intro j o ho e he hb
  have:=h j (List.getElem?_eq_some_iff.1 ho).1;rw[ho]at this;simp only[Bool.and_eq_true,List.all_eq_true]at this;have:=this.1 e he;simpa[hb]using this
 ·intro i j a b hij ha hb hc
  have:=h j (List.getElem?_eq_some_iff.1 hb).1;rw[hb]at this;simp only[Bool.and_eq_true,List.all_eq_true,List.mem_range]at this;have:=this.2 i hij;rw[ha]at this;simp only[hc,Bool.not_true,Bool.false_or]at this;simpa using this
theorem Gi{os:List Oper}{rs F:List AV}{L L':Nat->Bool}{i s:Nat}{o:Oper}(ho:os[i]?=some o)(hL':∀k,L' k=(L k || k == i))(hw:∀k o',os[k]?=some o'->o'.dst=some s->L k=decide (k<i))(hs:o.dst=some s):∀m,i<m->n7 os rs L' F s m=rs.getD i .any
 |0,h=>by omega
 |m+1,h=>by
  rw[n7];by_cases hm:m=i
  ·subst hm
   rw[if_pos ⟨by rw[hL'];simp,by rw[ho];exact hs⟩]
  ·rw[if_neg]
   ·exact Gi ho hL' hw hs m jB
   ·rintro⟨h1,h2⟩
    obtain⟨o',ho',hs'⟩:=Option.bind_eq_some_iff.1 h2;rw[hL',hw m o' ho' hs']at h1;simp at h1;omega
theorem CX{os:List Oper}{rs F:List AV}{L L':Nat->Bool}{i s:Nat}{o:Oper}(ho:os[i]?=some o)(hL':∀k,L' k=(L k || k == i))(hs:o.dst≠some s):∀m,n7 os rs L' F s m=n7 os rs L F s m
 |0=>rfl
 |m+1=>by
  have ih:=CX (rs:=rs) (F:=F) ho hL' hs m;rw[n7,n7,ih,hL'];by_cases hm:m=i
  ·subst hm
   rw[ho];simp[hs]
  ·simp[hm]
theorem Qc{t:Nat}(h:Operand.tmp t∈o.op.operands.toList):t∈looks os o:=
 List.mem_append_left _ (List.mem_filterMap.2 ⟨_,h,rfl⟩)
theorem Jr(hl:F.length=G.length)(h:∀s∈looks os o,s<F.length->G.getD s .any=F.getD s .any):dL os.toArray o F G:=by
 have hget:∀s∈looks os o,G[s]?=F[s]?:=fun s hs=>by
  rcases Nat.lt_or_ge s F.length with h1|h1
  ·have:=h s hs h1
   have e1:G[s]?=some (G.getD s .any):=by simp[<-hl,h1]
   have e2:F[s]?=some (F.getD s .any):=by simp[h1]
   rw[e1,e2,this]
  ·rw[List.getElem?_eq_none jB,List.getElem?_eq_none h1]
 constructor
 ·intro x hx
  cases x with
  |tmp t=>simp only[cf,List.getD_eq_getElem?_getD,hget t (Qc hx)]
  |const v=>rfl
  |global g=>rfl
  |func f=>rfl
 ·intro j b hg
  unfold mw;cases hd:(os.toArray[j]?).bind (·.dst)with
  |none=>rfl
  |some d=>
   simp only;rw[hget d (List.mem_append_right _ (by rw[hg];simp at hd ⊢;simpa using hd))]
end
section
variable {P:Program}{ops:Array Oper}{H:Hp}{K:List AV->Prop}{F:List AV}{dst:Option Tmp}{ty:TypeId}{pos:String}{after:Array Edge}{rest:List Oper}
end
end Go.Gd
