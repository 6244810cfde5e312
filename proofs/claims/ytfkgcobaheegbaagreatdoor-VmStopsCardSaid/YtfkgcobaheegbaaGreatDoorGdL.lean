/- Lemmas. No conditions. -/
import Derived.Test.YtfkgcobaheegbaaGreatDoorGdJ
set_option linter.all false
namespace Go.Gd
open Go
def nth{α:Type}[Inhabited α](l:List α)(i:Nat):α:=l.getD i default
variable{α:Type}{i:Nat}
theorem dN[Inhabited α]{l:List α}(h:i<l.length):nth l i=l[i]:=by simp[nth,h]
theorem MG[Inhabited α]{l:List α}(h:i<l.length):l.take (i+1)=l.take i++[nth l i]:=by rw[dN h,List.take_succ_eq_append_getElem h]
variable{β:Type}
theorem I8[Inhabited α][Inhabited β](f:α->β){l:List α}(h:i<l.length):nth (l.map f) i=f (nth l i):=by rw[dN h,dN (by simpa using h)];simp
@[reducible] def bp{α:Type}[Inhabited α](enc:α->List AV)(sz:Nat)(l:List α):AV:=.sl false sz (l.map enc) (enc default)
@[go_sem] theorem jwk(next:List AV->Hp->Prop)(Q:Exit->List AV->Hp->Prop)(F:List AV)(H:Hp):uj next Q .normal F H=next F H:=(rfl)
@[go_sem] theorem j0U(next:List AV->Hp->Prop)(Q:Exit->List AV->Hp->Prop)(F:List AV)(H:Hp):uj next Q .ret F H=Q .ret F H:=(rfl)
@[go_sem] theorem jzP(next:List AV->Hp->Prop)(Q:Exit->List AV->Hp->Prop)(id:Nat)(F:List AV)(H:Hp):uj next Q (.exit id) F H=Q (.exit id) F H:=(rfl)
@[go_sem] theorem jue(id:Nat)(Q:Exit->List AV->Hp->Prop)(F:List AV)(H:Hp):sq id Q .normal F H=Q .normal F H:=(rfl)
@[go_sem] theorem jzO(id:Nat)(Q:Exit->List AV->Hp->Prop)(F:List AV)(H:Hp):sq id Q .ret F H=Q .ret F H:=(rfl)
@[go_sem] theorem jxk(id:Nat)(Q:Exit->List AV->Hp->Prop)(F:List AV)(H:Hp):sq id Q (.exit id) F H=Q .normal F H:=by simp[sq]
def AP(K:AV->Hp->Prop)(_:gb K):AV->Hp->Prop:=K
def wB(K:AV->Prop)(_:gb K):AV->Prop:=K
@[go_sem] theorem j29(K:AV->Hp->Prop)(d:gb K)(r:AV)(H:Hp):AP K d r H=K r H:=(rfl)
@[go_sem] theorem j0Q(K:AV->Prop)(d:gb K)(r:AV):wB K d r=K r:=(rfl)
variable{r:AV}{H:Hp}
theorem IJ{K:AV->Hp->Prop}{d:gb K}(h:K r H):AP K d r H:=h
def tB(o:Option Bool)(A:Bool->Prop)(_:gb A):Prop:=match o with
 |some b=>A b
 |none=>False
@[go_sem] theorem jzw(b:Bool)(A:Bool->Prop)(d:gb A):tB (some b) A d=A b:=(rfl)
def qb(q:Bool)(A B:Prop)(_:gb A)(_:gb B):Prop:=if q=true then A else B
@[go_sem] theorem j4n(A B:Prop)(d:gb A)(e:gb B):qb true A B d e=A:=(rfl)
@[go_sem] theorem j2O(A B:Prop)(d:gb A)(e:gb B):qb false A B d e=B:=(rfl)
variable{P:Program}{ops:Array Oper}{K:List AV->Hp->Prop}
@[go_sem] theorem j58(F:List AV)(H:Hp):iC P ops K [] F H=K F H:=(rfl)
@[go_sem] theorem j4D(dst:Option Tmp)(op:Op)(ty:TypeId)(pos:String)(after:Array Edge)(rest:List Oper)(F:List AV)(H:Hp) :
  iC P ops K (⟨dst,op,ty,pos,after,none⟩::rest) F H=vc P (cc F) H ty (AP (fun r H'=>iC P ops K rest (cA F dst r) H') .mk) op:=(rfl)
@[go_sem] theorem j23(dst:Option Tmp)(op:Op)(ty:TypeId)(pos:String)(after:Array Edge)(j:Nat)(want:Bool)(rest:List Oper)(F:List AV)(H:Hp) :
  iC P ops K (⟨dst,op,ty,pos,after,some (j,want)⟩::rest) F H=tB (mq ops F j want) (fun b=>qb (k9 op || iB op) (eQ P F H b (wB (fun r=>iC P ops K rest (cA F dst r) H) .mk) op)
    ((b=true->vc P (cc F) H ty (AP (fun r H'=>iC P ops K rest (cA F dst r) H') .mk) op)/\(b=false->iC P ops K rest (cA F dst .any) H)) .mk .mk) .mk:=by
 unfold tB qb;rfl
@[go_sem] theorem j0w(a:Nat):((a:Int)+1).toNat=a+1:=jB
@[go_sem] theorem j0x(a b:Nat):((a:Int)-(b:Int)).toNat=a-b:=jB
@[go_sem] theorem j0y(a:Nat):((a:Int)-1).toNat=a-1:=jB
attribute [go_sem] Int.cast_ofNat_Int
theorem rN{n:Int}(h:-9223372036854775808<=n/\n<=9223372036854775807):IntKind.i64.wrap n=n:=by have h1:(2:Int) ^ 64=18446744073709551616:=jC;have h2:(2:Int) ^ (64-1)=9223372036854775808:=jC;simp only[IntKind.wrap,IntKind.bits,IntKind.signed,Bool.true_and,h1,h2,decide_eq_true_eq];split<;>omega
variable{fn:Func}{F:List AV}
theorem Oy{f:FuncId}{c:Code}{args:List AV}(hf:P.funcs[f]?=some fn)(hb:fn.body=some c)(hF:args++List.replicate (fn.ntmps-args.length) .any=F)
  (h:dH P c (kX P fn fun r' l'=>r'=r/\l'=[]) F ⟨[],[]⟩):eG P f args r:=ES hf hb (by rw[hF];exact h)
variable{l:List (Nat×Row)}{R:AV->List (Nat×Row)->Prop}
theorem L4{f:FuncId}{c:Code}{args:List AV}(hf:P.funcs[f]?=some fn)(hb:fn.body=some c)(hF:args++List.replicate (fn.ntmps-args.length) .any=F){L:List Nat}(hL:ids l=L)
  (h:dH P c (kX P fn R) F ⟨L,l⟩):aj P f args l R:=ES hf hb (by rw[hF];subst hL;exact h)
section
variable {P:Program}{ev:Operand->AV}{H:Hp}{ty:TypeId}{K:AV->Hp->Prop}
@[go_sem] theorem j55(x:Operand):vc P ev H ty K (.move x)=K (ev x) H:=by simp[vc,dh,vq]
@[go_sem] theorem j2Y(x:Operand):vc P ev H ty K (.assign x)=K (ev x) H:=by simp[vc,dh,vq]
@[go_sem] theorem j56(c a b:Operand):vc P ev H ty K (.pick c a b)=((nG (ev c) (ev a) (ev b)).1/\K (nG (ev c) (ev a) (ev b)).2 H):=by simp[vc,dh,vq]
@[go_sem] theorem jzF(x:Operand):vc P ev H ty K (.nilCheck x)=((ra (ev x)).1/\K (ra (ev x)).2 H):=by simp[vc,dh,vq]
@[go_sem] theorem j57(op:UnOp)(t:TypeId)(x:Operand):vc P ev H ty K (.unOp op t x)=((sk op (ev x)).1/\K (sk op (ev x)).2 H):=by simp[vc,dh,vq]
@[go_sem] theorem j54(t:TypeId)(x:Operand):vc P ev H ty K (.load t x)=((oO P H t (ev x)).1/\K (oO P H t (ev x)).2 H):=by simp[vc,dh,vq]
@[go_sem] theorem jxa(t:TypeId)(x:Operand)(f:Nat):vc P ev H ty K (.fieldAddr t x f)=((sJ P t (ev x) f).1/\K (sJ P t (ev x) f).2 H):=by simp[vc,dh,vq]
@[go_sem] theorem j4x(t:TypeId)(x:Operand)(f:Nat):vc P ev H ty K (.field t x f)=((vA P t (ev x) f).1/\K (vA P t (ev x) f).2 H):=by simp[vc,dh,vq]
@[go_sem] theorem jxb(t:TypeId)(x i:Operand):vc P ev H ty K (.indexAddr t x i)=((rT P t (ev x) (ev i)).1/\K (rT P t (ev x) (ev i)).2 H):=by simp[vc,dh,vq]
@[go_sem] theorem j4y(t:TypeId)(x i:Operand):vc P ev H ty K (.index t x i)=((rX P t (ev x) (ev i)).1/\K (rX P t (ev x) (ev i)).2 H):=by simp[vc,dh,vq]
@[go_sem] theorem j0F(x:Operand)(i:Nat):vc P ev H ty K (.extract x i)=((u7 (ev x) i).1/\K (u7 (ev x) i).2 H):=by simp[vc,dh,vq]
@[go_sem] theorem j4z(t:TypeId)(a:Operand)(lo hi mx:Option Operand):vc P ev H ty K (.slice t a lo hi mx)=((sC P t (ev a) (lo.map ev) (hi.map ev) (mx.map ev)).1/\K (sC P t (ev a) (lo.map ev) (hi.map ev) (mx.map ev)).2 H):=by simp[vc,dh,vq]
@[go_sem] theorem jzE(fn:Fn)(a b:Array Operand):vc P ev H ty K (.makeFunc fn a b)=((vm fn (a.toList.map ev) (b.toList.map ev)).1/\K (vm fn (a.toList.map ev) (b.toList.map ev)).2 H):=by simp[vc,dh,vq]
@[go_sem] theorem j0E(s d:TypeId)(x:Operand):vc P ev H ty K (.convert s d x)=((uo P s d (ev x)).1/\K (uo P s d (ev x)).2 H):=by simp[vc,dh,vq]
@[go_sem] theorem j4w(t:TypeId)(ps:Array (Nat×Operand)):vc P ev H ty K (.build t ps)=((sO P t (ps.toList.map fun p=>(p.1,ev p.2))).1/\K (sO P t (ps.toList.map fun p=>(p.1,ev p.2))).2 H):=by simp[vc,dh,vq]
@[go_sem] theorem j82(as:Array Operand)(ts:Array TypeId):vc P ev H ty K (.call ⟨.builtin .len,as,ts⟩)=((ng P H .len ts.toList (as.toList.map ev)).1/\K (ng P H .len ts.toList (as.toList.map ev)).2 H):=by simp[vc,dh,vq]
@[go_sem] theorem j85(as:Array Operand)(ts:Array TypeId):vc P ev H ty K (.call ⟨.builtin .max,as,ts⟩)=((ng P H .max ts.toList (as.toList.map ev)).1/\K (ng P H .max ts.toList (as.toList.map ev)).2 H):=by simp[vc,dh,vq]
@[go_sem] theorem j86(as:Array Operand)(ts:Array TypeId):vc P ev H ty K (.call ⟨.builtin .min,as,ts⟩)=((ng P H .min ts.toList (as.toList.map ev)).1/\K (ng P H .min ts.toList (as.toList.map ev)).2 H):=by simp[vc,dh,vq]
@[go_sem] theorem j8X(t:TypeId)(x y:Operand)(t':TypeId):vc P ev H ty K (.binOp .add t x y t')=((fD P .add t (ev x) (ev y)).1/\K (fD P .add t (ev x) (ev y)).2 H):=by simp[vc,dh,vq]
@[go_sem] theorem j9b(t:TypeId)(x y:Operand)(t':TypeId):vc P ev H ty K (.binOp .sub t x y t')=((fD P .sub t (ev x) (ev y)).1/\K (fD P .sub t (ev x) (ev y)).2 H):=by simp[vc,dh,vq]
@[go_sem] theorem j87(t:TypeId)(x y:Operand)(t':TypeId):vc P ev H ty K (.binOp .mul t x y t')=((fD P .mul t (ev x) (ev y)).1/\K (fD P .mul t (ev x) (ev y)).2 H):=by simp[vc,dh,vq]
@[go_sem] theorem j89(t:TypeId)(x y:Operand)(t':TypeId):vc P ev H ty K (.binOp .quo t x y t')=((fD P .quo t (ev x) (ev y)).1/\K (fD P .quo t (ev x) (ev y)).2 H):=by simp[vc,dh,vq]
@[go_sem] theorem j9a(t:TypeId)(x y:Operand)(t':TypeId):vc P ev H ty K (.binOp .rem t x y t')=((fD P .rem t (ev x) (ev y)).1/\K (fD P .rem t (ev x) (ev y)).2 H):=by simp[vc,dh,vq]
@[go_sem] theorem j84(t:TypeId)(x y:Operand)(t':TypeId):vc P ev H ty K (.binOp .lss t x y t')=((fD P .lss t (ev x) (ev y)).1/\K (fD P .lss t (ev x) (ev y)).2 H):=by simp[vc,dh,vq]
@[go_sem] theorem j83(t:TypeId)(x y:Operand)(t':TypeId):vc P ev H ty K (.binOp .leq t x y t')=((fD P .leq t (ev x) (ev y)).1/\K (fD P .leq t (ev x) (ev y)).2 H):=by simp[vc,dh,vq]
@[go_sem] theorem j81(t:TypeId)(x y:Operand)(t':TypeId):vc P ev H ty K (.binOp .gtr t x y t')=((fD P .gtr t (ev x) (ev y)).1/\K (fD P .gtr t (ev x) (ev y)).2 H):=by simp[vc,dh,vq]
@[go_sem] theorem j80(t:TypeId)(x y:Operand)(t':TypeId):vc P ev H ty K (.binOp .geq t x y t')=((fD P .geq t (ev x) (ev y)).1/\K (fD P .geq t (ev x) (ev y)).2 H):=by simp[vc,dh,vq]
@[go_sem] theorem j8Z(t:TypeId)(x y:Operand)(t':TypeId):vc P ev H ty K (.binOp .eql t x y t')=p9 P false t (ev x) (ev y) H K:=(rfl)
@[go_sem] theorem j88(t:TypeId)(x y:Operand)(t':TypeId):vc P ev H ty K (.binOp .neq t x y t')=p9 P true t (ev x) (ev y) H K:=(rfl)
@[go_sem] theorem j8Y(t:TypeId)(x:Operand):vc P ev H ty K (.box t x)=rm H t (ev x) K:=(rfl)
@[go_sem] theorem j4v(t:TypeId):vc P ev H ty K (.alloc t)=nP P H t K:=(rfl)
@[go_sem] theorem j4A(t:TypeId)(a x:Operand):vc P ev H ty K (.store t a x)=vE P H t (ev a) (ev x) K:=(rfl)
@[go_sem] theorem jwf(t:TypeId)(n:Nat)(ps:Array (Nat×Operand)):vc P ev H ty K (.buildSlice t n ps)=nq P H t n (ps.toList.map fun p=>(p.1,ev p.2)) K:=(rfl)
@[go_sem] theorem j52(f:Operand)(as:Array Operand)(ts:Array TypeId):vc P ev H ty K (.call ⟨.value f,as,ts⟩)=fI P (ev f) (as.toList.map ev) H K:=(rfl)
@[go_sem] theorem j2X(t:TypeId)(a x:Operand):vc P ev H ty K (.call ⟨.builtin .append,#[a,x],#[t,t]⟩)=pT P t t (ev a) (ev x) H K:=by simp[vc]
@[go_sem] theorem jzD(t t':TypeId)(a x:Operand):vc P ev H ty K (.call ⟨.builtin .append,#[a,x],#[t,t']⟩)=pT P t t' (ev a) (ev x) H K:=by simp[vc]
@[go_sem] theorem j53(as:Array Operand)(ts:Array TypeId):vc P ev H ty K (.call ⟨.builtin .copy,as,ts⟩)=sy P .copy ts.toList (as.toList.map ev) H K:=by simp[vc,dh]
end
section
variable {P:Program}{F:List AV}{H:Hp}{g:Bool}{K:AV->Prop}
@[go_sem] theorem j6c(c a b:Operand):eQ P F H g K (.pick c a b)=((g=true->(lR (cc F c)).1=true/\(nG (bS F c) (cc F a) (cc F b)).1)/\K (.gd g (nG (bS F c) (cc F a) (cc F b)).2)):=(rfl)
@[go_sem] theorem jzH(x:Operand):eQ P F H g K (.nilCheck x)=((g=true->gv F (.nilCheck x)=true/\(ra (bS F x)).1)/\K (.gd g (ra (bS F x)).2)):=by simp[eQ,iB,dh,vq]
@[go_sem] theorem j6d(op:UnOp)(t:TypeId)(x:Operand):eQ P F H g K (.unOp op t x)=((g=true->gv F (.unOp op t x)=true/\(sk op (bS F x)).1)/\K (.gd g (sk op (bS F x)).2)):=by simp[eQ,iB,dh,vq]
@[go_sem] theorem j6a(t:TypeId)(x:Operand):eQ P F H g K (.load t x)=((g=true->gv F (.load t x)=true/\(oO P H t (bS F x)).1)/\K (.gd g (oO P H t (bS F x)).2)):=by simp[eQ,iB,dh,vq]
@[go_sem] theorem jxc(t:TypeId)(x:Operand)(f:Nat):eQ P F H g K (.fieldAddr t x f)=((g=true->gv F (.fieldAddr t x f)=true/\(sJ P t (bS F x) f).1)/\K (.gd g (sJ P t (bS F x) f).2)):=by simp[eQ,iB,dh,vq]
@[go_sem] theorem jxd(t:TypeId)(x i:Operand):eQ P F H g K (.indexAddr t x i)=((g=true->gv F (.indexAddr t x i)=true/\(rT P t (bS F x) (bS F i)).1)/\K (.gd g (rT P t (bS F x) (bS F i)).2)):=by simp[eQ,iB,dh,vq]
@[go_sem] theorem j4F(t:TypeId)(x i:Operand):eQ P F H g K (.index t x i)=((g=true->gv F (.index t x i)=true/\(rX P t (bS F x) (bS F i)).1)/\K (.gd g (rX P t (bS F x) (bS F i)).2)):=by simp[eQ,iB,dh,vq]
@[go_sem] theorem j4G(t:TypeId)(a:Operand)(lo hi mx:Option Operand):eQ P F H g K (.slice t a lo hi mx)=((g=true->gv F (.slice t a lo hi mx)=true/\(sC P t (bS F a) (lo.map (bS F)) (hi.map (bS F)) (mx.map (bS F))).1)/\K (.gd g (sC P t (bS F a) (lo.map (bS F)) (hi.map (bS F)) (mx.map (bS F))).2)):=by simp[eQ,iB,dh,vq]
@[go_sem] theorem j4E(t:TypeId)(ps:Array (Nat×Operand)):eQ P F H g K (.build t ps)=((g=true->gv F (.build t ps)=true/\(sO P t (ps.toList.map fun p=>(p.1,bS F p.2))).1)/\K (.gd g (sO P t (ps.toList.map fun p=>(p.1,bS F p.2))).2)):=by simp[eQ,iB,dh,vq]
@[go_sem] theorem j9g(as:Array Operand)(ts:Array TypeId):eQ P F H g K (.call ⟨.builtin .len,as,ts⟩)=((g=true->gv F (.call ⟨.builtin .len,as,ts⟩)=true/\(ng P H .len ts.toList (as.toList.map (bS F))).1)/\K (.gd g (ng P H .len ts.toList (as.toList.map (bS F))).2)):=by simp[eQ,iB,dh,vq]
@[go_sem] theorem j9c(t:TypeId)(x y:Operand)(t':TypeId):eQ P F H g K (.binOp .add t x y t')=((g=true->gv F (.binOp .add t x y t')=true/\(fD P .add t (bS F x) (bS F y)).1)/\K (.gd g (fD P .add t (bS F x) (bS F y)).2)):=by simp[eQ,iB,dh,vq]
@[go_sem] theorem j9i(t:TypeId)(x y:Operand)(t':TypeId):eQ P F H g K (.binOp .lss t x y t')=((g=true->gv F (.binOp .lss t x y t')=true/\(fD P .lss t (bS F x) (bS F y)).1)/\K (.gd g (fD P .lss t (bS F x) (bS F y)).2)):=by simp[eQ,iB,dh,vq]
@[go_sem] theorem j9h(t:TypeId)(x y:Operand)(t':TypeId):eQ P F H g K (.binOp .leq t x y t')=((g=true->gv F (.binOp .leq t x y t')=true/\(fD P .leq t (bS F x) (bS F y)).1)/\K (.gd g (fD P .leq t (bS F x) (bS F y)).2)):=by simp[eQ,iB,dh,vq]
@[go_sem] theorem j9f(t:TypeId)(x y:Operand)(t':TypeId):eQ P F H g K (.binOp .gtr t x y t')=((g=true->gv F (.binOp .gtr t x y t')=true/\(fD P .gtr t (bS F x) (bS F y)).1)/\K (.gd g (fD P .gtr t (bS F x) (bS F y)).2)):=by simp[eQ,iB,dh,vq]
@[go_sem] theorem j9e(t:TypeId)(x y:Operand)(t':TypeId):eQ P F H g K (.binOp .geq t x y t')=((g=true->gv F (.binOp .geq t x y t')=true/\(fD P .geq t (bS F x) (bS F y)).1)/\K (.gd g (fD P .geq t (bS F x) (bS F y)).2)):=by simp[eQ,iB,dh,vq]
@[go_sem] theorem j6b(x:Operand):eQ P F H g K (.move x)=((g=true->gv F (.move x)=true)/\K (.gd g (bS F x))):=by simp[eQ,iB,dh,vq]
@[go_sem] theorem j9d(t:TypeId)(x y:Operand)(t':TypeId):eQ P F H g K (.binOp .eql t x y t')=((g=true->gv F (.binOp .eql t x y t')=true/\(fD P .eql t (bS F x) (bS F y)).1)/\K (.gd g (fD P .eql t (bS F x) (bS F y)).2)):=by simp[eQ,iB,vq]
@[go_sem] theorem j9j(t:TypeId)(x y:Operand)(t':TypeId):eQ P F H g K (.binOp .neq t x y t')=((g=true->gv F (.binOp .neq t x y t')=true/\(fD P .neq t (bS F x) (bS F y)).1)/\K (.gd g (fD P .neq t (bS F x) (bS F y)).2)):=by simp[eQ,iB,vq]
@[go_sem] theorem j59(f:Operand)(as:Array Operand)(ts:Array TypeId):eQ P F H g K (.call ⟨.value f,as,ts⟩)=∃r,(g=true->gv F (.call ⟨.value f,as,ts⟩)=true/\fI P (bS F f) (as.toList.map (bS F)) H fun r' H'=>r'=r/\H'=H)/\K (.gd g r):=(rfl)
@[go_sem] theorem j4V(t:Tmp):cc F (.tmp t)=F.getD t .any:=(rfl)
@[go_sem] theorem j1z(v:Value):cc F (.const v)=.raw v:=(rfl)
@[go_sem] theorem j3h(f:FuncId):cc F (.func f)=.raw (.func (.func f) #[] #[]):=(rfl)
@[go_sem] theorem j2p(d:Tmp)(a:AV):cA F (some d) a=F.set d a:=(rfl)
@[go_sem] theorem j2o(a:AV):cA F none a=F:=(rfl)
end
attribute [go_sem] bS gv lR mq k9 iB dh nG ra yo xL wU fD sk oO ph sJ vA yC rT rX u7 rk sC Im vm yJ uo tN yW xz ng qH sO vE p9 nq j8
attribute [go_sem] da Op.operands Call.operands vO
section
@[go_sem] theorem j05(cs:List AV):(AV.agg cs).cells=cs:=(rfl)
@[go_sem] theorem j06(k:IntKind)(n:Int):(AV.raw (.int k n)).cells=[.raw (.int k n)]:=(rfl)
@[go_sem] theorem jwq(s:ByteArray):(AV.raw (.string s)).cells=[.raw (.string s)]:=(rfl)
@[go_sem] theorem jxx(a:Option Addr)(n c:Nat):(AV.raw (.slice a n c)).cells=[.raw (.slice a n c)]:=(rfl)
@[go_sem] theorem j3c(x:Bool)(sz:Nat)(css:List (List AV))(d:List AV):(AV.sl x sz css d).cells=[.sl x sz css d]:=(rfl)
@[go_sem] theorem j3a(i m k j:Nat):(AV.pt i m k j).cells=[.pt i m k j]:=(rfl)
@[go_sem] theorem j3b(i m k j:Nat):(AV.rs i m k j).cells=[.rs i m k j]:=(rfl)
@[go_sem] theorem j5J(k:IntKind)(n:Int):(AV.raw (.int k n)).one=true:=(rfl)
@[go_sem] theorem j0s(s:ByteArray):(AV.raw (.string s)).one=true:=(rfl)
@[go_sem] theorem j2l(a:Option Addr)(n c:Nat):(AV.raw (.slice a n c)).one=true:=(rfl)
@[go_sem] theorem j8v(x:Bool)(sz:Nat)(css:List (List AV))(d:List AV):(AV.sl x sz css d).one=true:=(rfl)
@[go_sem] theorem j8t(i m k j:Nat):(AV.pt i m k j).one=true:=(rfl)
@[go_sem] theorem j8u(i m k j:Nat):(AV.rs i m k j).one=true:=(rfl)
end
attribute [go_sem] Hp.get Hp.put av br xP gZ entry ids tj Bs wS room ze CI mj
attribute [go_sem] AV.all aW dY AV.flat uW pX sQ fits fresh gJ eu fF FP GZ bX
@[go_sem] theorem j1G(sz:Nat):lA sz []=True:=by simp[JG]
@[go_sem] theorem j0i(sz:Nat)(cs:List AV)(css:List (List AV)):lA sz (cs::css)=((cs.length=sz/\da cs=true)/\lA sz css):=by simp[lA]
@[go_sem] theorem j1F(enc:α->List AV)(sz:Nat)[bG enc sz](l:List α):lA sz (l.map enc)=True:=by simp[Hk]
@[go_sem] theorem j5M(q:Nat->Bool):QL q []=True:=by simp[Iv]
@[go_sem] theorem j4i(q:Nat->Bool)(cs:List AV)(css:List (List AV)):QL q (cs::css)=(aW q cs=true/\QL q css):=by simp[QL]
@[go_sem] theorem j0u(q:Nat->Bool)(a b:List (List AV)):QL q (a++b)=(QL q a/\QL q b):=by apply propext;exact⟨fun h=>⟨fun c hc=>h c (List.mem_append_left _ hc),fun c hc=>h c (List.mem_append_right _ hc)⟩,fun h=>NV h.1 h.2⟩
variable{sz:Nat}
@[go_sem] theorem j5L(q:Nat->Bool)(enc:α->List AV)[bG enc sz](l:List α):QL q (l.map enc)=True:=by simp[lJ]
@[go_sem] theorem j1D[Inhabited α](enc:α->List AV)(l:List α)(k:Nat)(h:k<l.length):(l.map enc).getD k []=enc (nth l k):=by simp[nth,h]
@[go_sem] theorem j0h[Inhabited α](enc:α->List AV)(l:List α)(k:Nat):(l.map enc).getD k (enc default)=enc (nth l k):=by unfold nth;rcases Nat.lt_or_ge k l.length with h|h<;>simp[h]
@[go_sem] theorem j19(enc:α->List AV)(l:List α)(k:Nat):(l.map enc).take k=(l.take k).map enc:=jE
@[go_sem] theorem j2I(l:List α):l.take l.length=l:=jE
@[go_sem] theorem jyA(f:α->β)(l:List α):(l.map f).length=l.length:=jE
@[go_sem] theorem jt6(a b:List α):(a++b).length=a.length+b.length:=jE
@[go_sem] theorem jyH(f:α->β)(a b:List α):(a++b).map f=a.map f++b.map f:=jE
@[go_sem] theorem juG(i:Nat):([]:List Nat).contains i=false:=(rfl)
@[go_sem] theorem jt2(i j:Nat)(l:List Nat):(j::l).contains i=(i == j || l.contains i):=List.contains_cons
@[go_sem] theorem jy9(e e':TypeId)(sz sz':Nat)(a b:List (List AV)):(Row.aL e sz a=Row.aL e' sz' b)=(e=e'/\sz=sz'/\a=b):=jE
@[go_sem] theorem jy8(e e':TypeId)(a b:List AV):(Row.var e a=Row.var e' b)=(e=e'/\a=b):=jE
attribute [go_sem] List.getD_cons_zero List.getD_cons_succ List.getD_nil List.set_cons_zero List.set_cons_succ List.set_nil List.map_nil List.map_cons List.getElem?_cons_zero List.getElem?_cons_succ List.getElem?_nil List.getElem?_toArray List.all_nil List.all_cons List.append_nil List.nil_append List.cons_append List.length_cons List.length_nil List.take_succ_cons List.take_zero List.take_nil List.drop_succ_cons List.drop_zero List.drop_nil List.flatten_nil List.flatten_cons
theorem QC(b:Bool):(b == true)=b:=by cases b<;>rfl
theorem QH(b:Bool):(b == false)=!b:=by cases b<;>rfl
attribute [go_sem] if_true if_false true_and and_true false_and and_false Option.map_some Option.map_none Option.getD_some Option.getD_none Option.bind_some Option.bind_none Option.isSome_some Option.isNone_some Option.isNone_none Option.some.injEq Bool.and_true Bool.true_and Bool.and_self Bool.not_true Bool.not_false QC QH Bool.false_eq_true Bool.true_eq_false reduceCtorEq imp_self implies_true forall_const or_true true_or or_self or_false false_or not_true_eq_false not_false_eq_true eq_self ne_eq and_self List.foldl_cons List.foldl_nil Bool.not_eq_true' Bool.or_true Bool.or_false Bool.true_or Bool.false_or decide_true decide_false Nat.zero_add Nat.add_zero Nat.le_refl Int.toNat_natCast
@[go_sem] theorem jzQ(c x:Bool):wW c x false=(c && x):=by cases c<;>rfl
@[go_sem] theorem j02(c y:Bool):wW c true y=(c || y):=by cases c<;>rfl
@[go_sem] theorem j0M(b:Bool):(false ^^ b)=b:=by cases b<;>rfl
@[go_sem] theorem j26(b:Bool):(true ^^ b)=!b:=by cases b<;>rfl
@[go_sem] theorem jt1(id id':Nat)(Q:Exit->List AV->Hp->Prop)(F:List AV)(H:Hp):sq id Q (.exit id') F H=if id'=id then Q .normal F H else Q (.exit id') F H:=(rfl)
def mm(J:List (Nat×AV))(F:List AV):List AV:=J.foldl (fun F p=>F.set p.1 p.2) F
attribute [go_sem] mm lS Ga List.replicate_succ List.replicate_zero
def Next(n:Nat){S:Type}(W:List (Nat×Nat))(ok:S->Prop)(J:S->List (Nat×AV))(G:S->Hp)(μ:S->Nat)(F₀ F:List AV)(H:Hp):Prop:=∃s,μ s<n/\dq F H (mm (J s) (lS W F₀)) (G s)/\ok s
variable{n:Nat}{W:List (Nat×Nat)}{F₀:List AV}
theorem fw{S:Type}{ok:S->Prop}{J:S->List (Nat×AV)}{G:S->Hp}{μ:S->Nat}(s:S)(h1:ok s)(h2:μ s<n)(h4:H=G s)(h3:jR F (mm (J s) (lS W F₀))):Next n W ok J G μ F₀ F H:=⟨s,h2,by rw[<-h4];exact dq.pt H h3,h1⟩
theorem AD{S:Type}{ok:S->Prop}{J:S->List (Nat×AV)}{G:S->Hp}{μ:S->Nat}(D:Nat->Bool)(s:S)(h1:ok s)(h2:μ s<n)(hB:H.B.all (fF D)=true)(hl:gJ D H.l)(h4:⟨H.B,eu D H.l⟩=G s)(h3:bX D H F (mm (J s) (lS W F₀))):Next n W ok J G μ F₀ F H:=⟨s,h2,by rw[<-h4];exact dq.free D hB hl h3,h1⟩
theorem fi{c:Code}{Q:Exit->List AV->Hp->Prop}{S:Type}(W:List (Nat×Nat))(ok:S->Prop)(J:S->List (Nat×AV))(G:S->Hp)(μ:S->Nat)(s₀:S)(h0:ok s₀)(hle:dq F H (mm (J s₀) (lS W F)) (G s₀))
  (round:∀s,ok s->∀K:List AV->Hp->Prop,(∀F' H',Next (μ s) W ok J G μ F F' H'->K F' H')->dH P c (uj K Q) (mm (J s) (lS W F)) (G s)):dH P (.loop c) Q F H:=by
 refine Kx (S:=S) (fun s F' H'=>F'=mm (J s) (lS W F)/\H'=G s/\ok s) μ s₀ hle ⟨rfl,rfl,h0⟩ ?_;rintro s F' H' ⟨rfl,rfl,hok⟩;refine round s hok _ ?_;rintro F'' H'' ⟨s',h1,h2,h3⟩;exact⟨s',_,_,h1,h2,rfl,rfl,h3⟩
theorem fj{F':List AV}{H':Hp}(h1:H=H')(h2:jR F F'):dq F H F' H':=by rw[<-h1];exact dq.pt H h2
theorem rE{out:List AV}{e:Exit}(he:e=.normal\/e=.ret)(ho:jg P H F fn.results.toList=some out)(hok:j3 P H F fn.results.toList)(r:AV)(H':Hp)(hle:hZ (jU out) H r H')(hR:R r H'.l):kX P fn R e F H:=by rcases he with rfl|rfl<;>exact⟨out,r,H',ho,hok,hle,hR⟩
variable{t:TypeId}{K:AV->Hp->Prop}{zs:List Value}
theorem yh(i:Nat)(hz:eT P t=some zs)(hi:H.get i=none)(h:K (.pt i 0 0 0) (H.put i (.var t (zs.map .raw)))):nP P H t K:=by unfold nP;rw[hz];exact⟨i,hi,h⟩
theorem yk{x:AV}(i:Nat)(ho:da x.cells=true)(hi:H.get i=none)(h:K (.pt i 0 0 0) (H.put i (.var t x.cells))):rm H t x K:=⟨ho,i,hi,h⟩
theorem QY{A:Nat->Prop}{d:gb A}(i:Nat)(hi:H.get i=none)(h:A i):rR H A d:=⟨i,hi,h⟩
def yH:List (Nat×Row)->Nat->Nat
 |[],m=>m
 |(i,_)::l,m=>yH l (if m<=i then i+1 else m)
def nx(l:List (Nat×Row)):Nat:=yH l 0
theorem DM:∀(l:List (Nat×Row)) (m i:Nat),yH l m<=i->av l i=none/\m<=i
 |[],m,i,h=>⟨rfl,h⟩
 |(j,r)::l,m,i,h=>by
  obtain⟨h1,h2⟩:=DM l _ i h;simp only[av];split at h2
  ·rw[jN];exact⟨h1,jB⟩
  ·rw[jN];exact⟨h1,h2⟩
theorem yA(l:List (Nat×Row))(i:Nat)(h:nx l<=i):av l i=none:=(DM l 0 i h).1
attribute [go_sem] yH
attribute [go_sem] nx
@[go_sem] theorem jyS:(none:Option Operand).toArray.toList=[]:=(rfl)
@[go_sem] theorem jyT(x:Operand):(some x).toArray.toList=[x]:=(rfl)
theorem J2{A:Nat->Prop}{d:gb A}(h:A (nx H.l)):rR H A d:=⟨_,yA _ _ jl,h⟩
theorem K7(hz:eT P t=some zs)(h:K (.pt (nx H.l) 0 0 0) (H.put (nx H.l) (.var t (zs.map .raw)))):nP P H t K:=yh _ hz (yA _ _ jl) h
theorem J7{x:AV}(ho:da x.cells=true)(h:K (.pt (nx H.l) 0 0 0) (H.put (nx H.l) (.var t x.cells))):rm H t x K:=yk _ ho (yA _ _ jl) h
variable{css:List (List AV)}
theorem LD{e:TypeId}(h1:aW dY css.flatten=true)(h2:K (.sl true sz css []) H):qC e sz css H K:=.inl ⟨h1,h2⟩
theorem B1{e:TypeId}(i:Nat)(h0:0<sz)(hi:H.get i=none)(h2:K (.rs i css.length sz css.length) (H.put i (.aL e sz css))):qC e sz css H K:=.inr ⟨h0,i,hi,h2⟩
theorem Om{e:TypeId}(h0:0<sz)(h2:K (.rs (nx H.l) css.length sz css.length) (H.put (nx H.l) (.aL e sz css))):qC e sz css H K:=B1 _ h0 (yA _ _ jl) h2
theorem Jt{e:TypeId}(h0:0<sz)(h2:K (.rs (nx H.l) 0 sz 0) (H.put (nx H.l) (.aL e sz []))):qC e sz [] H K:=Om h0 h2
def gB(a a':AV):Prop:=∀(w:NW) v,aw w a v->aw w a' v
theorem gB.refl(a:AV):gB a a:=fun _ _ h=>h
theorem gB.sl{x:Bool}{sz:Nat}{css:List (List AV)}{d d':List AV}:gB (.sl x sz css d) (.sl false sz css d'):=fun w v hr=>by
 cases hr with
 |gm _ _ A c _=>exact .gm _ _ _ _ (fun e=>by cases e)
 |sl _ _ _ a c vs hn hc hx hsz hb hH hcell hr=>exact .sl _ _ _ a c vs hn hc (fun e=>by cases e) hsz hb hH hcell hr
theorem gB.nil{d:List AV}:gB (.raw (.slice none 0 0)) (.sl false sz [] d):=fun w v hr=>by have:=dm hr;subst this;exact .gm _ _ _ _ (fun e=>by cases e)
def py:List AV->List AV->Prop
 |[],[]=>True
 |a::l,b::m=>gB a b/\py l m
 |_,_=>False
theorem py.get:∀{l m:List AV},py l m->l.length=m.length/\∀(i:Nat) a b,l[i]?=some a->m[i]?=some b->gB a b
 |[],[],_=>⟨rfl,fun i a b h=>by simp at h⟩
 |x::l,y::m,h=>by
  have ih:=py.get h.2;refine⟨by simp[ih.1],fun i a b ha hb=>?_⟩;cases i with
  |zero=>simp at ha hb;subst ha hb;exact h.1
  |succ i=>exact ih.2 i a b (by simpa using ha) (by simpa using hb)
attribute [go_sem] jU
@[go_sem] theorem j0g(l:List AV)(n m:Nat):(l.drop n).getD m .any=l.getD (n+m) .any:=by simp[List.getD_eq_getElem?_getD]
attribute [go_sem] List.drop_drop List.length_drop Array.toList_append
theorem MX{out:List AV}{e:Exit}(he:e=.normal\/e=.ret)(ho:jg P H F fn.results.toList=some out)(hok:j3 P H F fn.results.toList)(h1:jU out=r)(h2:H.l=l):kX P fn (fun r' l'=>r'=r/\l'=l) e F H:=
 rE he ho hok r H (hZ.of_eq H h1) ⟨rfl,h2⟩
theorem L6{out:List AV}{e:Exit}(D:Nat->Bool)(he:e=.normal\/e=.ret)(ho:jg P H F fn.results.toList=some out)(hok:j3 P H F fn.results.toList)(hB:H.B.all (fF D)=true)(hl:gJ D H.l)(hv:dv D H (jU out) r)(h2:eu D H.l=l):kX P fn (fun r' l'=>r'=r/\l'=l) e F H:=
 rE he ho hok r _ (hZ.free D hB hl hv) ⟨rfl,h2⟩
theorem yF{D:Nat->Bool}{a a':AV}(h:a=a')(hq:a.all (fF D)=true):dv D H a a':=by subst h;exact .same _ hq
def mH(B:List Nat):Nat->Bool:=fun i=>!(B.contains i)
theorem Q3{out:List AV}{e:Exit}(he:e=.normal\/e=.ret)(ho:jg P H F fn.results.toList=some out)(hok:j3 P H F fn.results.toList)(hl:gJ (mH H.B) H.l)(hv:dv (mH H.B) H (jU out) r)(h2:eu (mH H.B) H.l=l):kX P fn (fun r' l'=>r'=r/\l'=l) e F H:=
 L6 (mH H.B) he ho hok (by rw[List.all_eq_true];intro x hx;simp[fF,mH,hx]) hl hv h2
attribute [go_sem] jg j3
theorem Gk{out:List AV}{e:Exit}(rs:List ResultVar)(hrs:fn.results.toList=rs)(he:e=.normal\/e=.ret)(ho:jg P H F rs=some out)(hok:j3 P H F rs)(hl:gJ (mH H.B) H.l)(hv:dv (mH H.B) H (jU out) r)(h2:eu (mH H.B) H.l=l):kX P fn (fun r' l'=>r'=r/\l'=l) e F H:=by subst hrs;exact Q3 he ho hok hl hv h2
theorem N3{out:List AV}{e:Exit}(rs:List ResultVar)(hrs:fn.results.toList=rs)(he:e=.normal\/e=.ret)(ho:jg P H F rs=some out)(hok:j3 P H F rs)(h1:jU out=r)(h2:H.l=l):kX P fn (fun r' l'=>r'=r/\l'=l) e F H:=by subst hrs;exact MX he ho hok h1 h2
attribute [go_sem] mH cond_true cond_false tz
theorem zp{S:Type}{ok:S->Prop}{J:S->List (Nat×AV)}{G:S->Hp}{μ:S->Nat}(L:List Nat)(s:S)(h1:ok s)(h2:μ s<n)(hB:H.B.all (fF fun i=>L.contains i)=true)(hl:gJ (fun i=>L.contains i) H.l)(h4:⟨H.B,eu (fun i=>L.contains i) H.l⟩=G s)(h3:bX (fun i=>L.contains i) H F (mm (J s) (lS W F₀))):Next n W ok J G μ F₀ F H:=AD _ s h1 h2 hB hl h4 h3
theorem Ft{D:Nat->Bool}(a:AV):dv D H a .any:=.drop a
@[go_sem] theorem jzu(i:Nat)(e:TypeId)(m sz:Nat)(css ys:List (List AV))(H:Hp)(K:AV->Hp->Prop):te i e m sz m css ys H K=K (.rs i (m+ys.length) sz (m+ys.length)) (H.put i (.aL e sz (css++ys))):=if_pos rfl
theorem Rj{enc:α->List AV}(vars more ys:List α){e:TypeId}{m:Nat}{yss:List (List AV)}(hm:m=vars.length+more.length)(hn:n=vars.length)(hc:css=(vars++more).map enc)(hy:yss=ys.map enc)
  (h:K (.rs i (vars.length+ys.length+(more.drop ys.length).length) sz (vars.length+ys.length)) (H.put i (.aL e sz ((vars++ys++more.drop ys.length).map enc)))):te i e m sz n css yss H K:=by
 subst hm hn hc hy;unfold te;split
 ·rename_i h';have:more=[]:=List.length_eq_zero_iff.1 jB;subst this;simpa using h
 ·have e1:max (vars.length+more.length) (vars.length+(ys.map enc).length)=vars.length+ys.length+(more.drop ys.length).length:=by simp;omega
  have e2:iD ((vars++more).map enc) vars.length (ys.map enc)=(vars++ys++more.drop ys.length).map enc:=by
   unfold iD;rw[<-List.map_take,List.take_left',<-List.map_drop,List.length_map,List.drop_append,List.drop_eq_nil_of_le jB,List.nil_append]
   ·simp
   ·rfl
  rw[e1,e2];simpa using h
theorem NT{b c:Bool}(h:b=c):AV.raw (.bool b)=AV.raw (.bool c):=by rw[h]
theorem O9{k:IntKind}{b c:Int}(h:b=c):AV.raw (.int k b)=AV.raw (.int k c):=by rw[h]
section
variable {P:Program}{ops:Array Oper}{H:Hp}
def dF(ops:Array Oper)(o:Oper)(F G:List AV):Prop:=(∀x∈o.op.operands.toList,cc G x=cc F x)/\∀j b,o.guard=some (j,b)->mq ops G j b=mq ops F j b
def QV(P:Program)(ops:Array Oper)(o:Oper)(F:List AV)(H:Hp)(r:AV):Prop:=∀G,dF ops o F G->lZ P ops o G H fun F' H'=>F'=cA G o.dst r/\H'=H
variable{K:AV->Hp->Prop}
theorem BF{f:AV}{args:List AV}{K':AV->Hp->Prop}(h:fI P f args H K)(hk:∀r H,K r H->K' r H):fI P f args H K':=by
 unfold fI at*;split at h
 ·rcases h with h|h
  ·exact .inl ⟨h.1,h.2.mono hk⟩
  ·exact .inr fun w vs h1 h2=>by obtain⟨v,w',r,H',e,k,g⟩:=h w vs h1 h2;exact⟨v,w',r,H',e,hk _ _ k,g⟩
 ·exact h.elim
def oN(P:Program)(t:TypeId)(n:Nat)(parts:List (Nat×AV))(K:AV->Prop):Prop:=match iH P t with
 |some e=>match dc P e with
  |some sz=>((parts.length=n/\vO sz 0 parts/\n*sz<=16777216/\(n*sz=0\/(eT P e).isSome=true))/\aW dY (mj parts).flatten=true)/\K (.sl true sz (mj parts) [])
  |none=>False
 |none=>False
variable{t:TypeId}{n:Nat}{parts:List (Nat×AV)}
theorem Np(h:oN P t n parts fun r=>K r H):nq P H t n parts K:=by
 unfold oN at h;unfold nq;split at h
 ·rename_i e he;split at h
  ·rename_i sz hs;rw[he];simp only[hs];exact⟨h.1.1,.inl ⟨h.1.2,h.2⟩⟩
  ·exact h.elim
 ·exact h.elim
variable{K:AV->Prop}
theorem AU(h:oN P t n parts K):∃r,K r/\∀K':AV->Prop,K' r->oN P t n parts K':=by
 unfold oN at h;split at h
 ·rename_i e he;split at h
  ·rename_i sz hs;exact⟨_,h.2,fun K' hk=>by unfold oN;rw[he];simp only[hs];exact⟨h.1,hk⟩⟩
  ·exact h.elim
 ·exact h.elim
def nX:Op->Bool
 |.binOp .eql ..=>true
 |.binOp .neq ..=>true
 |_=>false
variable{o:Oper}{F:List AV}
theorem OQ{K:List AV->Hp->Prop}(hg:o.guard=none)(hq:(vq P (cc F) H o.op).1)(hk:K (cA F o.dst (vq P (cc F) H o.op).2) H):lZ P ops o F H K:=
 Oz hg (KP (K:=fun r H'=>K (cA F o.dst r) H') hq hk)
theorem uz(hg:o.guard=none)(hq:(vq P (cc F) H o.op).1):QV P ops o F H (vq P (cc F) H o.op).2:=fun G hG=>by have e:vq P (cc G) H o.op=vq P (cc F) H o.op:=tv _ hG.1;exact OQ hg (by rw[e];exact hq) ⟨by rw[e],rfl⟩
variable{dst:Option Tmp}{after:Array Edge}
theorem En{f:Operand}{args:Array Operand}{ts:Array TypeId}{ty:TypeId}{pos:String}{r:AV}(h:fI P (cc F f) (args.toList.map (cc F)) H fun r' H'=>r'=r/\H'=H) :
  QV P ops ⟨dst,.call ⟨.value f,args,ts⟩,ty,pos,after,none⟩ F H r:=fun G hG=>by
 refine oP (K:=fun F' H'=>F'=cA G dst r/\H'=H) rfl ?_;show fI P (cc G f) (args.toList.map (cc G)) H _;rw[hG.1 f (by simp[Op.operands,Call.operands]),List.map_congr_left (g:=cc F) (fun x hx=>hG.1 x (by simp[Op.operands,Call.operands]at hx ⊢;exact .inr hx))];exact BF h fun r' H' ⟨e1,e2⟩=>⟨by rw[e1],e2⟩
theorem BA{parts:Array (Nat×Operand)}{ty:TypeId}{pos:String}{r:AV}(h:oN P t n (parts.toList.map fun p=>(p.1,cc F p.2)) fun r'=>r'=r) :
  QV P ops ⟨dst,.buildSlice t n parts,ty,pos,after,none⟩ F H r:=fun G hG=>by
 refine oP (K:=fun F' H'=>F'=cA G dst r/\H'=H) rfl ?_;show nq P H t n (parts.toList.map fun p=>(p.1,cc G p.2)) (fun r_1 H'=>cA G dst r_1=cA G dst r/\H'=H);rw[List.map_congr_left (g:=fun p=>(p.1,cc F p.2)) (fun x hx=>by rw[hG.1 x.2 (by simp[Op.operands]at hx ⊢;exact⟨_,hx⟩)])];refine Np ?_;obtain⟨r',e,hk⟩:=AU h;subst e;exact hk _ ⟨rfl,rfl⟩
variable{G:List AV}
theorem Iq(o:Op)(h:∀x∈o.operands.toList,cc G x=cc F x):gv G o=gv F o:=by unfold gv;rw[Bool.eq_iff_iff,List.all_eq_true,List.all_eq_true];constructor<;>intro hh x hx<;>have:=hh x hx<;>rw[h x hx]at*<;>exact this
def vV:Op->Bool
 |.pick ..=>true
 |_=>false
theorem zl{g:Bool}(o:Op)(h:k9 o=false)(hp:vV o=false):eQ P F H g K o=if iB o then(g=true->gv F o=true/\(vq P (bS F) H o).1)/\K (.gd g (vq P (bS F) H o).2)else False:=by
 cases o
 case call c=>
  obtain⟨callee,args,ts⟩:=c;cases callee
  case value f=>cases h
  all_goals rfl
 case pick=>cases hp
 all_goals rfl
theorem Bg{g:Bool}{o:Op}(h:eQ P F H g K o):∃r,K (.gd g r)/\∀(G:List AV) (K':AV->Prop),(∀x∈o.operands.toList,cc G x=cc F x)->K' (.gd g r)->eQ P G H g K' o:=by
 cases hc:k9 o with
 |false=>
  by_cases hp:vV o=true
  ·cases o<;>try cases hp
   rename_i c a b;refine⟨_,h.2,fun G K' hG hk=>?_⟩;have he:∀x∈(Op.pick c a b).operands.toList,bS G x=bS F x:=fun x hx=>by unfold bS;rw[hG x hx]
   show(g=true->(lR (cc G c)).1=true/\(nG (bS G c) (cc G a) (cc G b)).1)/\K' (.gd g (nG (bS G c) (cc G a) (cc G b)).2);rw[hG c (by simp[Op.operands]),hG a (by simp[Op.operands]),hG b (by simp[Op.operands]),he c (by simp[Op.operands])];exact⟨h.1,hk⟩
  have hp:vV o=false:=by simpa using hp
  rw[zl o hc hp]at h;split at h
  ·rename_i hq;refine⟨_,h.2,fun G K' hG hk=>?_⟩;have he:∀x∈o.operands.toList,bS G x=bS F x:=fun x hx=>by unfold bS;rw[hG x hx]
   rw[zl o hc hp,if_pos hq,tv _ he,Iq o hG];exact⟨h.1,hk⟩
  ·exact h.elim
 |true=>
  cases o<;>try cases hc
  rename_i c;obtain⟨callee,args,ts⟩:=c;cases callee<;>try cases hc
  rename_i f;obtain⟨r,h1,h2⟩:=h;refine⟨r,h2,fun G K' hG hk=>⟨r,fun hg=>⟨Iq _ hG ▸ (h1 hg).1,?_⟩,hk⟩⟩;have he:∀x∈(Op.call ⟨.value f,args,ts⟩).operands.toList,bS G x=bS F x:=fun x hx=>by unfold bS;rw[hG x hx]
  rw[he f (by simp[Op.operands,Call.operands]),List.map_congr_left (g:=bS F) (fun x hx=>he x (by simp[Op.operands,Call.operands]at hx ⊢;exact .inr hx))];exact(h1 hg).2
theorem As{j:Nat}{want b:Bool}{r:AV}(hg:o.guard=some (j,want))(hb:mq ops F j want=some b)(hq:(k9 o.op || iB o.op)=true)(h:eQ P F H b (fun r'=>r'=r) o.op):QV P ops o F H r:=fun G hG=>by
 have hv:iC P ops (fun F' H'=>F'=cA G o.dst r/\H'=H) [o] G H:=by simp only[iC,hg,hG.2 j want hg,hb,hq,if_true];obtain⟨r',h1,h2⟩:=Bg h;exact h2 G _ hG.1 ⟨by rw[h1],trivial⟩
 have hs:=xm [o] G H hv;intro w tm Q next h1 h2 hn;have:=hs w tm (fun e a w=>match e with|.normal=>next a w|e=>Q e a w) h1 h2 hn;simp only[wpList]at this;unfold rh;split
 ·rename_i hw;rw[if_pos hw]at this;rcases this with h|⟨ha,hl⟩
  ·refine .inl ?_;unfold Oper.wp at*;generalize (execOp (Act.mk tm []).eval o).run P w=res at*;cases res with
   |ok n w'=>
    cases n<;>simp only[Oper.upon]at h ⊢
    case enter f args=>exact Calls.mono h fun e w'' he=>by cases e<;>exact he
    all_goals exact h
   |halt x w'=>cases x<;>simp only[Oper.upon]at h ⊢;exact h
  ·exact .inr ⟨ha,hl⟩
 ·rename_i hw;rw[if_neg hw]at this;exact this
def p6(P:Program)(ops:Array Oper)(H:Hp)(K:List AV->Prop):List Oper->List AV->Prop
 |[],F=>K F
 |o::rest,F=>match o.guard with
  |none=>match o.op with
   |.call { callee:=.value f,args,.. }=>∃r,(fI P (cc F f) (args.toList.map (cc F)) H fun r' H'=>r'=r/\H'=H)/\p6 P ops H K rest (cA F o.dst r)
   |.buildSlice t n parts=>oN P t n (parts.toList.map fun p=>(p.1,cc F p.2)) fun r=>p6 P ops H K rest (cA F o.dst r)
   |op=>(vq P (cc F) H op).1/\p6 P ops H K rest (cA F o.dst (vq P (cc F) H op).2)
  |some (j,want)=>match mq ops F j want with
   |some b=>(k9 o.op || iB o.op)=true/\eQ P F H b (fun r=>p6 P ops H K rest (cA F o.dst r)) o.op
   |none=>False
def zt(P:Program)(ops:Array Oper)(H:Hp)(K:List AV->Prop):List Oper->List AV->List AV->Prop
 |[],F,rs=>rs=[]/\K F
 |o::rest,F,rs=>∃r rs',rs=r::rs'/\QV P ops o F H r/\zt P ops H K rest (cA F o.dst r) rs'
theorem HB{K:List AV->Prop}:∀(l:List Oper) (F:List AV),p6 P ops H K l F->∃rs,zt P ops H K l F rs
 |[],F,h=>⟨[],rfl,h⟩
 |o::rest,F,h=>by
  have mk:∀r,QV P ops o F H r->p6 P ops H K rest (cA F o.dst r)->∃rs,zt P ops H K (o::rest) F rs:=fun r h1 h2=>by obtain⟨rs,h3⟩:=HB rest _ h2;exact⟨r::rs,r,rs,rfl,h1,h3⟩
  obtain⟨dst,op,ty,pos,after,guard⟩:=o;cases guard with
  |none=>
   unfold p6 at h;simp only at h;split at h
   ·obtain⟨r,h1,h2⟩:=h;exact mk r (En h1) h2
   ·rename_i t n parts;obtain⟨r,h1,h2⟩:=AU h;exact mk r (BA (h2 _ rfl)) h1
   ·exact mk _ (uz rfl h.1) h.2
  |some g=>
   obtain⟨j,want⟩:=g;unfold p6 at h;simp only at h;split at h
   ·rename_i b hb;obtain⟨hq,hv⟩:=h;obtain⟨r,h1,h2⟩:=Bg hv;exact mk _ (As rfl hb hq (r:=.gd b r) (h2 F _ (fun _ _=>rfl) rfl)) h1
   ·exact h.elim
-- the order
def FL(os:List Oper)(rs:List AV)(L:Nat->Bool)(F:List AV):Nat->List AV
 |0=>F
 |m+1=>if L m then cA (FL os rs L F m) ((os[m]?).bind (·.dst)) (rs.getD m .any)else FL os rs L F m
def lL(os:List Oper)(rs:List AV)(L:Nat->Bool)(F:List AV)(s:Nat):Nat->AV
 |0=>F.getD s .any
 |m+1=>if L m=true/\(os[m]?).bind (·.dst)=some s then rs.getD m .any else lL os rs L F s m
theorem lm(os:List Oper)(rs:List AV)(L:Nat->Bool)(F:List AV):∀m,(FL os rs L F m).length=F.length
 |0=>rfl
 |m+1=>by
  unfold FL;split
  ·rw[<-lm os rs L F m];cases(os[m]?).bind (·.dst)<;>simp[cA]
  ·exact lm os rs L F m
theorem sF(os:List Oper)(rs:List AV)(L:Nat->Bool)(F:List AV){s:Nat}(hs:s<F.length):∀m,(FL os rs L F m).getD s .any=lL os rs L F s m
 |0=>rfl
 |m+1=>by
  have ih:=sF os rs L F hs m;have hl:=lm os rs L F m;unfold FL lL;cases hd:(os[m]?).bind (·.dst)with
  |none=>
   have hno:¬(L m=true/\(none:Option Tmp)=some s):=fun h=>by have:=h.2;cases this
   rw[if_neg hno];cases hL:L m
   ·exact ih
   ·exact ih
  |some d=>
   cases hL:L m
   ·simpa using ih
   ·simp only[if_true,cA,true_and,Option.some.injEq];by_cases e:d=s
    ·subst e;simp[hl,hs]
    ·rw[if_neg e];have:(List.set (FL os rs L F m) d (rs.getD m .any)).getD s .any=(FL os rs L F m).getD s .any:=by simp[List.getElem?_set,e]
     rw[this,ih]
variable{os:List Oper}
theorem D9{rs:List AV}{L L':Nat->Bool}{m m':Nat}(hG:G.length=F.length)(h:∀s,s<F.length->G.getD s .any=lL os rs L F s m):G=FL os rs L F m:=by
 refine List.ext_getElem? fun s=>?_
 rcases Nat.lt_or_ge s F.length with hs|hs
 ·have h1:=h s hs;rw[<-sF os rs L F hs m]at h1;have h2:G[s]?=some (G.getD s .any):=by simp[hG,hs]
  have h3:(FL os rs L F m)[s]?=some ((FL os rs L F m).getD s .any):=by simp[lm,hs]
  rw[h2,h3,h1]
 ·rw[List.getElem?_eq_none jB,List.getElem?_eq_none (by rw[lm];omega)]
def looks(os:List Oper)(o:Oper):List Nat:=
 (o.op.operands.toList.filterMap fun|.tmp t=>some t|_=>none)++
 (match o.guard with
   |some (g,_)=>((os[g]?).bind (·.dst)).toList
   |none=>[])
def pV:List Nat->List Nat
 |[]=>[]
 |x::l=>if(pV l).contains x then pV l else x::pV l
theorem By{x:Nat}:∀{l:List Nat},x∈pV l<->x∈l
 |[]=>Iff.rfl
 |y::l=>by
  have ih:x∈pV l<->x∈l:=By;unfold pV;split
  ·rename_i h;rw[ih,List.mem_cons];refine⟨.inr,fun h'=>h'.elim (fun e=>?_) id⟩;subst e;exact ih.1 (List.contains_iff_mem.1 h)
  ·rw[List.mem_cons,List.mem_cons,ih]
def na(acc:List (List Nat))(o:Oper):List (List Nat):=acc++[pV ((o.after.toList.filter (Region.binds .any)).flatMap fun e=>e.on::acc.getD e.on [])]
def ko(os:List Oper):List (List Nat):=os.foldl na []
def tZ(os:List Oper)(a b:Oper):Bool:=
 (match a.dst with
   |some d=>(looks os b).contains d || b.dst == some d
   |none=>false) ||
 (match b.dst with
   |some d=>(looks os a).contains d
   |none=>false)
def tU(os:List Oper):Bool:=
 let ps:=ko os
 (List.range os.length).all fun j=>match os[j]? with
  |some b=>(b.after.toList.all fun e=>!Region.binds .any e || decide (e.on<j)) &&
   (List.range j).all fun i=>match os[i]? with
    |some a=>!tZ os a b || (ps.getD j []).contains i
    |none=>true
  |none=>true
theorem Cn:∀(os:List Oper) (acc:List (List Nat)) (j:Nat),j<acc.length->(os.foldl na acc)[j]?=acc[j]?
 |[],acc,j,_=>rfl
 |o::os,acc,j,h=>by simp only[List.foldl_cons];rw[Cn os _ j (by simp[na];omega)];unfold na;rw[List.getElem?_append_left h]
theorem Fz:∀(os:List Oper) (acc:List (List Nat)) (j:Nat) (o:Oper),os[j]?=some o->(os.foldl na acc).getD (acc.length+j) []=pV ((o.after.toList.filter (Region.binds .any)).flatMap fun e=>e.on::(if e.on<acc.length+j then(os.foldl na acc).getD e.on []else[]))
 |[],acc,j,o,h=>by simp at h
 |o'::os,acc,0,o,h=>by
  simp only[List.getElem?_cons_zero,Option.some.injEq]at h;subst h;simp only[List.foldl_cons,Nat.add_zero];have h1:(os.foldl na (na acc o')).getD acc.length []=pV ((o'.after.toList.filter (Region.binds .any)).flatMap fun e=>e.on::acc.getD e.on []):=by rw[List.getD_eq_getElem?_getD,Cn os _ _ (by simp[na])];unfold na;rw[List.getElem?_append_right jl];simp
  rw[h1];congr 2
  funext e
  congr 1
  split
  ·rename_i hlt;rw[List.getD_eq_getElem?_getD,List.getD_eq_getElem?_getD,Cn os _ _ (by simp[na];omega)];unfold na;rw[List.getElem?_append_left hlt]
  ·rename_i hge;rw[List.getD_eq_getElem?_getD,List.getElem?_eq_none jB];rfl
 |o'::os,acc,j+1,o,h=>by
  simp only[List.foldl_cons];have:=Fz os (na acc o') j o (by simpa using h);have e:(na acc o').length+j=acc.length+(j+1):=by simp[na];omega
  rw[e]at this;exact this
theorem Ew{j:Nat}(h:os[j]?=some o):(ko os).getD j []=pV ((o.after.toList.filter (Region.binds .any)).flatMap fun e=>e.on::(if e.on<j then(ko os).getD e.on []else[])):=by have:=Fz os [] j o h;simp only[List.length_nil,Nat.zero_add]at this;exact this
def nB(os:List Oper)(L:Nat->Bool):Prop:=∀j o,os[j]?=some o->L j=true->∀e∈o.after.toList,Region.binds .any e=true->L e.on=true
theorem u5{L:Nat->Bool}(hc:nB os L)(hlt:∀j o,os[j]?=some o->∀e∈o.after.toList,Region.binds .any e=true->e.on<j):∀n j,j<n->∀o,os[j]?=some o->(∀e∈o.after.toList,Region.binds .any e=true->L e.on=true)->∀i∈(ko os).getD j [],L i=true:=by
 intro n;induction n with
 |zero=>intro j hj;omega
 |succ n ih=>
  intro j hj o ho hL i hi;rw[Ew ho,By]at hi;obtain⟨e,he,hi⟩:=List.mem_flatMap.1 hi;obtain⟨he1,he2⟩:=List.mem_filter.1 he;have hon:=hL e he1 he2;rcases List.mem_cons.1 hi with rfl|hi
  ·exact hon
  ·rw[if_pos (hlt j o ho e he1 he2)]at hi;have hlt':=hlt j o ho e he1 he2;have hjlen:=(List.getElem?_eq_some_iff.1 ho).1;have ho':os[e.on]?=some (os[e.on]' jB):=List.getElem?_eq_getElem jB;exact ih e.on jB _ ho' (fun e' h1 h2=>hc _ _ ho' hon e' h1 h2) i hi
theorem zN(o:Oper)(os:List Oper)(r:AV)(rs:List AV)(F:List AV):∀m,FL (o::os) (r::rs) (fun _=>true) F (m+1)=FL os rs (fun _=>true) (cA F o.dst r) m
 |0=>by simp[FL]
 |m+1=>by have ih:=zN o os r rs F m;rw[FL,if_pos rfl,ih,FL,if_pos rfl];simp
theorem FB{K:List AV->Prop}:∀(l:List Oper) (F:List AV) (rs:List AV),zt P ops H K l F rs->(∀i o,l[i]?=some o->QV P ops o (FL l rs (fun _=>true) F i) H (rs.getD i .any))/\K (FL l rs (fun _=>true) F l.length)
 |[],F,rs,h=>⟨fun i o hi=>by simp at hi,h.2⟩
 |o::l,F,rs,h=>by
  obtain⟨r,rs',rfl,h1,h2⟩:=h;obtain⟨g1,g2⟩:=FB l _ rs' h2;refine⟨fun i o' hi=>?_,by rw[List.length_cons,zN];exact g2⟩;cases i with
  |zero=> simp only[List.getElem?_cons_zero,Option.some.injEq]at hi;subst hi;exact h1
  |succ i=> rw[zN];exact g1 i o' (by simpa using hi)
theorem ve(h:tU os=true):(∀j o,os[j]?=some o->∀e∈o.after.toList,Region.binds .any e=true->e.on<j)/\
  ∀i j a b,i<j->os[i]?=some a->os[j]?=some b->tZ os a b=true->i∈(ko os).getD j []:=by
 simp only[tU,List.all_eq_true,List.mem_range]at h;constructor
 ·intro j o ho e he hb;have:=h j (List.getElem?_eq_some_iff.1 ho).1;rw[ho]at this;simp only[Bool.and_eq_true,List.all_eq_true]at this;have:=this.1 e he;simpa[hb]using this
 ·intro i j a b hij ha hb hc;have:=h j (List.getElem?_eq_some_iff.1 hb).1;rw[hb]at this;simp only[Bool.and_eq_true,List.all_eq_true,List.mem_range]at this;have:=this.2 i hij;rw[ha]at this;simp only[hc,Bool.not_true,Bool.false_or]at this;simpa using this
theorem EV{os:List Oper}{rs F:List AV}{L:Nat->Bool}{i s:Nat}(hw:∀k o,os[k]?=some o->o.dst=some s->L k=decide (k<i)):∀m,lL os rs L F s m=lL os rs (fun _=>true) F s (min m i)
 |0=>by simp[lL]
 |m+1=>by
  have ih:=EV (rs:=rs) (F:=F) hw m;rw[lL];by_cases hd:(os[m]?).bind (·.dst)=some s
  ·obtain⟨o,ho,hs⟩:=Option.bind_eq_some_iff.1 hd;have hL:=hw m o ho hs;by_cases hm:m<i
   ·rw[if_pos ⟨by rw[hL];simpa using hm,hd⟩,show min (m+1) i=m+1 from jB,lL,if_pos ⟨rfl,hd⟩]
   ·rw[if_neg (by rw[hL];simp[hm]),ih,show min (m+1) i=min m i from jB]
  ·rw[if_neg (by simp[hd]),ih];by_cases hm:m<i
   ·rw[show min (m+1) i=m+1 from jB,show min m i=m from jB,lL,if_neg (by simp[hd])]
   ·rw[show min (m+1) i=min m i from jB]
theorem BI{os:List Oper}{rs F:List AV}{L L':Nat->Bool}{i s:Nat}{o:Oper}(ho:os[i]?=some o)(hL':∀k,L' k=(L k || k == i))(hw:∀k o',os[k]?=some o'->o'.dst=some s->L k=decide (k<i))(hs:o.dst=some s):∀m,i<m->lL os rs L' F s m=rs.getD i .any
 |0,h=>by omega
 |m+1,h=>by
  rw[lL];by_cases hm:m=i
  ·subst hm;rw[if_pos ⟨by rw[hL'];simp,by rw[ho];exact hs⟩]
  ·rw[if_neg]
   ·exact BI ho hL' hw hs m jB
   ·rintro⟨h1,h2⟩;obtain⟨o',ho',hs'⟩:=Option.bind_eq_some_iff.1 h2;rw[hL',hw m o' ho' hs']at h1;simp at h1;omega
theorem CU{os:List Oper}{rs F:List AV}{L L':Nat->Bool}{i s:Nat}{o:Oper}(ho:os[i]?=some o)(hL':∀k,L' k=(L k || k == i))(hs:o.dst≠some s):∀m,lL os rs L' F s m=lL os rs L F s m
 |0=>rfl
 |m+1=>by
  have ih:=CU (rs:=rs) (F:=F) ho hL' hs m;rw[lL,lL,ih,hL'];by_cases hm:m=i
  ·subst hm;rw[ho];simp[hs]
  ·simp[hm]
theorem OF{t:Nat}(h:Operand.tmp t∈o.op.operands.toList):t∈looks os o:=
 List.mem_append_left _ (List.mem_filterMap.2 ⟨_,h,rfl⟩)
theorem Hy(hl:F.length=G.length)(h:∀s∈looks os o,s<F.length->G.getD s .any=F.getD s .any):dF os.toArray o F G:=by
 have hget:∀s∈looks os o,G[s]?=F[s]?:=fun s hs=>by
  rcases Nat.lt_or_ge s F.length with h1|h1
  ·have:=h s hs h1;have e1:G[s]?=some (G.getD s .any):=by simp[<-hl,h1]
   have e2:F[s]?=some (F.getD s .any):=by simp[h1]
   rw[e1,e2,this]
  ·rw[List.getElem?_eq_none jB,List.getElem?_eq_none h1]
 constructor
 ·intro x hx;cases x with
  |tmp t=>simp only[cc,List.getD_eq_getElem?_getD,hget t (OF hx)]
  |const v=>rfl
  |global g=>rfl
  |func f=>rfl
 ·intro j b hg;unfold mq;cases hd:(os.toArray[j]?).bind (·.dst)with
  |none=>rfl
  |some d=> simp only;rw[hget d (List.mem_append_right _ (by rw[hg];simp at hd ⊢;simpa using hd))]
variable{Q:Exit->List AV->Hp->Prop}
theorem OI{l:List Oper}{rs:List AV}(hok:tU l=true)(hqv:∀i o,l[i]?=some o->QV P l.toArray o (FL l rs (fun _=>true) F i) H (rs.getD i .any))(hK:Q .normal (FL l rs (fun _=>true) F l.length) H)(w0:NW) :
  ∀(fuel:Nat) (listed:Array Bool),listed.size=l.length->nB l (fun i=>listed.getD i false)->(List.range l.length).countP (fun i=>!listed.getD i false)=fuel->
   ∀(w:NW) tm,aO w H->bc w (FL l rs (fun i=>listed.getD i false) F l.length) tm->Ext w0 H w H->wpAny P .any l.toArray (gh Q w0 H) fuel listed ⟨tm,[]⟩ w.toWorld:=by
 obtain⟨hlt,hcl⟩:=ve hok
 -- when all are done
 have fin:∀(listed:Array Bool),(∀i,i<l.length->listed.getD i false=true)->∀(w:NW) tm,aO w H->bc w (FL l rs (fun i=>listed.getD i false) F l.length) tm->Ext w0 H w H->gh Q w0 H .normal ⟨tm,[]⟩ w.toWorld:=by
  intro listed hall w tm h1 h2 h3;have e:FL l rs (fun i=>listed.getD i false) F l.length=FL l rs (fun _=>true) F l.length:=by
   have gen:∀m,m<=l.length->FL l rs (fun i=>listed.getD i false) F m=FL l rs (fun _=>true) F m:=by
    intro m;induction m with
    |zero=>intro _;rfl
    |succ m ih=>intro hm;rw[FL,FL,ih jB,hall m jB]
   exact gen _ jl
  rw[e]at h2;exact⟨tm,_,H,w,rfl,rfl,hK,h1,h2,h3.pB⟩
 intro fuel;induction fuel with
 |zero=>
  intro listed hsz hcls hcnt w tm h1 h2 h3;have hall:∀i,i<l.length->listed.getD i false=true:=fun i hi=>by have:=(List.countP_eq_zero.1 hcnt) i (List.mem_range.2 hi);simpa using this
  refine⟨?_,fin listed hall w tm h1 h2 h3⟩;rw[List.eq_nil_iff_forall_not_mem];intro j hj;obtain⟨hj0,o,ho,_⟩:=mem_ready.1 hj;have hjl:j<l.length:=by have:=(Array.getElem?_eq_some_iff.1 ho).1;simpa using this
  have:=hall j hjl;simp[hsz,hjl]at this hj0;rw[this]at hj0;cases hj0
 |succ fuel ih=>
  intro listed hsz hcls hcnt w tm h1 h2 h3;refine⟨fun hnil=>?_,fun i hi=>?_⟩
  ·-- some operation is ready
   exfalso;have hex:∃i,i<l.length/\listed.getD i false=false:=by have hpos:0<(List.range l.length).countP (fun i=>!listed.getD i false):=jB;obtain⟨i,hi,hp⟩:=List.countP_pos_iff.1 hpos;exact⟨i,List.mem_range.1 hi,by simpa using hp⟩
   obtain⟨i,⟨hi,hf⟩,hleast⟩:=exists_least hex;have ho:l[i]?=some l[i]:=List.getElem?_eq_getElem hi;have:i∈Region.ready .any l.toArray listed:=mem_ready.2 ⟨by simp[hsz,hi]at hf ⊢;exact hf,l[i],by simp[hi],fun e he hb=>by
    have h4:=hlt i _ ho e (by simpa using he) hb;cases hv:listed.getD e.on false with
    |true=>rfl
    |false=>have:=hleast e.on ⟨jB,hv⟩;omega⟩
   rw[hnil]at this;cases this
  ·obtain⟨hi0,o,ho,hpre⟩:=mem_ready.1 hi;have ho':l[i]?=some o:=by simpa using ho
   have hil:=(List.getElem?_eq_some_iff.1 ho').1;have hif:listed.getD i false=false:=by simp[hsz,hil]at hi0 ⊢;exact hi0
   have hpre':∀e∈o.after.toList,Region.binds .any e=true->listed.getD e.on false=true:=fun e he hb=>hpre e (by simpa using he) hb
   have hbefore:=u5 hcls hlt (i+1) i jB o ho' hpre'
   -- who writes where o touches
   have hwr:∀k o' s,l[k]?=some o'->o'.dst=some s->(s∈looks l o\/o.dst=some s)->listed.getD k false=decide (k<i):=by
    intro k o' s hk hs hcase;rcases Nat.lt_trichotomy k i with h|h|h
    ·rw[decide_eq_true h];refine hbefore k (hcl k i o' o h hk ho' ?_);unfold tZ;rw[hs];rcases hcase with h5|h5
     ·simp[h5]
     ·simp[h5]
    ·subst h;simpa using hif
    ·rw[decide_eq_false jB];cases hv:listed.getD k false with
     |false=>rfl
     |true=>
      have hki:i∈(ko l).getD k []:=hcl i k o o' h ho' hk (by
       unfold tZ;rw[hs];rcases hcase with h5|h5
       ·simp[h5]
       ·simp[h5])
      have:=u5 hcls hlt (k+1) k jB o' hk (fun e he hb=>hcls k o' hk hv e he hb) i hki;rw[hif]at this;cases this
   have hag:dF l.toArray o (FL l rs (fun _=>true) F i) (FL l rs (fun i=>listed.getD i false) F l.length):=by
    refine Hy (by rw[lm,lm]) fun s hs hlen=>?_
    rw[lm]at hlen;rw[sF _ _ _ _ hlen,sF _ _ _ _ hlen,EV (fun k o' hk hd=>hwr k o' s hk hd (.inl hs)),show min l.length i=i from jB]
   have hop:=hqv i o ho' _ hag;have hL':∀k,(listed.setIfInBounds i true).getD k false=(listed.getD k false || k == i):=fun k=>by
    by_cases hk:k=i
    ·subst hk;simp[hsz,hil]
    ·simp[Array.getElem?_setIfInBounds_ne (Ne.symm hk),hk]
   have hnext:cA (FL l rs (fun i=>listed.getD i false) F l.length) o.dst (rs.getD i .any)=FL l rs (fun k=>(listed.setIfInBounds i true).getD k false) F l.length:=by
    refine D9 (m':=0) (L':=fun _=>true) (by cases o.dst<;>simp[cA,lm]) fun s hs=>?_
    by_cases hd:o.dst=some s
    ·rw[BI (L:=fun i=>listed.getD i false) ho' hL' (fun k o' hk hd'=>hwr k o' s hk hd' (.inr hd)) hd _ hil,hd];simp[cA,lm,hs]
    ·rw[CU (L:=fun i=>listed.getD i false) ho' hL' hd,<-sF _ _ _ _ hs];cases hd':o.dst with
     |none=>rfl
     |some d=>
      have:d≠s:=fun e=>hd (by rw[hd',e])
      simp[cA,List.getElem?_set,this]
   have:=hop w tm (gh Q w0 H) (wpAny P .any l.toArray (gh Q w0 H) fuel (listed.setIfInBounds i true)) h1 h2 (by
    rintro tm' w' F' H' ⟨rfl,rfl⟩ g1 g2 g3;refine ih (listed.setIfInBounds i true) (by simpa using hsz) ?_ ?_ w' tm' g1 (by rw[<-hnext];exact g2) (h3.trans g3)
    ·intro j o' hj hLj e he hb;simp only[hL']at hLj ⊢;rcases Bool.or_eq_true_iff.1 hLj with h6|h6
     ·have h7:listed.getD e.on false=true:=hcls j o' hj h6 e he hb;rw[h7];rfl
     ·obtain rfl:j=i:=by simpa using h6
      rw[ho']at hj;cases hj;rw[hpre' e he hb];rfl
    ·have:∀(n:Nat),i<n->(List.range n).countP (fun k=>!(listed.setIfInBounds i true).getD k false)+1=(List.range n).countP (fun k=>!listed.getD k false):=by
      intro n;induction n with
      |zero=>intro h;omega
      |succ n ihn=>
       intro h;rw[List.range_succ,List.countP_append,List.countP_append];by_cases hn:n=i
       ·subst hn;have:(List.range n).countP (fun k=>!(listed.setIfInBounds n true).getD k false)=(List.range n).countP (fun k=>!listed.getD k false):=by
         refine List.countP_congr fun k hk=>?_
         rw[hL'];have:k≠n:=by have:=List.mem_range.1 hk;omega
         simp[this]
        rw[this];simp only[List.countP_singleton,hL',hif];simp
       ·rw[<-ihn jB];simp only[List.countP_singleton,hL'];have:(n == i)=false:=by simpa using hn
        rw[this,Bool.or_false];omega
     have:=this l.length hil;omega)
   unfold wpOp;rw[ho];exact this
theorem J1{id:Nat}{l:List Oper}(hm:P.follows .mixedOrders=true)(hok:tU l=true)(h:p6 P l.toArray H (fun F'=>Q .normal F' H) l F):dH P (.region id l.toArray true) Q F H:=fun w tm h1 h2=>by
 obtain⟨rs,hrun⟩:=HB l F h;obtain⟨hqv,hK⟩:=FB l F rs hrun;have hz:∀i,(Array.replicate l.toArray.size false).getD i false=false:=fun i=>by by_cases hi:i<l.length<;>simp[Array.getElem?_replicate,hi]
 refine wp_region_any hm ?_;have e0:FL l rs (fun i=>(Array.replicate l.toArray.size false).getD i false) F l.length=F:=by
  have gen:∀m,FL l rs (fun i=>(Array.replicate l.toArray.size false).getD i false) F m=F:=by
   intro m;induction m with
   |zero=>rfl
   |succ m ih=>rw[FL,hz,if_neg jE,ih]
  exact gen _
 exact OI hok hqv hK w l.toArray.size (Array.replicate l.toArray.size false) jE (fun j o _ hj=>by have:=(hz j).symm.trans hj;cases this) (by rw[List.countP_eq_length.2 (fun i _=>by rw[hz];rfl)];simp) (w.to w.drew) tm h1.drew (by rw[e0];exact h2.ext (Ext.drew w H)) (Ext.drew w H)
end
section
variable {P:Program}{ops:Array Oper}{H:Hp}{K:List AV->Prop}{F:List AV}{dst:Option Tmp}{ty:TypeId}{pos:String}{after:Array Edge}{rest:List Oper}
end
end Go.Gd
