/- Lemmas. No conditions. -/
import Derived.Test.YtbjookcdpondlaaGreatDoorGdL
set_option linter.all false
namespace Go.Gd
open Go
section
variable {P:SQ}{ops:Array Oper}{H:Hp}
variable{ty:SL}{K:SD}
def vv{ev ev':SM}(o:Op)(h:∀x∈o.operands.toList,ev x=ev' x):vc P ev H ty K o=vc P ev' H ty K o:=by
 have quiet:((vq P ev H o).1/\K (vq P ev H o).2 H)=((vq P ev' H o).1/\K (vq P ev' H o).2 H):=by rw[uz o h]
 have other:jT P o ty ev H K=jT P o ty ev' H K:=by
  unfold jT;apply propext;constructor<;>intro hh w ρ dst pos after guard h1 h2
  ·exact hh w ρ dst pos after guard h1 fun x hx=>by rw[h x hx];exact h2 x hx
  ·exact hh w ρ dst pos after guard h1 fun x hx=>by rw[<-h x hx];exact h2 x hx
 cases o
 case box t x=>simp only[vc];rw[h x (by simp[Op.operands])]
 case store t a x=>simp only[vc];rw[h x (by simp[Op.operands]),h a (by simp[Op.operands])]
 case buildSlice t n ps=> simp only[Op.operands]at h;simp only[vc];rw[List.map_congr_left (g:=fun p=>(p.1,ev' p.2)) (fun x hx=>by rw[h x.2 (by simp at hx ⊢;exact⟨_,hx⟩)])]
 case binOp op t x y t'=>
  cases op<;>first
   |(simp only[vc];rw[h x (by simp[Op.operands]),h y (by simp[Op.operands])];done)
   |exact quiet
 case call c=>
  obtain⟨callee,args,ts⟩:=c;cases callee
  case value f=> simp only[Op.operands,Call.operands]at h;simp only[vc];rw[h f jE,List.map_congr_left (fun x hx=>h x (by simp at hx ⊢;exact .inr hx))]
  case builtin b=>
   have hm:args.toList.map ev=args.toList.map ev':=List.map_congr_left fun x hx=>h x (by simpa[Op.operands,Call.operands]using hx)
   cases b
   case append=>
    simp only[vc];split
    ·rename_i t t' a x ht ha;rw[h a (by simp[Op.operands,Call.operands];rw[<-Array.mem_toList_iff,ha];simp),h x (by simp[Op.operands,Call.operands];rw[<-Array.mem_toList_iff,ha];simp)]
    ·rfl
   case len=>exact quiet
   case cap=>exact quiet
   case max=>exact quiet
   case min=>exact quiet
   all_goals(simp only[vc,dI,Bool.false_eq_true,if_false];rw[hm])
  all_goals exact other
 all_goals first
  |rfl
  |exact quiet
  |exact other
variable{t:SL}{K':SD}
def Ha{n:Nat}{parts:List (Nat×AV)}(h:nZ P H t n parts K)(hk:∀r H,K r H->K' r H):nZ P H t n parts K':=by
 unfold nZ at*;split at h
 ·rename_i e he;split at h
  ·refine⟨h.1,?_⟩;rcases h.2 with h2|⟨h2,i,h3,h4⟩
   ·exact .inl ⟨h2.1,hk _ _ h2.2⟩
   ·exact .inr ⟨h2,i,h3,hk _ _ h4⟩
  ·exact h.elim
 ·exact h.elim
def GQ{ev:SM}(o:Op)(hk:∀r H',K r H'->K' r H')(h:vc P ev H ty K o):vc P ev H ty K' o:=by
 have quiet:((vq P ev H o).1/\K (vq P ev H o).2 H)->((vq P ev H o).1/\K' (vq P ev H o).2 H):=fun h=>⟨h.1,hk _ _ h.2⟩
 have other:jT P o ty ev H K->jT P o ty ev H K':=fun hh w ρ dst pos after guard h1 h2=>by obtain⟨w',H',r,g1,g2⟩:=hh w ρ dst pos after guard h1 h2;exact⟨w',H',r,hk _ _ g1,g2⟩
 cases o
 case box t x=>obtain⟨h1,i,h2,h3⟩:=h;exact⟨h1,i,h2,hk _ _ h3⟩
 case alloc t=>
  simp only[vc,od]at h ⊢;split at h
  ·obtain⟨i,h2,h3⟩:=h;exact⟨i,h2,hk _ _ h3⟩
  ·exact h.elim
 case store t a x=>
  simp only[vc,vu]at h ⊢;split at h
  ·split at h
   ·exact⟨h.1,hk _ _ h.2⟩
   ·exact h.elim
  ·exact h.elim
 case buildSlice t n ps=>exact Ha h hk
 case binOp op t x y t'=>
  have nileq:∀ne,qV P ne t (ev x) (ev y) H K->qV P ne t (ev x) (ev y) H K':=fun ne h=>by
   unfold qV at h ⊢;split at h
   ·exact⟨h.1,fun b hb=>hk _ _ (h.2 b hb)⟩
   ·exact⟨h.1,fun b hb=>hk _ _ (h.2 b hb)⟩
   ·rename_i Td;exact⟨h.1,hk _ _ h.2⟩
  cases op<;>first
   |exact nileq false h
   |exact nileq true h
   |exact quiet h
 case call c=>
  obtain⟨callee,args,ts⟩:=c;cases callee
  case value f=>exact B0 h hk
  case builtin b=>
   have bvc:tC P b ts.toList (args.toList.map ev) H K->tC P b ts.toList (args.toList.map ev) H K':=fun hh w vs ty cs h1 h2=>by obtain⟨w',H',r,v,g1,g2,g3⟩:=hh w vs ty cs h1 h2;exact⟨w',H',r,v,g1,hk _ _ g2,g3⟩
   cases b
   case append=>
    simp only[vc]at h ⊢;split at h
    ·intro w va vx ty h1 h2 h3;obtain⟨w',H',r,v,g1,g2,g3⟩:=h w va vx ty h1 h2 h3;exact⟨w',H',r,v,g1,hk _ _ g2,g3⟩
    ·exact h.elim
   case len=>exact quiet h
   case cap=>exact quiet h
   case max=>exact quiet h
   case min=>exact quiet h
   all_goals exact bvc h
  all_goals exact other h
 all_goals first
  |exact quiet h
  |exact other h
-- what is quiet, what is an effect
def qw:Op->Bool
 |.buildSlice ..=>true
 |_=>false
abbrev AS:=SJ×SJ×SJ
def uk(A:AS)(o:Oper):Bool:=match o.dst with
 |some t=>A.2.1.contains t
 |none=>false
def pu(A:AS)(o:Oper):Bool:=match o.dst with
 |some t=>A.2.2.contains t
 |none=>false
def qm(A:AS)(o:Oper):Bool:=o.guard.isSome && pu A o && lj o.op
def nw(A:AS)(o:Oper):Bool:=(o.guard.isNone && !dI o.op && !oJ o.op && !(qw o.op && !pu A o) && !uk A o) || qm A o
def AX(P:SQ)(ev:SM)(H:Hp)(K:AV->Prop):Op->Prop
 |.call { callee:=.value f,args,.. }=>∃r,(fz P (ev f) (args.toList.map ev) H fun r' H'=>r'=r/\H'=H)/\K r
 |.lookup t m k c=>∃r,jT P (.lookup t m k c) 0 ev H (fun r' H'=>r'=r/\H'=H)/\K r
 |_=>False
def pr(o:Oper):Bool:=match o.op with
 |.load ..=>true
 |.lookup ..=>true
 |.call { callee:=.value _,.. }=>true
 |.call { callee:=.builtin .len,argTypes,.. }=>jZ.contains (argTypes.toList.headD 0)
 |_=>false
def np(A:AS)(o:Oper):Bool:=match o.op with
 |.alloc _=>true
 |.box ..=>true
 |.store ..=>!A.1.isEmpty && !A.2.2.contains 1000000
 |.call { callee:=.value _,.. }=>pu A o
 |.call { callee:=.builtin .append,.. }=>pu A o
 |.buildSlice ..=>pu A o
 |.makeSlice ..=>pu A o
 |_=>false
def pe(o:Oper):Bool:=match o.op with
 |.load ..=>o.guard.isNone
 |_=>false
def eO(A:AS)(H H':Hp):Prop:=∀i r,A.1.contains i=false->H.get i=some r->H'.get i=some r\/(A.1.contains (i+16)=true/\∃t c c' cs,r=.var t (c::cs)/\H'.get i=some (.var t (c'::cs)))
def eO.refl(A:AS)(H:Hp):eO A H H:=fun _ _ _ h=>.inl h
def eO.trans{L:AS}{A B C:Hp}(h:eO L A B)(k:eO L B C):eO L A C:=fun i r ha e=>by
 rcases h i r ha e with h1|⟨h0,t,c,c',cs,rfl,h1⟩
 ·exact k i r ha h1
 ·rcases k i _ ha h1 with k1|⟨_,t',d,d',ds,e',k1⟩
  ·exact .inr ⟨h0,t,c,c',cs,rfl,k1⟩
  ·cases e';exact .inr ⟨h0,t,c,d',cs,rfl,k1⟩
theorem eO.put{A:AS}{H:Hp}{i:Nat}{r:Row}(h:H.get i=none):eO A H (H.put i r):=fun j s _ hj=>by
 left
 rw[Hp.bs,if_neg (by rintro rfl;rw[h]at hj;cases hj)];exact hj
variable{A:AS}{i:Nat}
def eO.set{H:Hp}{r:Row}(h:A.1.contains i=true):eO A H (H.put i r):=fun j s ha hj=>by
 left
 rw[Hp.bs,if_neg (by rintro rfl;rw[h]at ha;cases ha)];exact hj
def sF(A:AS):AV->Bool
 |.pt i _ _ j=>!A.1.contains i && (decide (1<=j) || !A.1.contains (i+16))
 |_=>true
def Bc(A:AS):AV->Bool
 |.pt i _ _ _=>A.1.contains i
 |_=>false
def jx(A:AS)(ev:SM):Op->Bool
 |.load _ x=>sF A (ev x)
 |.store _ a _=>(A.1.isEmpty || A.2.2.contains 1000000) || Bc A (ev a)
 |_=>true
variable{H':Hp}
def MQ{H:Hp}(h:eO A H H'){a:AV}(ha:sF A a=true){x:Prop×SG}(hc:ql H a=some x):ql H' a=some x:=by
 unfold ql at*;split at hc
 ·exact hc
 ·rename_i i m k j;have ha:A.1.contains i=false/\(1<=j\/A.1.contains (i+16)=false):=by
   simp only[sF,Bool.and_eq_true,Bool.or_eq_true,Bool.not_eq_true',decide_eq_true_eq]at ha;exact ha
  cases e:H.get i with
  |none=>rw[e]at hc;cases hc
  |some r=>
   rw[e]at hc;rcases h i r ha.1 e with h1|⟨h0,t,c,c',cs,rfl,h1⟩
   ·simp only[h1];exact hc
   ·rcases ha.2 with h2|h2
    ·obtain⟨j',rfl⟩:∃j',j=j'+1:=⟨j-1,jB⟩;simp only[h1,List.drop_succ_cons]at hc ⊢;exact hc
    ·rw[h0]at h2;cases h2
 ·cases hc
def Qk{H:Hp}(h:eO A H H'){a:AV}(ha:sF A a=true)(hq:(oa P H t a).1):oa P H' t a=oa P H t a:=by
 unfold oa at*;cases e:ql H a with
 |none=>rw[e]at hq;exact hq.elim
 |some x=>rw[MQ h ha e]
def gj(P:SQ)(ev:SM)(H:Hp)(ty:SL)(K:SD)(op:Op):Prop:=if oJ op then(vq P ev H op).1/\K (vq P ev H op).2 H else match op with
 |.buildSlice t n parts=>pg P t n (parts.toList.map fun p=>(p.1,ev p.2)) fun r=>K r H
 |op=>vc P ev H ty K op
def RY{ev:SM}(t:SL)(n:Nat)(parts:Array (Nat×Operand)):gj P ev H ty K (.buildSlice t n parts)=pg P t n (parts.toList.map fun p=>(p.1,ev p.2)) fun r=>K r H:=rfl
def Fv{ev:SM}{op:Op}(h1:¬oJ op=true)(h2:¬qw op=true):gj P ev H ty K op=vc P ev H ty K op:=by unfold gj;rw[if_neg h1];cases op<;>first|rfl|(exact(h2 rfl).elim)
def sO(P:SQ)(A:AS)(ev:SM)(H:Hp)(K:SD):Op->Prop
 |.call { callee:=.value f,args,.. }=>fz P (ev f) (args.toList.map ev) H fun r H'=>eO A H H'/\K r H'
 |.buildSlice t n parts=>nZ P H t n (parts.toList.map fun p=>(p.1,ev p.2)) fun r H'=>eO A H H'/\K r H'
 |.makeSlice t l c=>jT P (.makeSlice t l c) 0 ev H fun r H'=>eO A H H'/\K r H'
 |.call { callee:=.builtin .append,args,argTypes }=>vc P ev H 0 (fun r H'=>eO A H H'/\K r H') (.call ⟨.builtin .append,args,argTypes⟩)
 |_=>False
def gh(A:AS)(P:SQ)(ops:Array Oper)(K:SC):List Oper->SC
 |[],F,H=>K F H
 |o::rest,F,H=>match o.guard with
  |none=>if uk A o=true then AX P (bZ F) H (fun r=>gh A P ops K rest (cH F o.dst r) H) o.op else if pu A o=true then sO P A (bZ F) H (fun r H'=>gh A P ops K rest (cH F o.dst r) H') o.op else jx A (bZ F) o.op=true/\gj P (bZ F) H o.type (fun r H'=>gh A P ops K rest (cH F o.dst r) H') o.op
  |some (j,want)=>match mV ops F j want with
   |some b=>if qm A o=true then(b=true->gQ F o.op=true/\sO P A (ci F) H (fun r H'=>gh A P ops K rest (cH F o.dst r) H') o.op)/\(b=false->gh A P ops K rest (cH F o.dst (.gd false (.raw (.bool false)))) H)
    else(lj o.op || iZ o.op)=true/\fj P F H b (fun r=>gh A P ops K rest (cH F o.dst r) H) o.op
   |none=>False
def LH(ts:List SL)(args:SG)(h:jZ.contains (ts.headD 0)=false):nC P H .len ts args=nC P H' .len ts args:=by
 unfold nC;cases ts with
 |nil=>rfl
 |cons t ts=>
  cases args with
  |nil=>rfl
  |cons x l=>
   show tP P H t x=tP P H' t x;unfold tP;have h:jZ.contains t=false:=h;have hn:¬(jZ.contains t=true):=by rw[h];exact Bool.false_ne_true
   cases x with
   |raw v=>cases v<;>rfl
   |mr i=> show(if jZ.contains t=true then _ else ie)=(if jZ.contains t=true then _ else ie);rw[if_neg hn,if_neg hn]
   |_=>rfl
variable{o:Oper}
def wW{ev:SM}(h:pr o=false):vq P ev H o.op=vq P ev H' o.op:=by
 obtain⟨dst,op,ty,pos,after,guard⟩:=o;cases op<;>first
  |rfl
  |(simp[pr]at h;done)
  |skip
 rename_i c;obtain⟨callee,args,ts⟩:=c;cases callee
 case builtin b=>
  cases b
  case len=>exact LH _ _ h
  all_goals(simp only[vq];unfold nC;generalize ts.toList=a;generalize args.toList.map ev=b;cases a<;>cases b<;>rfl)
 all_goals rfl
variable{F:SG}
def QN{g:Bool}{K:AV->Prop}(h:pr o=false):fj P F H g K o.op=fj P F H' g K o.op:=by
 have hc:lj o.op=false:=by
  obtain⟨dst,op,ty,pos,after,guard⟩:=o;cases op<;>first
   |rfl
   |(rename_i c;obtain⟨callee,args,ts⟩:=c;cases callee<;>first|rfl|simp[pr]at h)
 by_cases hp:xg o.op=true
 ·obtain⟨dst,op,ty,pos,after,guard⟩:=o;cases op<;>first|(cases hp;done)|rfl
 have hp:xg o.op=false:=by simpa using hp
 rw[yp _ hc hp,yp _ hc hp,wW h]
def M6{ev:SM}{o:Op}(h:dI o=true):vc P ev H ty K o=((vq P ev H o).1/\K (vq P ev H o).2 H):=by
 cases o
 case binOp op t x y t'=>cases op<;>first|(simp[dI]at h;done)|simp[vc,dI]
 case call c=>
  obtain⟨callee,args,ts⟩:=c;cases callee
  case builtin b=>cases b<;>first|(simp[dI]at h;done)|simp[vc,dI]
  all_goals(simp[dI]at h;done)
 all_goals first
  |(simp[dI]at h;done)
  |simp[vc,dI]
def Fq{K:SC}{rest:List Oper}(h:gh A P ops K (o::rest) F H) :
  (nw A o=true/\∀G,ec ops o F G->mS P ops o G H fun G' H'=>(np A o=true->eO A H H')/\∃r,G'=cH G o.dst r/\gh A P ops K rest (cH F o.dst r) H')\/
  (nw A o=false/\∃r,QV P ops o F H r/\(pr o=false->∀H',QV P ops o F H' r)/\(pe o=true->∀H',eO A H H'->QV P ops o F H' r)/\gh A P ops K rest (cH F o.dst r) H):=by
 unfold gh at h;split at h
 ·rename_i hg;by_cases V6:uk A o=true
  ·rw[if_pos V6]at h;refine .inr ⟨by simp[nw,qm,hg,V6],?_⟩;obtain⟨dst,op,ty,pos,after,guard⟩:=o;simp only at hg;subst hg;cases op<;>first|exact h.elim|skip
   case call=>
    rename_i c;obtain⟨callee,args,ts⟩:=c;cases callee<;>first|exact h.elim|skip
    obtain⟨r,h1,h2⟩:=h;exact⟨r,FB h1,fun hd=>by simp[pr]at hd,fun U8=>by simp[pe]at U8,h2⟩
   case lookup=>
    rename_i t m k c;obtain⟨r,h1,h2⟩:=h;refine⟨r,fun G hG=>?_,fun hd=>by simp[pr]at hd,fun U8=>by simp[pe]at U8,h2⟩;refine qD (K:=fun F' H'=>F'=cH G dst r/\H'=H) rfl ?_;rw[vv _ hG.1];have e:∀K:SD,vc P (bZ F) H ty K (.lookup t m k c)=jT P (.lookup t m k c) ty (bZ F) H K:=fun K=>by simp[vc,dI]
    show vc P (bZ F) H ty _ (.lookup t m k c);rw[e];intro w ρ dst' pos' after' guard' g1 g2;obtain⟨w',H',r',hk,g⟩:=h1 w ρ dst' pos' after' guard' g1 g2;exact⟨w',H',r',⟨by rw[hk.1],hk.2⟩,g⟩
  rw[if_neg V6]at h;by_cases Vy:pu A o=true
  ·rw[if_pos Vy]at h;have V6:uk A o=false:=by simpa using V6
   obtain⟨dst,op,ty,pos,after,guard⟩:=o;simp only at hg;subst hg;cases op
   case call=>
    rename_i c _;obtain⟨callee,args,ts⟩:=c;cases callee
    case value f _=> refine .inl ⟨by simp[nw,dI,oJ,qw,V6],fun G hG=>?_⟩;refine qD rfl ?_;rw[vv _ hG.1];exact B0 (f:=bZ F f) (args:=args.toList.map (bZ F)) h fun r H' hk=>⟨fun _=>hk.1,r,rfl,hk.2⟩
    case builtin bi _=>
     cases bi
     case append=> refine .inl ⟨by simp[nw,dI,oJ,qw,V6],fun G hG=>?_⟩;refine qD rfl ?_;rw[vv _ hG.1];exact GQ (K:=fun r H'=>eO A H H'/\gh A P ops K rest (cH F dst r) H') (.call ⟨.builtin .append,args,ts⟩) (fun r H' hk=>⟨fun _=>hk.1,r,rfl,hk.2⟩) h
     all_goals exact h.elim
    all_goals exact h.elim
   case buildSlice=> refine .inl ⟨by simp[nw,dI,oJ,qw,V6,Vy],fun G hG=>?_⟩;refine qD rfl ?_;rw[vv _ hG.1];exact Ha h fun r H' hk=>⟨fun _=>hk.1,r,rfl,hk.2⟩
   case makeSlice=>
    rename_i t l c _;refine .inl ⟨by simp[nw,dI,oJ,qw,V6],fun G hG=>?_⟩;refine qD rfl ?_;rw[vv _ hG.1];have e:∀K:SD,vc P (bZ F) H ty K (.makeSlice t l c)=jT P (.makeSlice t l c) ty (bZ F) H K:=fun K=>by simp[vc,dI]
    show vc P (bZ F) H ty _ (.makeSlice t l c);rw[e];intro w ρ dst' pos' after' guard' h1 h2;obtain⟨w',H',r,hk,g⟩:=h w ρ dst' pos' after' guard' h1 h2;exact⟨w',H',r,⟨fun _=>hk.1,r,rfl,hk.2⟩,g⟩
   all_goals exact h.elim
  rw[if_neg Vy]at h;obtain⟨hA,h⟩:=h;by_cases he:oJ o.op=true
  ·unfold gj at h;rw[if_pos he]at h;exact .inr ⟨by simp[nw,qm,hg,he],_,vt hg h.1,fun hd H'=>by rw[wW hd];exact vt hg (by rw[<-wW (H:=H) hd];exact h.1),fun U8=>by obtain⟨dst,op,ty,pos,after,guard⟩:=o;cases op<;>first|(simp[oJ]at he;done)|(simp[pe]at U8;done),h.2⟩
  ·by_cases hl:qw o.op=true
   ·refine .inr ⟨by simp[nw,qm,hg,hl,Vy],?_⟩;obtain⟨dst,op,ty,pos,after,guard⟩:=o;simp only at hg;subst hg;cases op<;>first|(simp[qw]at hl;done)|skip
    rename_i t n parts;rw[RY]at h;obtain⟨r,h1,h2⟩:=CQ h;exact⟨r,Au (h2 _ rfl),fun _ H'=>Au (h2 _ rfl),fun U8=>by simp[pe]at U8,h1⟩
   ·rw[Fv he hl]at h;by_cases hq:dI o.op=true
    ·have h':(vq P (bZ F) H o.op).1/\gh A P ops K rest (cH F o.dst (vq P (bZ F) H o.op).2) H:=by
      rw[M6 hq]at h;exact h
     refine .inr ⟨by simp[nw,qm,hg,hq],_,vt hg h'.1,fun hd H'=>by rw[wW hd];exact vt hg (by rw[<-wW (H:=H) hd];exact h'.1),fun U8 H' Ta=>?_,h'.2⟩;obtain⟨dst,op,ty,pos,after,guard⟩:=o;cases op<;>first|(simp[pe]at U8;done)|skip
     rename_i t a;have e:vq P (bZ F) H' (.load t a)=vq P (bZ F) H (.load t a):=Qk Ta hA h'.1;have:=vt (P:=P) (ops:=ops) (H:=H') (o:=⟨dst,.load t a,ty,pos,after,guard⟩) (F:=F) hg (by rw[e];exact h'.1);rw[e]at this;exact this
    ·refine .inl ⟨by simp[nw,qm,hg];simp at hq he hl V6;exact⟨⟨⟨hq,he⟩,.inl hl⟩,V6⟩,fun G hG=>?_⟩;refine qD hg ?_;rw[vv o.op hG.1];by_cases Vc:np A o=true
     ·obtain⟨dst,op,ty,pos,after,guard⟩:=o;cases op<;>first|(simp[np]at Vc;done)|(exact(Vy Vc).elim)|skip
      case call c=>
       obtain⟨callee,args,ts⟩:=c;cases callee
       case builtin bi=>cases bi<;>first|(exact(Vy Vc).elim)|(simp[np]at Vc;done)
       all_goals first|(exact(Vy Vc).elim)|(simp[np]at Vc;done)
      case alloc t=>
       simp only[vc,od]at h ⊢;split at h
       ·obtain⟨i,h2,h3⟩:=h;exact⟨i,h2,fun _=>eO.put h2,_,rfl,h3⟩
       ·exact h.elim
      case box t x=>obtain⟨h1,i,h2,h3⟩:=h;exact⟨h1,i,h2,fun _=>eO.put h2,_,rfl,h3⟩
      case store t a x=>
       simp only[np,Bool.and_eq_true,Bool.not_eq_true']at Vc;simp only[jx,Vc.1,Vc.2,Bool.false_or]at hA;simp only[vc,vu]at h ⊢;split at h
       ·rename_i i m k j n ha hn;have hi:A.1.contains i=true:=by rw[ha]at hA;exact hA
        split at h
        ·rename_i r hr;obtain⟨h1,h2⟩:=h;exact⟨h1,fun _=>eO.set hi,_,rfl,h2⟩
        ·exact h.elim
       ·exact h.elim
     ·exact GQ o.op (fun r H' hk=>⟨fun haa=>(Vc haa).elim,r,rfl,hk⟩) h
 ·rename_i j want hg;split at h
  ·rename_i b hb;by_cases Xx:qm A o=true
   ·rw[if_pos Xx]at h;refine .inl ⟨by simp[nw,Xx],fun G hG=>?_⟩;obtain⟨dst,op,ty,pos,after,guard⟩:=o;simp only at hg;subst hg;have hc:lj op=true:=by unfold qm at Xx;simp only[Bool.and_eq_true]at Xx;exact Xx.2
    cases op<;>first|(cases hc;done)|skip
    rename_i c;obtain⟨callee,args,ts⟩:=c;cases callee<;>first|(cases hc;done)|skip
    rename_i f;have hev:∀x∈(Op.call ⟨.value f,args,ts⟩).operands.toList,bZ G x=bZ F x:=hG.1;have hbG:=hG.2 j want rfl;rw[hb]at hbG;have hGg:∀x∈(Op.call ⟨.value f,args,ts⟩).operands.toList,ci G x=ci F x:=fun x hx=>by unfold ci;rw[hev x hx]
    refine qJ rfl hbG (fun TR w tm Q next h1 h2 hn=>?_) (fun TR=>⟨.gd false (.raw (.bool false)),tv rfl,⟨fun _=>eO.refl _ _,_,rfl,h.2 TR⟩⟩);obtain⟨ok,Tn⟩:=h.1 TR;have ok:gQ G (.call ⟨.value f,args,ts⟩)=true:=by unfold gQ at ok ⊢;rw[List.all_eq_true]at ok ⊢;exact fun x hx=>by rw[hev x hx];exact ok x hx
    have WS:=tF ok;have e1:nj G f=ci F f:=(WS f (by simp[Op.operands,Call.operands])).trans (hGg f (by simp[Op.operands,Call.operands]));have e2:args.toList.map (nj G)=args.toList.map (ci F):=List.map_congr_left fun x hx=>(WS x (by simp[Op.operands,Call.operands]at hx ⊢;exact .inr hx)).trans (hGg x (by simp[Op.operands,Call.operands]at hx ⊢;exact .inr hx))
    refine ym (ev:=nj G) e1 e2 Tn h1 (vQ h2) fun v r' w' H' hR g1 g2 g3=>?_
    rw[Act.put_eq];exact hn _ w' _ H' ⟨fun _=>hR.1,r',rfl,hR.2⟩ g1 ((h2.ext g3).put dst g2 []) g3
   rw[if_neg Xx]at h;obtain⟨hq,hv⟩:=h;obtain⟨r,h1,h2⟩:=A7 hv;have h3:=h2 F (fun r'=>r'=.gd b r) (fun _ _=>rfl) rfl;exact .inr ⟨by simp[nw,hg,Xx],_,C2 hg hb hq h3,fun hd H'=>C2 hg hb hq (by rw[QN hd]at h3;exact h3),(fun U8=>by
    unfold pe at U8;split at U8
    ·rw[hg]at U8;cases U8
    ·cases U8),h1⟩
  ·exact h.elim
def dR(l:List Oper)(i:Nat):Oper:=l.getD i default
def la(A:AS)(l:List Oper)(i:Nat):Bool:=nw A (dR l i)
def o6(A:AS)(E:SJ)(l:List Oper)(ps:List SJ):SJ->SJ->Bool
 |done,[]=>(List.range l.length).all fun i=>done.contains i
 |done,i::rest=>((ps.getD i []).all fun k=>done.contains k) && !done.contains i && decide (i<l.length) &&
   (!la A l i || ((rest.all fun k=>(ps.getD k []).contains i || E.contains k) && done.all fun q=>la A l q || !pr (dR l q) || (ps.getD i []).contains q || (np A (dR l i) && pe (dR l q)))) && o6 A E l ps (i::done) rest
def o8(A:AS)(E:SJ)(l:List Oper)(ord:SJ):Bool:=tL l && o6 A E l (kM l) [] ord && E.all fun i=>!uk A (dR l i) && !pu A (dR l i)
def mem(done:SJ)(i:Nat):Bool:=done.contains i
variable{l:List Oper}{done:SJ}
def uB{E:SJ}{rest:SJ}(h:o6 A E l (kM l) done (i::rest)=true) :
  (∀k∈(kM l).getD i [],k∈done)/\i ∉ done/\i<l.length/\(la A l i=true->(∀k∈rest,i∈(kM l).getD k []\/k∈E)/\∀q∈done,la A l q=true\/pr (dR l q)=false\/q∈(kM l).getD i []\/(np A (dR l i)=true/\pe (dR l q)=true))/\o6 A E l (kM l) (i::done) rest=true:=by
 simp only[o6,Bool.and_eq_true,List.all_eq_true,List.contains_iff_mem,Bool.not_eq_true',decide_eq_true_eq,Bool.or_eq_true]at h;obtain⟨⟨⟨⟨h1,h2⟩,h3⟩,h4⟩,h5⟩:=h;refine⟨h1,by simpa using h2,h3,fun he=>?_,h5⟩;rcases h4 with h4|h4
 ·rw[he]at h4;cases h4
 ·exact⟨h4.1,fun q hq=>by
   rcases h4.2 q hq with((h|h)|h)|h
   ·exact .inl h
   ·exact .inr (.inl h)
   ·exact .inr (.inr (.inl h))
   ·exact .inr (.inr (.inr h))⟩
theorem LR{A:AS}{E:SJ}{l:List Oper}:∀{rest done:SJ},o6 A E l (kM l) done rest=true->∀e∈rest,la A l e=true->∀q∈done,la A l q=true\/pr (dR l q)=false\/q∈(kM l).getD e []\/(np A (dR l e)=true/\pe (dR l q)=true)
 |[],_,_=>fun e he=>by simp at he
 |i::rest,done,h=>fun e he Wq q hq=>by
  obtain⟨_,_,_,h4,h5⟩:=uB h;rcases List.mem_cons.1 he with rfl|he
  ·exact(h4 Wq).2 q hq
  ·exact LR h5 e he Wq q (List.mem_cons_of_mem _ hq)
theorem B3{A:AS}{E:SJ}{l:List Oper}:∀{rest done:SJ},o6 A E l (kM l) done rest=true->∀i,i<l.length->i∈done\/i∈rest
 |[],done,h=>fun i hi=>by simp only[o6,List.all_eq_true,List.mem_range,List.contains_iff_mem]at h;exact .inl (h i hi)
 |j::rest,done,h=>fun i hi=>by
  obtain⟨_,_,_,_,h5⟩:=uB h;rcases B3 h5 i hi with h|h
  ·rcases List.mem_cons.1 h with rfl|h
   ·exact .inr jE
   ·exact .inl h
  ·exact .inr (List.mem_cons_of_mem _ h)
def mj:mem done i=true<->i∈done:=by simp[mem]
def Dl(done:SJ)(i:Nat):(fun k=>mem (i::done) k)=fun k=>mem done k || k == i:=by
 funext k
 rw[Bool.eq_iff_iff];simp[mem,or_comm]
def ze(ho:l[i]?=some o){e:Edge}(he:e∈o.after.toList)(hb:Region.binds .any e=true):e.on∈(kM l).getD i []:=by rw[ET ho,DD];exact List.mem_flatMap.2 ⟨e,List.mem_filter.2 ⟨he,hb⟩,jE⟩
theorem IG{os:List Oper}{rs F:SG}{L L':SP}{s:Nat}(h:∀k o,os[k]?=some o->o.dst=some s->L k=L' k):∀m,lR os rs L F s m=lR os rs L' F s m
 |0=>rfl
 |m+1=>by
  unfold lR;rw[IG h m];cases ho:os[m]? with
  |none=>simp
  |some o=>
   simp only[Option.bind_some];by_cases hd:o.dst=some s
   ·rw[h m o ho hd]
   ·simp[hd]
theorem ra{os:List Oper}{rs F:SG}{L:SP}{i:Nat}{r:AV}(hL:L i=false):∀m,FL os (rs.set i r) L F m=FL os rs L F m
 |0=>rfl
 |m+1=>by
  unfold FL;rw[ra hL m];by_cases hm:m=i
  ·subst hm;simp[hL]
  ·have:(rs.set i r).getD m .any=rs.getD m .any:=by simp[List.getElem?_set,Ne.symm hm]
   rw[this]
section
variable {l:List Oper}(SX:∀j o,l[j]?=some o->∀e∈o.after.toList,Region.binds .any e=true->e.on<j)
 (S9:∀i j a b,i<j->l[i]?=some a->l[j]?=some b->uv l a b=true->i∈(kM l).getD j [])
include SX S9
variable{L:SP}
theorem CU(Vz:nY l L){i:Nat}{o:Oper}(ho:l[i]?=some o)(Wp:L i=false)(Ud:∀e∈o.after.toList,Region.binds .any e=true->L e.on=true) :
  ∀k o' s,l[k]?=some o'->o'.dst=some s->(s∈looks l o\/o.dst=some s)->L k=decide (k<i):=by
 intro k o' s hk hs TG;have Tx:=vU Vz SX (i+1) i jB o ho Ud;rcases Nat.lt_trichotomy k i with h|h|h
 ·rw[decide_eq_true h];refine Tx k (S9 k i o' o h hk ho ?_);unfold uv;rw[hs];rcases TG with h5|h5
  ·simp[h5]
  ·simp[h5]
 ·subst h;simpa using Wp
 ·rw[decide_eq_false jB];cases hv:L k with
  |false=>rfl
  |true=>
   have UW:i∈(kM l).getD k []:=S9 i k o o' h ho hk (by
    unfold uv;rw[hs];rcases TG with h5|h5
    ·simp[h5]
    ·simp[h5])
   have:=vU Vz SX (k+1) k jB o' hk (fun e he hb=>Vz k o' hk hv e he hb) i UW;rw[Wp]at this;cases this
theorem HO{rs F:SG}{L':SP}(hL:nY l L)(Vg:nY l L'){i:Nat}{o:Oper}(ho:l[i]?=some o)(h1:L i=false)(h2:L' i=false)
  (h3:∀e∈o.after.toList,Region.binds .any e=true->L e.on=true) (h4:∀e∈o.after.toList,Region.binds .any e=true->L' e.on=true):ec l.toArray o (FL l rs L F l.length) (FL l rs L' F l.length):=by
 refine IQ (by rw[l5,l5]) fun s hs D'=>?_
 rw[l5]at D';rw[sx _ _ _ _ D',sx _ _ _ _ D'];exact(IG (fun k o' hk hd=>by rw[CU SX S9 hL ho h1 h3 k o' s hk hd (.inl hs),CU SX S9 Vg ho h2 h4 k o' s hk hd (.inl hs)]) _).symm
theorem wj{rs F:SG}{L2:SP}(hL:nY l L){i:Nat}{o:Oper}(ho:l[i]?=some o)(h1:L i=false)(h3:∀e∈o.after.toList,Region.binds .any e=true->L e.on=true){r:AV}(hr:rs.getD i .any=r)(Vo:∀k,L2 k=(L k || k == i)) :
  cH (FL l rs L F l.length) o.dst r=FL l rs L2 F l.length:=by
 have UT:=(List.getElem?_eq_some_iff.1 ho).1;refine EC (m':=0) (L':=fun _=>true) (by cases o.dst<;>simp[cH,l5]) fun s hs=>?_
 by_cases hd:o.dst=some s
 ·rw[Di (L:=L) ho Vo (fun k o' hk XP=>CU SX S9 hL ho h1 h3 k o' s hk XP (.inr hd)) hd _ UT,hd,hr];simp[cH,l5,hs]
 ·rw[Dr (L:=L) ho Vo hd,<-sx _ _ _ _ hs];cases XP:o.dst with
  |none=>rfl
  |some d=>
   have:d≠s:=fun e=>hd (by rw[XP,e])
   simp[cH,List.getElem?_set,this]
end
structure Inv(A:AS)(E:List Nat)(P:Program)(l:List Oper)(K:List AV->Hp->Prop)(F:List AV)(L:Nat->Bool)(done rest:List Nat)(rs:List AV)(H:Hp):Prop where
 len:rs.length=l.length
 sub:∀i,L i=true->i∈done\/i∈E
 fZ:nY l L
 k8:nY l (mem done)
 ord:o6 A E l (kM l) done rest=true
 walk:gh A P l.toArray K (rest.map (dR l)) (FL l rs (mem done) F l.length) H
 wait:∀i∈done,L i=false->la A l i=false/\i<l.length/\∃D,nY l D/\D i=false/\(∀k,D k=true->k∈done)/\(∀e∈(dR l i).after.toList,Region.binds .any e=true->D e.on=true)/\
  QV P l.toArray (dR l i) (FL l rs D F l.length) H (rs.getD i .any)/\(pr (dR l i)=false->∀H',QV P l.toArray (dR l i) (FL l rs D F l.length) H' (rs.getD i .any))/\(pe (dR l i)=true->∀H',eO A H H'->QV P l.toArray (dR l i) (FL l rs D F l.length) H' (rs.getD i .any))
def Ak(hi:i<l.length):l[i]?=some (dR l i):=by simp[dR,hi]
def pK(P:SQ)(l:List Oper):SJ->Prop
 |[]=>True
 |i::E=>(match (dR l i).op with|.alloc t=>(ff P t).isSome=true|_=>False)/\(dR l i).guard=none/\pK P l E
theorem Ah{P:SQ}{l:List Oper}:∀{E:SJ},pK P l E->∀i∈E,∃t zs,(dR l i).op=.alloc t/\ff P t=some zs/\(dR l i).guard=none
 |[],_,i,hi=>by simp at hi
 |j::E,h,i,hi=>by
  obtain⟨h1,h2,h3⟩:=h;rcases List.mem_cons.1 hi with rfl|hi
  ·split at h1
   ·rename_i t e;obtain⟨zs,hz⟩:=Option.isSome_iff_exists.1 h1;exact⟨t,zs,e,hz,h2⟩
   ·exact h1.elim
  ·exact Ah h3 i hi
def Bw(A:AS)(P:SQ)(l:List Oper)(E:SJ):Prop:=pK P l E/\∀i∈E,uk A (dR l i)=false/\pu A (dR l i)=false
def Qr{P:SQ}{E:SJ}(h:Bw A P l E)(hi:i∈E):la A l i=true/\np A (dR l i)=true:=by obtain⟨t,zs,e,_,hg⟩:=Ah h.1 i hi;simp[la,nw,np,e,hg,dI,oJ,qw,(h.2 i hi).1]
def Hid(P:SQ)(l:List Oper)(L:SP)(done:SJ)(rs:SG)(w0 w:NW)(β:Nat->Nat):Prop:=∀i,L i=true->i ∉ done->
 (∃t cur,(dR l i).op=.alloc t/\ff P t=some cur.toList/\rs.getD i .any=.raw (.pointer (some ⟨β i,0,none⟩))/\w.heap[β i]?=some (.cells cur t (0,0))/\w.O (β i)/\w0.heap.size<=β i/\β i<w.heap.size/\∀j m t s,w.nm j m≠some (.at (β i) t s))/\∀j,L j=true->j ∉ done->β i=β j->i=j
def Hid.ext{P:SQ}{L:SP}{rs:SG}{w0 w w':NW}{β:Nat->Nat}{H:Hp}(h:Hid P l L done rs w0 w β)(e:Ext w H w' H'):Hid P l L done rs w0 w' β:=fun i h1 h2=>by obtain⟨⟨t,cur,a1,a2,a3,a4,a5,a6,a7,a8⟩,b⟩:=h i h1 h2;obtain⟨e1,e2,e3⟩:=e.rest (β i) a7 a5 a8;exact⟨⟨t,cur,a1,a2,a3,e1.trans a4,e2,a6,Nat.lt_of_lt_of_le a7 e.size,e3⟩,b⟩
def KX{w:NW}{H:Hp}(r:aT w H){b:Nat}{cur:SN}(hi:H.get i=none)(hb:w.heap[b]?=some (.cells cur t (0,0)))(hO:w.O b)(SX:b<w.heap.size)(Td:∀j m t s,w.nm j m≠some (.at b t s)) :
  aT (w.name i 0 (.at b cur.size 0)) (H.put i (.var t (cur.toList.map .raw)))/\Keep sy w (w.name i 0 (.at b cur.size 0))/\aB (w.name i 0 (.at b cur.size 0)) (.pt i 0 0 0) (.pointer (some ⟨b,0,none⟩)):=by
 have T8:∀j n,(w.name i 0 (.at b cur.size 0)).nm j n=if j=i/\n=0 then some (Rz.at b cur.size 0)else w.nm j n:=fun _ _=>rfl
 have kp:Keep sy w (w.name i 0 (.at b cur.size 0)):=⟨Nat.le_refl _,fun _ _ h=>⟨rfl,h⟩,fun j n z _ h=>by
  rw[T8,if_neg]
  ·exact h
  ·rintro⟨rfl,rfl⟩;rw[r.none hi]at h;cases h⟩
 refine⟨{ rows:=fun j s hj=>?_,dZ:=fun j n z hz=>?_,inj:=fun j n j' n' b' t1 s1 t2 s2 h1 h2=>?_,own:=fun j n b' t1 s1 h=>?_,fin:=r.fin,cv:=r.cv.bj kp },kp,?_⟩
 ·rw[Hp.bs]at hj;split at hj
  ·rename_i e;subst e;cases hj;refine⟨trivial,.at b cur.size 0,by rw[T8];exact if_pos ⟨rfl,rfl⟩,rfl,cur,hb,⟨rfl,by show(cur.toList.map AV.raw).length<=_;simp⟩,fun k a v ha hv=>?_⟩;have ha:(cur.toList.map AV.raw)[k]?=some a:=ha;simp only[List.getElem?_map,Array.getElem?_toList,hv,Option.map_some,Option.some.injEq]at ha;subst ha;exact .raw _
  ·rename_i e;obtain⟨h1,z,h2,h3⟩:=r.rows j s hj;refine⟨h1,z,by rw[T8,if_neg (fun h=>e h.1)];exact h2,?_⟩;cases z with
   |nil=>exact h3
   |«at» b' t' st=> obtain⟨g1,UF,g2,g3,g5⟩:=h3;exact⟨g1,UF,g2,g3,fun k a v ha hv=>(g5 k a v ha hv).bj kp (pd a)⟩
 ·rw[T8]at hz;rw[Hp.bs];split at hz
  ·rename_i e;exact⟨_,by rw[if_pos e.1],by rw[e.2];exact Nat.zero_le _⟩
  ·obtain⟨r',h1,h2⟩:=r.dZ j n z hz;have e:j≠i:=fun e=>by subst e;rw[hi]at h1;cases h1
   exact⟨r',by rw[if_neg e];exact h1,h2⟩
 ·rw[T8]at h1 h2;split at h1<;>split at h2
  ·rename_i e1 e2;rw[e1.1,e2.1]
  ·cases h1;exact(Td _ _ _ _ h2).elim
  ·cases h2;exact(Td _ _ _ _ h1).elim
  ·exact r.inj _ _ _ _ _ _ _ _ _ h1 h2
 ·rw[T8]at h;split at h
  ·cases h;exact hO
  ·exact r.own _ _ _ _ _ h
 ·have:=aB.pt (w:=w.name i 0 (.at b cur.size 0)) i 0 0 0 b cur.size 0 (NW.cw _ _ _ _);simpa using this
def MX{w0 w:NW}{H0 H:Hp}(e:Ext w0 H0 w H)(r:aT w H){b sz:Nat}(hi:H.get i=none)(hb:w0.heap.size<=b)(hB:H'.B=H.B):Ext w0 H0 (w.name i 0 (.at b sz 0)) H':={
 size:=e.size,free:=e.free
 names:=fun j n z hq h=>by
  have:=e.names j n z hq h;show(if j=i/\n=0 then _ else _)=_;rw[if_neg]
  ·exact this
  ·rintro⟨rfl,rfl⟩;rw[r.none hi]at this;cases this
 os:=e.os,tape:=e.tape,output:=e.output
 rest:=fun c hc hO Td=>by
  obtain⟨e1,e2,e3⟩:=e.rest c hc hO Td;refine⟨e1,e2,fun j n t s h=>?_⟩;have h:(if j=i/\n=0 then some (Rz.at b sz 0)else w.nm j n)=some (.at c t s):=h;split at h
  ·cases h;omega
  ·exact e3 _ _ _ _ h
 base:=hB.trans e.base }
theorem Hz{os:List Oper}{rs F:SG}{L:SP}{i:Nat}{r:AV}:∀(m:Nat) (s:Nat) (a:AV),(FL os (rs.set i r) L F m)[s]?=some a->(FL os rs L F m)[s]?=some a\/(a=r/\(FL os rs L F m)[s]?=some (rs.getD i .any)/\i<rs.length)
 |0=>fun s a h=>.inl h
 |m+1=>fun s a h=>by
  have ih:=Hz (os:=os) (rs:=rs) (F:=F) (L:=L) (i:=i) (r:=r) m;have hl:(FL os (rs.set i r) L F m).length=(FL os rs L F m).length:=by rw[l5,l5]
  unfold FL at h ⊢;cases hL:L m with
  |false=>simp only[hL,Bool.false_eq_true,if_false]at h ⊢;exact ih s a h
  |true=>
   simp only[hL,if_true]at h ⊢;cases hd:(os[m]?).bind (·.dst)with
   |none=>rw[hd]at h;exact ih s a h
   |some d=>
    rw[hd]at h;simp only[cH]at h ⊢;rw[List.getElem?_set]at h ⊢;by_cases e:d=s
    ·subst e;simp only[if_true]at h ⊢;rw[hl]at h;split at h
     ·rename_i SX;rw[if_pos SX];simp only[Option.some.injEq]at h;by_cases hm:i=m
      ·subst hm;by_cases hi:i<rs.length
       ·refine .inr ⟨?_,rfl,hi⟩;rw[<-h];simp[hi]
       ·refine .inl ?_;rw[<-h];simp[hi,List.getElem?_set]
      ·refine .inl ?_;rw[<-h];simp[List.getElem?_set,hm]
     ·cases h
    ·simp only[if_neg e]at h ⊢;exact ih s a h
section
variable {A:AS}{E:SJ}{l:List Oper}{K:SC}{F:SG}(hok:tL l=true)(hE:Bw A P l E)
include hok
variable{done:SJ}{i:Nat}
theorem Cg(hi:i<l.length)(hd:nY l (mem done))(hp:∀k∈(kM l).getD i [],k∈done):nY l (mem (i::done)):=fun j o ho hj e he hb=>by
 rw[mj]at hj ⊢;rcases List.mem_cons.1 hj with rfl|hj
 ·exact List.mem_cons_of_mem _ (hp _ (ze ho he hb))
 ·exact List.mem_cons_of_mem _ (mj.1 (hd j o ho (mj.2 hj) e he hb))
include hE
theorem Az:∀(rest:SJ) {L:SP} {done:SJ} {rs:SG},Inv A E P l K F L done rest rs H->
  ∃done' Um T0,Inv A E P l K F L done' Um T0 H/\(∀i r,Um=i::r->la A l i=true)/\FL l T0 L F l.length=FL l rs L F l.length/\Um.length<=rest.length/\(∀w0 w β,Hid P l L done rs w0 w β->Hid P l L done' T0 w0 w β)
 |[],L,done,rs,h=>⟨done,[],rs,h,(fun i r e=>by cases e),rfl,Nat.le_refl _,fun _ _ _ h=>h⟩
 |i::rest,L,done,rs,h=>by
  obtain⟨SX,S9⟩:=vG hok;cases he:la A l i with
  |true=>exact⟨done,i::rest,rs,h,fun j r e=>by cases e;exact he,rfl,Nat.le_refl _,fun _ _ _ h=>h⟩
  |false=>
   obtain⟨hp,Ze,UT,_,h5⟩:=uB h.ord;have ho:=Ak UT;have hw:=h.walk;rw[List.map_cons]at hw;rcases Fq hw with⟨hx,_⟩|⟨_,r,q1,q2,q2',q3⟩
   ·unfold la at he;rw[he]at hx;cases hx
   have Yj:mem done i=false:=by rw[<-Bool.not_eq_true,mj];exact Ze
   have Yk:L i=false:=by
    cases e:L i with
    |false=>rfl
    |true=>
     rcases h.sub i e with h6|h6
     ·exact(Ze h6).elim
     ·rw[(Qr (A:=A) hE h6).1]at he;cases he
   have Ud:∀e∈(dR l i).after.toList,Region.binds .any e=true->mem done e.on=true:=fun e he hb=>mj.2 (hp _ (ze ho he hb))
   have SV:∀D:SP,(∀k,D k=true->k∈done)->FL l (rs.set i r) D F l.length=FL l rs D F l.length:=fun D hD=>ra (by
    cases e:D i with
    |false=>rfl
    |true=>exact(Ze (hD i e)).elim) _
   have TF:(rs.set i r).getD i .any=r:=by simp[h.len,UT]
   have Tb:∀j,j≠i->(rs.set i r).getD j .any=rs.getD j .any:=fun j hj=>by simp[List.getElem?_set,Ne.symm hj]
   have Tq:=wj (rs:=rs.set i r) (F:=F) SX S9 h.k8 ho Yj Ud TF (L2:=mem (i::done)) (fun k=>by rw[show mem (i::done) k=(fun k=>mem (i::done) k) k from rfl,Dl]);rw[SV _ (fun k hk=>mj.1 hk)]at Tq;have hinv:Inv A E P l K F L (i::done) rest (rs.set i r) H:=by
    refine⟨by simpa using h.len,fun k hk=>(h.sub k hk).imp_left (List.mem_cons_of_mem _),h.fZ,Cg hok UT h.k8 hp,h5,by rw[<-Tq];exact q3,fun j hj U7=>?_⟩;rcases List.mem_cons.1 hj with rfl|hj
    ·exact⟨he,UT,mem done,h.k8,Yj,fun k hk=>List.mem_cons_of_mem _ (mj.1 hk),Ud,by rw[SV _ (fun k hk=>mj.1 hk),TF];exact q1,fun hd H'=>by rw[SV _ (fun k hk=>mj.1 hk),TF];exact q2 hd H',fun hd H' Ta=>by rw[SV _ (fun k hk=>mj.1 hk),TF];exact q2' hd H' Ta⟩
    ·obtain⟨w1,w2,D,w3,w4,w5,w6,w7,w8,w9⟩:=h.wait j hj U7;have U9:j≠i:=fun e=>Ze (e ▸ hj)
     exact⟨w1,w2,D,w3,w4,fun k hk=>List.mem_cons_of_mem _ (w5 k hk),w6,by rw[SV _ w5,Tb j U9];exact w7,fun hd H'=>by rw[SV _ w5,Tb j U9];exact w8 hd H',fun hd H' Ta=>by rw[SV _ w5,Tb j U9];exact w9 hd H' Ta⟩
   obtain⟨d',r',T0,g1,g2,g3,g4,g5⟩:=Az rest hinv;refine⟨d',r',T0,g1,g2,by rw[g3,ra Yk],by simp;omega,fun w0 w β hh=>g5 w0 w β fun k Te S5=>?_⟩;have UW:k≠i:=fun e=>S5 (by simp[e])
   obtain⟨a,b⟩:=hh k Te fun Vp=>S5 (List.mem_cons_of_mem _ Vp)
   rw[Tb k UW];exact⟨a,fun j WE VJ=>b j WE fun hj3=>VJ (List.mem_cons_of_mem _ hj3)⟩
variable{L:SP}{rest:SJ}
theorem En{L2:SP}{rs:SG}{r:AV}{H':Hp}(h:Inv A E P l K F L done (i::rest) rs H)(Wq:la A l i=true)(Vo:∀k,L2 k=(L k || k == i))(We:np A (dR l i)=true->eO A H H')
  (Tx:∀k∈(kM l).getD i [],L k=true):∀j∈i::done,L2 j=false->la A l j=false/\j<l.length/\∃D,nY l D/\D j=false/\(∀k,D k=true->k∈i::done)/\(∀e∈(dR l j).after.toList,Region.binds .any e=true->D e.on=true)/\
  QV P l.toArray (dR l j) (FL l (rs.set i r) D F l.length) H' ((rs.set i r).getD j .any)/\(pr (dR l j)=false->∀TS,QV P l.toArray (dR l j) (FL l (rs.set i r) D F l.length) TS ((rs.set i r).getD j .any))/\(pe (dR l j)=true->∀TS,eO A H' TS->QV P l.toArray (dR l j) (FL l (rs.set i r) D F l.length) TS ((rs.set i r).getD j .any)):=by
 intro j hj U7;obtain⟨hp,Tb,Vh,h4,h5⟩:=uB h.ord;have SV:∀D:SP,(∀k,D k=true->k∈done)->FL l (rs.set i r) D F l.length=FL l rs D F l.length:=fun D hD=>ra (by
  cases e:D i with
  |false=>rfl
  |true=>exact(Tb (hD i e)).elim) _
 have hgn:∀j,j≠i->(rs.set i r).getD j .any=rs.getD j .any:=fun j hj=>by simp[List.getElem?_set,Ne.symm hj]
 rw[Vo]at U7;obtain⟨U7,U9⟩:=Bool.or_eq_false_iff.1 U7;have U9:j≠i:=by simpa using U9
 have hj:j∈done:=by rcases List.mem_cons.1 hj with e|h;exact(U9 e).elim;exact h
 obtain⟨w1,w2,D,w3,w4,w5,w6,w7,w8,w9⟩:=h.wait j hj U7;have hac:QV P l.toArray (dR l j) (FL l rs D F l.length) H' (rs.getD j .any):=by
  rcases(h4 Wq).2 j hj with h6|h6|h6|h6
  ·rw[w1]at h6;cases h6
  ·exact w8 h6 H'
  ·have:=Tx j h6;rw[U7]at this;cases this
  ·exact w9 h6.2 H' (We h6.1)
 refine⟨w1,w2,D,w3,w4,fun k hk=>List.mem_cons_of_mem _ (w5 k hk),w6,by rw[SV _ w5,hgn j U9];exact hac,fun hd TS=>by rw[SV _ w5,hgn j U9];exact w8 hd TS,fun hd TS Ta=>?_⟩;rw[SV _ w5,hgn j U9];rcases(h4 Wq).2 j hj with h6|h6|h6|h6
 ·rw[w1]at h6;cases h6
 ·exact w8 h6 TS
 ·have:=Tx j h6;rw[U7]at this;cases this
 ·exact w9 h6.2 TS ((We h6.1).trans Ta)
theorem settle{w0:NW}{H0:Hp}:∀(n:Nat) {L:SP} {done rest:SJ} {rs:SG} {H:Hp} {w:NW} {tm:SN} {β:Nat->Nat},rest.length<=n->Inv A E P l K F L done rest rs H->aT w H->bC w (FL l rs L F l.length) tm->Ext w0 H0 w H->Hid P l L done rs w0 w β->
  ∃done' Um T0 H' w',NW.toWorld w'=w.toWorld/\Inv A E P l K F L done' Um T0 H'/\(∀i r,Um=i::r->la A l i=true/\L i=false)/\aT w' H'/\bC w' (FL l T0 L F l.length) tm/\Ext w0 H0 w' H'/\Hid P l L done' T0 w0 w' β
 |n,L,done,rest,rs,H,w,tm,β,hn,h,h1,h2,h3,h4=>by
  obtain⟨SX,S9⟩:=vG hok;obtain⟨d',r',T0,g1,g2,g3,g4,g5⟩:=Az hok hE rest h;have g5:=g5 _ _ _ h4;rw[<-g3]at h2;cases r' with
  |nil=>exact⟨d',[],T0,H,w,rfl,g1,(fun i r e=>by cases e),h1,h2,h3,g5⟩
  |cons i r=>
   have Wq:=g2 i r rfl;cases Yk:L i with
   |false=>exact⟨d',i::r,T0,H,w,rfl,g1,(fun j q e=>by cases e;exact⟨Wq,Yk⟩),h1,h2,h3,g5⟩
   |true=>
    obtain⟨hp,Tb,Vh,c4,c5⟩:=uB g1.ord;obtain⟨⟨t,cur,a1,a2,a3,a4,a5,a6,a7,a8⟩,a9⟩:=g5 i Yk Tb;have YQ:i∈E:=(g1.sub i Yk).resolve_left Tb;have Xx:(dR l i).guard=none:=by obtain⟨_,_,_,_,hg⟩:=Ah hE.1 i YQ;exact hg
    have hw:=g1.walk;rw[List.map_cons]at hw;unfold gh at hw;rw[Xx]at hw;simp only at hw;rw[if_neg (by rw[(hE.2 i YQ).1];exact Bool.false_ne_true),if_neg (by rw[(hE.2 i YQ).2];exact Bool.false_ne_true)]at hw;obtain⟨_,hw⟩:=hw;rw[a1,Fv (by simp[oJ]) (by simp[qw])]at hw;simp only[vc,od,a2]at hw;obtain⟨id,hid,hv⟩:=hw;have ho:=Ak Vh;obtain⟨k1,k2,k3⟩:=KX h1 hid a4 a5 a7 a8;have Yj:mem d' i=false:=by rw[<-Bool.not_eq_true,mj];exact Tb
    have Uy:∀e∈(dR l i).after.toList,Region.binds .any e=true->mem d' e.on=true:=fun e he hb=>mj.2 (hp _ (ze ho he hb))
    have TF:(T0.set i (.pt id 0 0 0)).getD i .any=.pt id 0 0 0:=by simp[g1.len,Vh]
    have SV:∀D:SP,(∀k,D k=true->k∈d')->FL l (T0.set i (.pt id 0 0 0)) D F l.length=FL l T0 D F l.length:=fun D hD=>ra (by
     cases e:D i with
     |false=>rfl
     |true=>exact(Tb (hD i e)).elim) _
    have TH:=wj (rs:=T0.set i (.pt id 0 0 0)) (F:=F) SX S9 g1.k8 ho Yj Uy TF (L2:=mem (i::d')) (fun k=>by rw[show mem (i::d') k=(fun k=>mem (i::d') k) k from rfl,Dl]);rw[SV _ (fun k hk=>mj.1 hk)]at TH;have Tx:∀k∈(kM l).getD i [],L k=true:=vU g1.fZ SX (i+1) i jB _ ho fun e he hb=>g1.fZ i _ ho Yk e he hb
    have hinv:Inv A E P l K F L (i::d') r (T0.set i (.pt id 0 0 0)) (H.put id (.var t (cur.toList.map .raw))):=
     ⟨by simpa using g1.len,fun k hk=>(g1.sub k hk).imp_left (List.mem_cons_of_mem _),g1.fZ,Cg hok Vh g1.k8 hp,c5,by rw[<-TH];exact hv,
      En hok hE g1 Wq (fun k=>by
       by_cases e:k=i
       ·subst e;simp[Yk]
       ·simp[e]) (fun _=>eO.put hid) Tx⟩
    have Tj:bC (w.name id 0 (.at (β i) cur.size 0)) (FL l (T0.set i (.pt id 0 0 0)) L F l.length) tm:=by
     refine⟨by rw[l5];have:=h2.1;rw[l5]at this;exact this,fun s a v ha Th=>?_⟩;rcases Hz l.length s a ha with h6|⟨rfl,h6,_⟩
     ·exact(h2.2 s a v h6 Th).bj k2 (pd a)
     ·have:=h2.2 s _ v h6 Th;rw[a3]at this;have:=dH this;subst this;exact k3
    have Xy:Hid P l L (i::d') (T0.set i (.pt id 0 0 0)) w0 (w.name id 0 (.at (β i) cur.size 0)) β:=fun k Te S5=>by
     have UW:k≠i:=fun e=>S5 (by simp[e])
     have Vp:k ∉ d':=fun e=>S5 (List.mem_cons_of_mem _ e)
     obtain⟨⟨t',UF,b1,b2,b3,b4,b5,b6,b7,b8⟩,b9⟩:=g5 k Te Vp;refine⟨⟨t',UF,b1,b2,by rw[<-b3];simp[List.getElem?_set,Ne.symm UW],b4,b5,b6,b7,fun j m t1 s1 hh=>?_⟩,fun j WE VJ=>b9 j WE fun e=>VJ (List.mem_cons_of_mem _ e)⟩;have hh:(if j=id/\m=0 then some (Rz.at (β i) cur.size 0)else w.nm j m)=some (.at (β k) t1 s1):=hh;split at hh
     ·simp only[Option.some.injEq,Rz.at.injEq]at hh;exact UW (a9 k Te Vp hh.1).symm
     ·exact b8 _ _ _ _ hh
    simp only[List.length_cons]at g4;obtain⟨n,rfl⟩:∃k,n=k+1:=⟨n-1,jB⟩;obtain⟨d2,r2,rs2,H2,w2,x1,x2,x3,x4,x5,x6,x7⟩:=settle n jB hinv k1 Tj (MX h3 h1 hid a6 rfl) Xy;exact⟨d2,r2,rs2,H2,w2,x1,x2,x3,x4,x5,x6,x7⟩
theorem Su{rs:SG}(h:Inv A E P l K F L done rest rs H)(hs:∀i r,rest=i::r->la A l i=true/\L i=false){o:Oper}(ho:l[i]?=some o)(hi:L i=false)(Ud:∀e∈o.after.toList,Region.binds .any e=true->L e.on=true)
  {L2:SP} (Vo:∀k,L2 k=(L k || k == i)) (hnE:i∈done\/i ∉ E\/∃r,rest=i::r) :
  mS P l.toArray o (FL l rs L F l.length) H fun G' H'=>∃done' Um T0,Inv A E P l K F L2 done' Um T0 H'/\G'=FL l T0 L2 F l.length/\∀w0 w β,Hid P l L done rs w0 w β->Hid P l L2 done' T0 w0 w β:=by
 obtain⟨SX,S9⟩:=vG hok;have UT:=(List.getElem?_eq_some_iff.1 ho).1;obtain rfl:o=dR l i:=by have:=(Ak UT).symm.trans ho;cases this;rfl
 have Wf:nY l L2:=fun j o' hj U7 e he hb=>by
  rw[Vo]at U7 ⊢;rcases Bool.or_eq_true_iff.1 U7 with h6|h6
  ·rw[h.fZ j o' hj h6 e he hb];rfl
  ·obtain rfl:j=i:=by simpa using h6
   rw[ho]at hj;cases hj;rw[Ud e he hb];rfl
 by_cases hd:i∈done
 ·obtain⟨w1,w2,D,w3,w4,w5,w6,w7,w8,w9⟩:=h.wait i hd hi;refine(w7 _ (HO SX S9 w3 h.fZ ho w4 hi w6 Ud)).mono ?_;rintro G' H' ⟨rfl,rfl⟩;refine⟨done,rest,rs,⟨h.len,fun k hk=>?_,Wf,h.k8,h.ord,h.walk,fun j hj U7=>h.wait j hj ?_⟩,wj SX S9 h.fZ ho hi Ud rfl Vo,fun w0 w β hh k Te S5=>?_⟩
  ·rw[Vo]at hk;rcases Bool.or_eq_true_iff.1 hk with h6|h6
   ·exact h.sub k h6
   ·obtain rfl:k=i:=by simpa using h6
    exact .inl hd
  ·rw[Vo]at U7;exact(Bool.or_eq_false_iff.1 U7).1
  ·have Xl:∀k,L2 k=true->k ∉ done->L k=true:=fun k h1 h2=>by
    rw[Vo]at h1;rcases Bool.or_eq_true_iff.1 h1 with h6|h6
    ·exact h6
    ·obtain rfl:k=i:=by simpa using h6
     exact(h2 hd).elim
   obtain⟨a,b⟩:=hh k (Xl k Te S5) S5;exact⟨a,fun j WE VJ=>b j (Xl j WE VJ) VJ⟩
 ·-- the next effect
  have Ti:i∈rest:=(B3 h.ord i UT).resolve_left hd;obtain⟨e,Um,rfl⟩:∃e r,rest=e::r:=by cases rest with|nil=>simp at Ti|cons e r=>exact⟨e,r,rfl⟩
  obtain⟨Wq,hLe⟩:=hs e Um rfl;obtain⟨hp,Tb,Vh,h4,h5⟩:=uB h.ord;have Tx:=vU h.fZ SX (i+1) i jB _ ho Ud;obtain rfl:i=e:=by
   rcases List.mem_cons.1 Ti with h|hr
   ·exact h
   ·rcases(h4 Wq).1 i hr with h6|h6
    ·have:=Tx e h6;rw[hLe]at this;cases this
    ·rcases hnE with h7|h7|⟨r,h7⟩
     ·exact(hd h7).elim
     ·exact(h7 h6).elim
     ·cases h7;rfl
  have Yj:mem done i=false:=by rw[<-Bool.not_eq_true,mj];exact Tb
  have Uy:∀e∈(dR l i).after.toList,Region.binds .any e=true->mem done e.on=true:=fun e he hb=>mj.2 (hp _ (ze ho he hb))
  have hw:=h.walk;rw[List.map_cons]at hw;obtain⟨_,hx⟩:=(Fq hw).resolve_right fun⟨hx,_⟩=>by unfold la at Wq;rw[Wq]at hx;cases hx
  refine(hx _ (HO SX S9 h.k8 h.fZ ho Yj hi Uy Ud)).mono ?_;rintro G' H' ⟨We,r,rfl,hv⟩;have SV:∀D:SP,(∀k,D k=true->k∈done)->FL l (rs.set i r) D F l.length=FL l rs D F l.length:=fun D hD=>ra (by
   cases e:D i with
   |false=>rfl
   |true=>exact(Tb (hD i e)).elim) _
  have TF:(rs.set i r).getD i .any=r:=by simp[h.len,UT]
  have TH:=wj (rs:=rs.set i r) (F:=F) SX S9 h.k8 ho Yj Uy TF (L2:=mem (i::done)) (fun k=>by rw[show mem (i::done) k=(fun k=>mem (i::done) k) k from rfl,Dl]);rw[SV _ (fun k hk=>mj.1 hk)]at TH;have U0:=wj (rs:=rs.set i r) (F:=F) SX S9 h.fZ ho hi Ud TF Vo;rw[ra hi]at U0;refine⟨i::done,Um,rs.set i r,⟨by simpa using h.len,fun k hk=>?_,Wf,Cg hok UT h.k8 hp,h5,by rw[<-TH];exact hv,En hok hE h Wq Vo We Tx⟩,U0,fun w0 w β hh k Te S5=>?_⟩
  ·rw[Vo]at hk;rcases Bool.or_eq_true_iff.1 hk with h6|h6
   ·exact(h.sub k h6).imp_left (List.mem_cons_of_mem _)
   ·obtain rfl:k=i:=by simpa using h6
    simp
  ·have Xl:∀k,L2 k=true->k ∉ i::done->L k=true/\k ∉ done/\k≠i:=fun k h1 h2=>by
    rw[Vo]at h1;simp only[List.mem_cons,not_or]at h2;rcases Bool.or_eq_true_iff.1 h1 with h6|h6
    ·exact⟨h6,h2.2,h2.1⟩
    ·exact(h2.1 (by simpa using h6)).elim
   obtain⟨y1,y2,y3⟩:=Xl k Te S5;obtain⟨⟨t,cur,b1,b2,b3,b4⟩,b⟩:=hh k y1 y2;exact⟨⟨t,cur,b1,b2,by rw[<-b3];simp[List.getElem?_set,Ne.symm y3],b4⟩,fun j WE VJ=>b j (Xl j WE VJ).1 (Xl j WE VJ).2.1⟩
theorem Qx{rs:SG}(h:Inv A E P l K F L done rest rs H){o:Oper}(ho:l[i]?=some o)(hi:L i=false)(hd:i ∉ done)(YQ:i∈E)(Ud:∀e∈o.after.toList,Region.binds .any e=true->L e.on=true)
  {L2:SP} (Vo:∀k,L2 k=(L k || k == i)) {w0 w:NW} {H0:Hp} {tm:SN} {β:Nat->Nat} (h1:aT w H) (h2:bC w (FL l rs L F l.length) tm) (h3:Ext w0 H0 w H) (h4:Hid P l L done rs w0 w β) {Q:Exit->Act->World->Prop} {next:Act->World->Prop}
  (hn:∀TI w' T0 β',Inv A E P l K F L2 done rest T0 H->aT w' H->bC w' (FL l T0 L2 F l.length) TI->Ext w0 H0 w' H->Hid P l L2 done T0 w0 w' β'->next ⟨TI,[]⟩ w'.toWorld):tI P l.toArray Q o next ⟨tm,[]⟩ w.toWorld:=by
 obtain⟨SX,S9⟩:=vG hok;have UT:=(List.getElem?_eq_some_iff.1 ho).1;obtain rfl:o=dR l i:=by have:=(Ak UT).symm.trans ho;cases this;rfl
 obtain⟨t,zs,e1,e2,e3⟩:=Ah hE.1 i YQ;obtain⟨z,I',rfl⟩:=zS (w:=w.toWorld) e2;have Wf:nY l L2:=fun j o' hj U7 e he hb=>by
  rw[Vo]at U7 ⊢;rcases Bool.or_eq_true_iff.1 U7 with h6|h6
  ·rw[h.fZ j o' hj h6 e he hb];rfl
  ·obtain rfl:j=i:=by simpa using h6
   rw[ho]at hj;cases hj;rw[Ud e he hb];rfl
 have TF:(rs.set i (.raw (.pointer (some ⟨w.heap.size,0,none⟩)))).getD i .any=.raw (.pointer (some ⟨w.heap.size,0,none⟩)):=by simp[h.len,UT]
 have Tb:∀j,j≠i->∀r:AV,(rs.set i r).getD j .any=rs.getD j .any:=fun j hj r=>by simp[List.getElem?_set,Ne.symm hj]
 have SV:∀(r:AV) (D:SP),(∀k,D k=true->k∈done)->FL l (rs.set i r) D F l.length=FL l rs D F l.length:=fun r D hD=>ra (by
  cases e:D i with
  |false=>rfl
  |true=>exact(hd (hD i e)).elim) _
 have U0:=wj (rs:=rs.set i (.raw (.pointer (some ⟨w.heap.size,0,none⟩)))) (F:=F) SX S9 h.fZ ho hi Ud TF Vo;rw[ra hi]at U0;have ex:Ext w H ((w.to (w.alloc (.cells z.cells t))).ga w.heap.size) H:={
  size:=by show w.heap.size<=(w.alloc _).heap.size;simp
  free:=fun b hb hn=>⟨RowKit.Below.heap_alloc w.toWorld _ b hb,fun h=>by
   rcases h with h|h
   ·omega
   ·exact hn h⟩
  names:=fun _ _ _ _ h=>h
  os:=rfl,tape:=rfl,output:=rfl
  rest:=fun b hb hO Td=>⟨RowKit.Below.heap_alloc w.toWorld _ b hb,.inr hO,Td⟩
  base:=rfl }
 have hW:aT ((w.to (w.alloc (.cells z.cells t))).ga w.heap.size) H:={
  rows:=fun j row hj=>by obtain⟨g1,y,g2,g3⟩:=h1.rows j row hj;refine⟨g1,y,g2,g3.ext ex fun b t' s e=>?_⟩;subst e;exact RowKit.Below.heap_alloc w.toWorld _ b (h1.lt g2)
  dZ:=h1.dZ,inj:=h1.inj,cv:=h1.cv.bj ex.toKeep
  own:=fun j n b t' s hh=>.inr (h1.own j n b t' s hh)
  fin:=fun b hb=>by
   show b<(w.alloc _).heap.size;rcases hb with hh|hh
   ·subst hh;simp
   ·have:=h1.fin b hh;simp;omega }
 have Xl:∀k,L2 k=true->k≠i->L k=true:=fun k h1 h2=>by rw[Vo]at h1;exact(Bool.or_eq_true_iff.1 h1).resolve_right (by simpa using h2)
 unfold tI;rw[if_pos (by simp[Region.wanted,e3])];refine .inl ?_;have hex:(execOp (Act.mk tm []).eval (dR l i)).run P w.toWorld=.ok (.value (.pointer (some ⟨w.heap.size,0,none⟩))) (w.alloc (.cells z.cells t)):=by
  have:∀(o:Oper),o.op=.alloc t->(execOp (Act.mk tm []).eval o).run P w.toWorld=.ok (.value (.pointer (some ⟨w.heap.size,0,none⟩))) (w.alloc (.cells z.cells t)):=fun o ho=>by obtain⟨dst,op,ty,pos,after,guard⟩:=o;simp only at ho;subst ho;simp only[execOp,Sem.run_bind,Instr.alloc,I',Result.andThen_ok,newVar,newRow];simp
  exact this _ e1
 simp only[Oper.wp,hex,Oper.upon];rw[Act.put_eq];refine hn _ ((w.to (w.alloc (.cells z.cells t))).ga w.heap.size) (rs.set i (.raw (.pointer (some ⟨w.heap.size,0,none⟩)))) (fun k=>if k=i then w.heap.size else β k) ⟨by simpa using h.len,fun k hk=>?_,Wf,h.k8,h.ord,by rw[SV _ _ (fun k hk=>mj.1 hk)];exact h.walk,fun j hj U7=>?_⟩ hW ?_ (h3.trans ex) ?_
 ·rw[Vo]at hk;rcases Bool.or_eq_true_iff.1 hk with h6|h6
  ·exact h.sub k h6
  ·obtain rfl:k=i:=by simpa using h6
   exact .inr YQ
 ·rw[Vo]at U7;obtain⟨w1,w2,D,w3,w4,w5,w6,w7,w8,w9⟩:=h.wait j hj (Bool.or_eq_false_iff.1 U7).1;have U9:j≠i:=fun e=>hd (e ▸ hj)
  exact⟨w1,w2,D,w3,w4,w5,w6,by rw[SV _ _ w5,Tb j U9];exact w7,fun hd H'=>by rw[SV _ _ w5,Tb j U9];exact w8 hd H',fun hd H' Ta=>by rw[SV _ _ w5,Tb j U9];exact w9 hd H' Ta⟩
 ·rw[<-U0];exact(h2.ext ex).put _ (.raw _) []
 ·intro k Te S5;by_cases UW:k=i
  ·subst UW;refine⟨⟨t,z.cells,e1,e2,by simp only[if_true];exact TF,by simp only[if_true];exact heap_alloc_new w.toWorld _,by simp only[if_true];exact .inl rfl,by simp only[if_true];exact h3.size,by simp only[if_true];show w.heap.size<(w.alloc _).heap.size;simp,fun j m t' s hh=>?_⟩,fun j WE VJ e=>?_⟩
   ·simp only[if_true]at hh;have hh:w.nm j m=some (.at w.heap.size t' s):=hh;have:=h1.lt hh;omega
   ·by_cases Zf:j=k
    ·exact Zf.symm
    ·exfalso;obtain⟨⟨_,_,_,_,_,_,_,_,b7,_⟩,_⟩:=h4 j (Xl j WE Zf) VJ;simp only[if_true,if_neg Zf]at e;omega
  ·obtain⟨⟨t',cur,b1,b2,b3,b4,b5,b6,b7,b8⟩,b9⟩:=h4 k (Xl k Te UW) S5;simp only[if_neg UW];refine⟨⟨t',cur,b1,b2,by rw[Tb k UW];exact b3,(RowKit.Below.heap_alloc w.toWorld _ _ b7).trans b4,.inr b5,b6,Nat.lt_of_lt_of_le b7 ex.size,b8⟩,fun j WE VJ e=>?_⟩;by_cases U9:j=i
   ·subst U9;simp only[if_true]at e;omega
   ·simp only[if_neg U9]at e;exact b9 j (Xl j WE U9) VJ e
theorem Ky{Q:Exit->SC}(hQ:∀F H,K F H->Q .normal F H){H0:Hp}(w0:NW) :
  ∀(fuel:Nat) (listed:Array Bool),listed.size=l.length->(List.range l.length).countP (fun i=>!listed.getD i false)=fuel->
   ∀H done rest rs (w:NW) tm β,Inv A E P l K F (fun i=>listed.getD i false) done rest rs H->(∀i r,rest=i::r->la A l i=true/\listed.getD i false=false)->
    aT w H->bC w (FL l rs (fun i=>listed.getD i false) F l.length) tm->Ext w0 H0 w H->Hid P l (fun i=>listed.getD i false) done rs w0 w β->wpAny P .any l.toArray (gO Q w0 H0) fuel listed ⟨tm,[]⟩ w.toWorld:=by
 obtain⟨SX,S9⟩:=vG hok;have fin:∀(listed:Array Bool) H done rest rs,Inv A E P l K F (fun i=>listed.getD i false) done rest rs H->(∀i r,rest=i::r->la A l i=true/\listed.getD i false=false)->(∀i,i<l.length->listed.getD i false=true)->∀(w:NW) tm,aT w H->bC w (FL l rs (fun i=>listed.getD i false) F l.length) tm->Ext w0 H0 w H->gO Q w0 H0 .normal ⟨tm,[]⟩ w.toWorld:=by
  intro listed H done rest rs h hs Tv w tm h1 h2 h3;obtain rfl:rest=[]:=by
   cases rest with
   |nil=>rfl
   |cons i r=> obtain⟨_,Ze,UT,_⟩:=uB h.ord;have h6:=(hs i r rfl).2;rw[Tv i UT]at h6;cases h6
  have e:FL l rs (fun i=>listed.getD i false) F l.length=FL l rs (mem done) F l.length:=by
   have gen:∀m,m<=l.length->FL l rs (fun i=>listed.getD i false) F m=FL l rs (mem done) F m:=by
    intro m;induction m with
    |zero=>intro _;rfl
    |succ m ih=> intro hm;have h4:=Tv m jB;have h5:mem done m=true:=mj.2 ((B3 h.ord m jB).resolve_right jE);rw[FL,FL,ih jB,h4,h5]
   exact gen _ jl
  rw[e]at h2;exact⟨tm,_,H,w,rfl,rfl,hQ _ _ h.walk,h1,h2,h3.qC⟩
 intro fuel;induction fuel with
 |zero=>
  intro listed SY WT H done rest rs w tm β h hs h1 h2 h3 _;have Tv:∀i,i<l.length->listed.getD i false=true:=fun i hi=>by have:=(List.countP_eq_zero.1 WT) i (List.mem_range.2 hi);simpa using this
  refine⟨?_,fin listed H done rest rs h hs Tv w tm h1 h2 h3⟩;rw[List.eq_nil_iff_forall_not_mem];intro j hj;obtain⟨Yh,o,ho,_⟩:=mem_ready.1 hj;have Xw:j<l.length:=by have:=(Array.getElem?_eq_some_iff.1 ho).1;simpa using this
  have:=Tv j Xw;simp[SY,Xw]at this Yh;rw[this]at Yh;cases Yh
 |succ fuel ih=>
  intro listed SY WT H done rest rs w tm β h hs h1 h2 h3 Xy;refine⟨fun Yi=>?_,fun i hi=>?_⟩
  ·exfalso;have hex:∃i,i<l.length/\listed.getD i false=false:=by
    have Tk:0<(List.range l.length).countP (fun i=>!listed.getD i false):=jB;obtain⟨i,hi,hp⟩:=List.countP_pos_iff.1 Tk;exact⟨i,List.mem_range.1 hi,by simpa using hp⟩
   obtain⟨i,⟨hi,hf⟩,V5⟩:=exists_least hex;have ho:l[i]?=some l[i]:=List.getElem?_eq_getElem hi;have:i∈Region.ready .any l.toArray listed:=mem_ready.2 ⟨by simp[SY,hi]at hf ⊢;exact hf,l[i],by simp[hi],fun e he hb=>by
    have h4:=SX i _ ho e (by simpa using he) hb;cases hv:listed.getD e.on false with
    |true=>rfl
    |false=>have:=V5 e.on ⟨jB,hv⟩;omega⟩
   rw[Yi]at this;cases this
  ·obtain⟨VI,o,ho,Ud⟩:=mem_ready.1 hi;have VH:l[i]?=some o:=by simpa using ho
   have UT:=(List.getElem?_eq_some_iff.1 VH).1;have Wp:listed.getD i false=false:=by simp[SY,UT]at VI ⊢;exact VI
   have Uy:∀e∈o.after.toList,Region.binds .any e=true->listed.getD e.on false=true:=fun e he hb=>Ud e (by simpa using he) hb
   have Vg:∀k,(listed.setIfInBounds i true).getD k false=(listed.getD k false || k == i):=fun k=>by
    by_cases hk:k=i
    ·subst hk;simp[SY,UT]
    ·simp[Array.getElem?_setIfInBounds_ne (Ne.symm hk),hk]
   have Zg:(List.range l.length).countP (fun k=>!(listed.setIfInBounds i true).getD k false)=fuel:=by
    have:∀(n:Nat),i<n->(List.range n).countP (fun k=>!(listed.setIfInBounds i true).getD k false)+1=(List.range n).countP (fun k=>!listed.getD k false):=by
     intro n;induction n with
     |zero=>intro h;omega
     |succ n ihn=>
      intro h;rw[List.range_succ,List.countP_append,List.countP_append];by_cases hn:n=i
      ·subst hn;have:(List.range n).countP (fun k=>!(listed.setIfInBounds n true).getD k false)=(List.range n).countP (fun k=>!listed.getD k false):=by
        refine List.countP_congr fun k hk=>?_
        rw[Vg];have:k≠n:=by have:=List.mem_range.1 hk;omega
        simp[this]
       rw[this];simp only[List.countP_singleton,Vg,Wp];simp
      ·rw[<-ihn jB];simp only[List.countP_singleton,Vg];have:(n == i)=false:=by simpa using hn
       rw[this,Bool.or_false];omega
    have:=this l.length UT;omega
   have go:∀{d' r' T0 H'} {w':NW} {TI} {β'},Inv A E P l K F (fun k=>(listed.setIfInBounds i true).getD k false) d' r' T0 H'->aT w' H'->bC w' (FL l T0 (fun k=>(listed.setIfInBounds i true).getD k false) F l.length) TI->Ext w0 H0 w' H'->Hid P l (fun k=>(listed.setIfInBounds i true).getD k false) d' T0 w0 w' β'->
     wpAny P .any l.toArray (gO Q w0 H0) fuel (listed.setIfInBounds i true) ⟨TI,[]⟩ w'.toWorld:=fun{d' r' T0 H' w' TI β'} k1 k2 k3 k4 k5=>by
    obtain⟨d2,r2,rs2,H2,w2,x1,x2,x3,x4,x5,x6,x7⟩:=settle hok hE r'.length jl k1 k2 k3 k4 k5;rw[<-x1];exact ih (listed.setIfInBounds i true) (by simpa using SY) Zg H2 d2 r2 rs2 w2 TI β' x2 x3 x4 x5 x6 x7
   unfold wpOp;rw[ho];by_cases V7:i ∉ done/\i∈E/\¬ ∃r,rest=i::r
   ·have:=Qx hok hE h VH Wp V7.1 V7.2.1 Uy (L2:=fun k=>(listed.setIfInBounds i true).getD k false) Vg h1 h2 h3 Xy (Q:=gO Q w0 H0) (next:=wpAny P .any l.toArray (gO Q w0 H0) fuel (listed.setIfInBounds i true)) fun TI w' T0 β' k1 k2 k3 k4 k5=>go k1 k2 k3 k4 k5
    exact this
   ·have hnE:i∈done\/i ∉ E\/∃r,rest=i::r:=by
     by_cases a:i∈done
     ·exact .inl a
     ·by_cases b:i∈E
      ·exact .inr (.inr (Classical.byContradiction fun c=>V7 ⟨a,b,c⟩))
      ·exact .inr (.inl b)
    have UZ:=Su hok hE h hs VH Wp Uy (L2:=fun k=>(listed.setIfInBounds i true).getD k false) Vg hnE;have:=UZ w tm (gO Q w0 H0) (wpAny P .any l.toArray (gO Q w0 H0) fuel (listed.setIfInBounds i true)) h1 h2 (by rintro TI w' F' H' ⟨d',r',T0,k1,rfl,k2⟩ g1 g2 g3;exact go k1 g1 g2 (h3.trans g3) (k2 _ _ _ (Xy.ext g3)))
    exact this
end
def yw(A:AS)(E:SJ){id:Nat}(ord:SJ){Q:Exit->SC}(hm:P.follows .mixedOrders=true)(hok:o8 A E l ord=true)(hE:pK P l E)(h:gh A P l.toArray (Q .normal) (ord.map (dR l)) F H):dw P (.region id l.toArray true) Q F H:=fun w tm h1 h2=>by
 simp only[o8,Bool.and_eq_true,List.all_eq_true,Bool.not_eq_true']at hok;obtain⟨⟨hdr,had⟩,hqE⟩:=hok;have hE:Bw A P l E:=⟨hE,hqE⟩;have hz:∀i,(Array.replicate l.toArray.size false).getD i false=false:=fun i=>by by_cases hi:i<l.length<;>simp[Array.getElem?_replicate,hi]
 refine wp_region_any hm ?_;have e0:∀(rs:SG) (L:SP),(∀i,L i=false)->FL l rs L F l.length=F:=fun rs L hL=>by
  have gen:∀m,FL l rs L F m=F:=by
   intro m;induction m with
   |zero=>rfl
   |succ m ih=>rw[FL,hL,if_neg jE,ih]
  exact gen _
 have hinv:Inv A E P l (Q .normal) F (fun i=>(Array.replicate l.toArray.size false).getD i false) [] ord (List.replicate l.length .any) H:=
  ⟨jE,(fun i hi=>by have:=(hz i).symm.trans hi;cases this),(fun j o _ hj=>by have:=(hz j).symm.trans hj;cases this),(fun j o _ hj=>by simp[mem]at hj),had,
   (by rw[e0 _ _ (fun i=>by simp[mem])];exact h),(fun i hi=>by simp at hi)⟩
 obtain⟨d',r',T0,k1,k2,k3,_⟩:=Az hdr hE ord hinv;refine Ky hdr hE (fun _ _ h=>h) w l.toArray.size (Array.replicate l.toArray.size false) jE (by rw[List.countP_eq_length.2 (fun i _=>by rw[hz];rfl)];simp) H d' r' T0 (w.to w.drew) tm (fun _=>0) k1 (fun i r e=>⟨k2 i r e,hz i⟩) h1.drew (by rw[e0 _ _ hz];exact h2.ext (Ext.drew w H)) (Ext.drew w H) (fun i hi _=>by have:=(hz i).symm.trans hi;cases this)
end
variable{P:SQ}{H:Hp}{id:Nat}{F:SG}{Q:Exit->SC}
def Jl(A:AS){l:List Oper}(ord:SJ)(hm:P.follows .mixedOrders=true)(hok:o8 A [] l ord=true)(h:gh A P l.toArray (Q .normal) (ord.map (dR l)) F H):dw P (.region id l.toArray true) Q F H:=yw A [] ord hm hok trivial h
def NJ{l:List Oper}(ord:SJ)(hm:P.follows .mixedOrders=true)(hok:o8 ([],[],[]) [] l ord=true)(h:gh ([],[],[]) P l.toArray (Q .normal) (ord.map (dR l)) F H):dw P (.region id l.toArray true) Q F H:=Jl ([],[],[]) ord hm hok h
section
variable {P:SQ}{ev:SM}{H:Hp}{ty:SL}{K:SD}
@[go_sem] def j41:(∀(x:Operand),gj P ev H ty K (.move x)=vc P ev H ty K (.move x))/\(∀(x:Operand),gj P ev H ty K (.assign x)=vc P ev H ty K (.assign x))/\(∀(c a b:Operand),gj P ev H ty K (.pick c a b)=vc P ev H ty K (.pick c a b))/\(∀(x:Operand),gj P ev H ty K (.nilCheck x)=vc P ev H ty K (.nilCheck x))/\(∀(t:SL) (x:Operand),gj P ev H ty K (.load t x)=vc P ev H ty K (.load t x))/\(∀(t:SL) (x:Operand) (f:Nat),gj P ev H ty K (.fieldAddr t x f)=vc P ev H ty K (.fieldAddr t x f))/\(∀(t:SL) (x:Operand) (f:Nat),gj P ev H ty K (.field t x f)=vc P ev H ty K (.field t x f))/\(∀(t:SL) (x i:Operand),gj P ev H ty K (.indexAddr t x i)=vc P ev H ty K (.indexAddr t x i))/\(∀(t:SL) (x i:Operand),gj P ev H ty K (.index t x i)=vc P ev H ty K (.index t x i))/\(∀(x:Operand) (i:Nat),gj P ev H ty K (.extract x i)=vc P ev H ty K (.extract x i))/\(∀(t:SL) (a:Operand) (lo hi mx:Option Operand),gj P ev H ty K (.slice t a lo hi mx)=vc P ev H ty K (.slice t a lo hi mx))/\(∀(t:SL) (ps:Array (Nat×Operand)),gj P ev H ty K (.build t ps)=vc P ev H ty K (.build t ps))/\(∀(as:Array Operand) (ts:Array SL),gj P ev H ty K (.call ⟨.builtin .len,as,ts⟩)=vc P ev H ty K (.call ⟨.builtin .len,as,ts⟩))/\(∀(as:Array Operand) (ts:Array SL),gj P ev H ty K (.call ⟨.builtin .min,as,ts⟩)=vc P ev H ty K (.call ⟨.builtin .min,as,ts⟩))/\(∀(t:SL) (x y:Operand) (t':SL),gj P ev H ty K (.binOp .add t x y t')=vc P ev H ty K (.binOp .add t x y t'))/\(∀(t:SL) (x y:Operand) (t':SL),gj P ev H ty K (.binOp .sub t x y t')=vc P ev H ty K (.binOp .sub t x y t')):=by and_intros<;>(intros;rfl)
@[go_sem] def j64:(∀(t:SL) (x y:Operand) (t':SL),gj P ev H ty K (.binOp .lss t x y t')=vc P ev H ty K (.binOp .lss t x y t'))/\(∀(t:SL) (x y:Operand) (t':SL),gj P ev H ty K (.binOp .gtr t x y t')=vc P ev H ty K (.binOp .gtr t x y t'))/\(∀(t:SL) (x y:Operand) (t':SL),gj P ev H ty K (.binOp .geq t x y t')=vc P ev H ty K (.binOp .geq t x y t')):=by and_intros<;>(intros;rfl)
@[go_sem] def j60(t:SL)(x y:Operand)(t':SL):gj P ev H ty K (.binOp .eql t x y t')=((fH P .eql t (ev x) (ev y)).1/\K (fH P .eql t (ev x) (ev y)).2 H):=by simp[gj,oJ,vq]
@[go_sem] def j66(t:SL)(x y:Operand)(t':SL):gj P ev H ty K (.binOp .neq t x y t')=((fH P .neq t (ev x) (ev y)).1/\K (fH P .neq t (ev x) (ev y)).2 H):=by simp[gj,oJ,vq]
@[go_sem] def j6Z:(∀(t:SL) (x:Operand),gj P ev H ty K (.box t x)=vc P ev H ty K (.box t x))/\(∀(t:SL),gj P ev H ty K (.alloc t)=vc P ev H ty K (.alloc t))/\(∀(t:SL) (a x:Operand),gj P ev H ty K (.store t a x)=vc P ev H ty K (.store t a x))/\(∀(t:SL) (n:Nat) (ps:Array (Nat×Operand)),gj P ev H ty K (.buildSlice t n ps)=pg P t n (ps.toList.map fun p=>(p.1,ev p.2)) fun r=>K r H)/\(∀(f:Operand) (as:Array Operand) (ts:Array SL),gj P ev H ty K (.call ⟨.value f,as,ts⟩)=vc P ev H ty K (.call ⟨.value f,as,ts⟩))/\(∀(t:SL) (a x:Operand),gj P ev H ty K (.call ⟨.builtin .append,#[a,x],#[t,t]⟩)=vc P ev H ty K (.call ⟨.builtin .append,#[a,x],#[t,t]⟩)):=by and_intros<;>(intros;rfl)
end
variable{C D:SJ}
@[go_sem] def j4L{ev:SM}(op:Op):jx ([],C,D) ev op=true:=by cases op<;>first|rfl|(rename_i t x;simp only[jx];generalize ev x=a;cases a<;>first|rfl|simp[sF])
@[go_sem] def j2W{A:AS}{ev:SM}(t:SL)(x:Operand):jx A ev (.load t x)=sF A (ev x):=(rfl)
@[go_sem] def j06{A:AS}{ev:SM}(t:SL)(a x:Operand):jx A ev (.store t a x)=((A.1.isEmpty || A.2.2.contains 1000000) || Bc A (ev a)):=(rfl)
@[go_sem] def j1B(A:AS)(i m k j:Nat):sF A (.pt i m k j)=(!A.1.contains i && (decide (1<=j) || !A.1.contains (i+16))):=(rfl)
@[go_sem] def j1A:(∀(A:AS) (cs:SG),sF A (.ip cs)=true)/\(∀(A:AS) (i m k j:Nat),Bc A (.pt i m k j)=A.1.contains i)/\(∀{A:AS} {ev:SM} (x:Operand),jx A ev (.move x)=true)/\(∀{A:AS} {ev:SM} (x:Operand),jx A ev (.assign x)=true)/\(∀{A:AS} {ev:SM} (c a b:Operand),jx A ev (.pick c a b)=true)/\(∀{A:AS} {ev:SM} (x:Operand),jx A ev (.nilCheck x)=true)/\(∀{A:AS} {ev:SM} (op:BinOp) (t:SL) (x y:Operand) (t':SL),jx A ev (.binOp op t x y t')=true)/\(∀{A:AS} {ev:SM} (t:SL) (x:Operand) (f:Nat),jx A ev (.fieldAddr t x f)=true)/\(∀{A:AS} {ev:SM} (t:SL) (x:Operand) (f:Nat),jx A ev (.field t x f)=true)/\(∀{A:AS} {ev:SM} (t:SL) (x i:Operand),jx A ev (.indexAddr t x i)=true)/\(∀{A:AS} {ev:SM} (t:SL) (x i:Operand),jx A ev (.index t x i)=true)/\(∀{A:AS} {ev:SM} (x:Operand) (i:Nat),jx A ev (.extract x i)=true)/\(∀{A:AS} {ev:SM} (t:SL) (ps:Array (Nat×Operand)),jx A ev (.build t ps)=true)/\(∀{A:AS} {ev:SM} (c:Call),jx A ev (.call c)=true)/\(∀{A:AS} {ev:SM} (t:SL),jx A ev (.alloc t)=true)/\(∀{A:AS} {ev:SM} (t:SL) (x:Operand),jx A ev (.box t x)=true):=by and_intros<;>(intros;rfl)
@[go_sem] def jsO:(∀{A:AS} {ev:SM} (t:SL) (n:Nat) (ps:Array (Nat×Operand)),jx A ev (.buildSlice t n ps)=true)/\(∀{A:AS} {P:SQ} {ops:Array Oper} {K:SC} (F:SG) (H:Hp),gh A P ops K [] F H=K F H):=by and_intros<;>(intros;rfl)
variable{L:SJ}{ops:Array Oper}{K:SC}
@[go_sem] def j3X(dst:Option Tmp)(op:Op)(ty:SL)(pos:String)(after:Array Edge)(rest:List Oper)(F:SG)(H:Hp) :
  gh (L,[],[]) P ops K (⟨dst,op,ty,pos,after,none⟩::rest) F H=(jx (L,[],[]) (bZ F) op=true/\gj P (bZ F) H ty (AP (fun r H'=>gh (L,[],[]) P ops K rest (cH F dst r) H') .mk) op):=by
 have e:uk (L,[],[]) ⟨dst,op,ty,pos,after,none⟩=false:=by cases dst<;>rfl
 have e':pu (L,[],[]) ⟨dst,op,ty,pos,after,none⟩=false:=by cases dst<;>rfl
 unfold gh;rw[show(⟨dst,op,ty,pos,after,none⟩:Oper).guard=none from rfl];simp only[e,e'];rfl
@[go_sem] def j1q(op:Op)(ty:SL)(pos:String)(after:Array Edge)(rest:List Oper)(F:SG)(H:Hp) :
  gh (L,C,D) P ops K (⟨none,op,ty,pos,after,none⟩::rest) F H=(jx (L,C,D) (bZ F) op=true/\gj P (bZ F) H ty (AP (fun r H'=>gh (L,C,D) P ops K rest (cH F none r) H') .mk) op):=(rfl)
@[go_sem] def j1o{c t:Nat}(op:Op)(ty:SL)(pos:String)(after:Array Edge)(rest:List Oper)(F:SG)(H:Hp) :
  gh (L,c::C,D) P ops K (⟨some t,op,ty,pos,after,none⟩::rest) F H=qF ((c::C).contains t) (AX P (bZ F) H (wR (fun r=>gh (L,c::C,D) P ops K rest (cH F (some t) r) H) .mk) op)
   (qF (D.contains t) (sO P (L,c::C,D) (bZ F) H (AP (fun r H'=>gh (L,c::C,D) P ops K rest (cH F (some t) r) H') .mk) op) (jx (L,c::C,D) (bZ F) op=true/\gj P (bZ F) H ty (AP (fun r H'=>gh (L,c::C,D) P ops K rest (cH F (some t) r) H') .mk) op) .mk .mk) .mk .mk:=(rfl)
@[go_sem] def j1p{c t:Nat}(op:Op)(ty:SL)(pos:String)(after:Array Edge)(rest:List Oper)(F:SG)(H:Hp) :
  gh (L,[],c::D) P ops K (⟨some t,op,ty,pos,after,none⟩::rest) F H=qF ((c::D).contains t) (sO P (L,[],c::D) (bZ F) H (AP (fun r H'=>gh (L,[],c::D) P ops K rest (cH F (some t) r) H') .mk) op)
   (jx (L,[],c::D) (bZ F) op=true/\gj P (bZ F) H ty (AP (fun r H'=>gh (L,[],c::D) P ops K rest (cH F (some t) r) H') .mk) op) .mk .mk:=(rfl)
@[go_sem] def j43:(∀{P:SQ} {A:AS} {ev:SM} {H:Hp} {K:SD} (f:Operand) (as:Array Operand) (ts:Array SL),sO P A ev H K (.call ⟨.value f,as,ts⟩)=fz P (ev f) (as.toList.map ev) H (AP (fun r H'=>eO A H H'/\K r H') .mk))/\(∀{P:SQ} {ev:SM} {H:Hp} {K:AV->Prop} (f:Operand) (as:Array Operand) (ts:Array SL),AX P ev H K (.call ⟨.value f,as,ts⟩)=∃r,(fz P (ev f) (as.toList.map ev) H fun r' H'=>r'=r/\H'=H)/\K r):=by and_intros<;>(intros;rfl)
def v8(b:Bool)(X Y:Prop)(_:io X)(_:io Y):Prop:=(b=true->X)/\(b=false->Y)
@[go_sem] def j4X(X Y:Prop)(d:io X)(e:io Y):v8 true X Y d e=X:=by unfold v8;simp
@[go_sem] def j3J(X Y:Prop)(d:io X)(e:io Y):v8 false X Y d e=Y:=by unfold v8;simp
@[go_sem] def j1r(dst:Option Tmp)(op:Op)(ty:SL)(pos:String)(after:Array Edge)(j:Nat)(want:Bool)(rest:List Oper)(F:SG)(H:Hp) :
  gh (L,C,[]) P ops K (⟨dst,op,ty,pos,after,some (j,want)⟩::rest) F H=uu (mV ops F j want) (fun b=>(lj op || iZ op)=true/\fj P F H b (wR (fun r=>gh (L,C,[]) P ops K rest (cH F dst r) H) .mk) op) .mk:=by
 have e:qm (L,C,[]) ⟨dst,op,ty,pos,after,some (j,want)⟩=false:=by unfold qm pu;cases dst<;>simp
 unfold uu;conv=>lhs;unfold gh
 simp only[e];rfl
def tq(F:SG):List Operand->Prop
 |[]=>True
 |x::l=>(mh (bZ F x)).1=true/\tq F l
theorem Jc(F:SG):∀l:List Operand,((l.all fun x=>(mh (bZ F x)).1)=true)=tq F l
 |[]=>by simp[tq]
 |x::l=>by have:=Jc F l;simp only[List.all_cons,Bool.and_eq_true,tq,this]
def N6(F:SG)(f:Operand)(as:Array Operand)(ts:Array SL):(gQ F (.call ⟨.value f,as,ts⟩)=true)=((mh (bZ F f)).1=true/\tq F as.toList):=by rw[<-Jc];unfold gQ;simp[Op.operands,Call.operands]
attribute [go_sem] tq
attribute [go_sem] dR pg pK
universe u
def bo:Nat->Nat->SJ
 |_,0=>[]
 |k,n+1=>k::bo (k+1) n
variable{q:Prop}
def dT(e:q:=by first|(simp(disch:=first|omega|assumption|fail) only[go_sem,sM,W,↓reduceIte,Int.reduceEq,Int.reduceLE,Int.reduceLT,Int.reduceNe,Int.reduceToNat,Nat.reduceMul,Nat.reduceAdd,Nat.reduceLeDiff,Nat.reduceSub,Nat.reduceEqDiff,Nat.reduceBEq,List.nodup_cons,List.nodup_nil,List.mem_cons,List.not_mem_nil,List.mem_nil_iff];done)|(simp(disch:=first|omega|assumption|fail) only[go_sem,sM,↓reduceIte,Int.reduceEq,Int.reduceLE,Int.reduceLT,Int.reduceNe,Int.reduceToNat,Nat.reduceMul,Nat.reduceAdd,Nat.reduceLeDiff,Nat.reduceSub,Nat.reduceEqDiff,Nat.reduceBEq,List.nodup_cons,List.nodup_nil,List.mem_cons,List.not_mem_nil,List.mem_nil_iff];done)|fail):q:=e
def fq(e:q:=by first|(simp(disch:=first|omega|assumption|fail) only[go_sem,sM,W,↓reduceIte,Int.reduceEq,Int.reduceLE,Int.reduceLT,Int.reduceNe,Int.reduceToNat,Nat.reduceMul,Nat.reduceAdd,Nat.reduceLeDiff,Nat.reduceSub,Nat.reduceEqDiff,Nat.reduceBEq,List.nodup_cons,List.nodup_nil,List.mem_cons,List.not_mem_nil,List.mem_nil_iff];rfl)|(simp(disch:=first|omega|assumption|fail) only[go_sem,sM,↓reduceIte,Int.reduceEq,Int.reduceLE,Int.reduceLT,Int.reduceNe,Int.reduceToNat,Nat.reduceMul,Nat.reduceAdd,Nat.reduceLeDiff,Nat.reduceSub,Nat.reduceEqDiff,Nat.reduceBEq,List.nodup_cons,List.nodup_nil,List.mem_cons,List.not_mem_nil,List.mem_nil_iff];rfl)|rfl|fail):q:=e
def QY(e:q:=by first|(simp(disch:=first|omega|assumption|fail) only[go_sem,sM,W,↓reduceIte,Int.reduceEq,Int.reduceLE,Int.reduceLT,Int.reduceNe,Int.reduceToNat,Nat.reduceMul,Nat.reduceAdd,Nat.reduceLeDiff,Nat.reduceSub,Nat.reduceEqDiff,Nat.reduceBEq,List.nodup_cons,List.nodup_nil,List.mem_cons,List.not_mem_nil,List.mem_nil_iff];rfl)|(simp(disch:=first|omega|assumption|fail) only[go_sem,sM,↓reduceIte,Int.reduceEq,Int.reduceLE,Int.reduceLT,Int.reduceNe,Int.reduceToNat,Nat.reduceMul,Nat.reduceAdd,Nat.reduceLeDiff,Nat.reduceSub,Nat.reduceEqDiff,Nat.reduceBEq,List.nodup_cons,List.nodup_nil,List.mem_cons,List.not_mem_nil,List.mem_nil_iff];rfl)|fail):q:=e
def Dw(e:q:=by first|(exact tN)|rfl|fail):q:=e
variable{α:Type}
@[go_sem] def jw3[Inhabited α](f:α->SG)(a:List α)(b:SE)(k:Nat)(h:k<a.length):(a.map f++b).getD k []=f (nth a k):=by rw[dV h,List.getD_eq_getElem?_getD,List.getElem?_append_left (by simpa using h)];simp[h]
attribute [go_sem] List.isEmpty_nil
@[congr] theorem j1I{c:Code}{F':SG}{H':Hp}(h1:F=F')(h2:H=H'):dw P c Q F H=dw P c Q F' H':=by rw[h1,h2]
def nJ(p q:Prop):Prop:=q->p
section
variable {P:SQ}{Q:Exit->SC}{F:SG}{H:Hp}
variable{id:Nat}{q:Prop}
def N8{l:List Oper}(e:lp P l.toArray (Q .normal) l F H=q):nJ (dw P (.region id l.toArray false) Q F H) q:=fun h=>Sz (e ▸ h)
def Pt{c:Code}:nJ (dw P (.block id c) Q F H) (dw P c (sC id Q) F H):=Np
def Oe(e:Q .normal F H=q):nJ (dw P .skip Q F H) q:=fun h=>Pv (e ▸ h)
def Qz(e:Q (.exit id) F H=q):nJ (dw P (.exit id) Q F H) q:=fun h=>Ju (e ▸ h)
def K6(e:Q .ret F H=q):nJ (dw P .ret Q F H) q:=fun h=>Lv (e ▸ h)
end
section
variable {P:SQ}{H:Hp}{K:SD}
variable{t:SL}{q:Prop}
def Qo{zs:SO}(hz:ff P t=some zs)(e:K (.pt (nx H.l) 0 0 0) (H.put (nx H.l) (.var t (zs.map .raw)))=q):nJ (od P H t K) q:=fun h=>Mq hz (e ▸ h)
def Qh{x:AV}(ho:dp x.cells=true)(e:K (.pt (nx H.l) 0 0 0) (H.put (nx H.l) (.var t x.cells))=q):nJ (rJ H t x K) q:=fun h=>LF ho (e ▸ h)
def Qp{A:Nat->Prop}{d:io A}(e:A (nx H.l)=q):nJ (uN H A d) q:=fun h=>MP (e ▸ h)
def Pp{sz:Nat}(h0:0<sz)(e:K (.rs (nx H.l) 0 sz 0) (H.put (nx H.l) (.aK t sz []))=q):nJ (sc t sz [] H K) q:=fun h=>LV h0 (e ▸ h)
def MM{sz:Nat}{css:SE}(h1:ba cZ css.flatten=true)(e:K (.sl true sz css []) H=q):nJ (sc t sz css H K) q:=fun h=>K8 h1 (e ▸ h)
def P9{a x:AV}(e:xi P t a x H K=q):nJ (qs P t t a x H K) q:=fun h=>G9 (e ▸ h)
def Rv{d:io K}{r:AV}(e:K r H=q):nJ (AP K d r H) q:=fun h=>QA (e ▸ h)
def Qb{a b:Prop}(h:a):nJ (a/\b) b:=fun k=>⟨h,k⟩
end
variable{p:Prop}
def ax(h:q)(e:nJ p q:=by first
 |((with_reducible apply N8);exact fq)
 |with_reducible exact Pt
 |((with_reducible apply Qz);exact Dw)
 |((with_reducible apply K6);exact Dw)
 |((with_reducible apply Oe);exact Dw)
 |fail):p:=e h
def ay(h:q)(e:nJ p q:=by first
 |((with_reducible apply P9);exact fq)
 |((with_reducible apply Rv);exact fq)
 |((with_reducible apply Pp);(focus (exact dT));exact fq)
 |((with_reducible apply MM);(focus (simp only[go_sem]));exact fq)
 |((with_reducible apply Qo);(focus (simp only[go_sem];rfl));exact fq)
 |((with_reducible apply Qh);(focus (simp only[go_sem]));exact fq)
 |((with_reducible apply Qp);exact fq)
 |((with_reducible apply Qb);first|omega|(simp +contextual;done)|(simp +contextual;intros;omega)|fail)
 |fail):p:=e h
def S(h:q)(e:p=q:=by exact QY):p:=e ▸ h
def Sd(e:p=True:=by exact dT):p:=of_eq_true e
def az{c:Operand}{x y:Code}{b:Bool}{pt pf:Prop}(ht:pt->dw P x Q F H)(hf:pf->dw P y Q F H)(hc:bZ F c=.raw (.bool b):=by rfl)
 (et:(b=true)=pt:=by first|(simp only[Int.reduceEq,Int.reduceLE,Int.reduceLT,Int.reduceNe,false_and,and_false,true_and,and_true,or_false,false_or,true_or,or_true,Bool.false_eq_true,Bool.true_eq_false,eq_self,reduceCtorEq,Bool.not_true,Bool.not_false,Bool.and_eq_true,Bool.or_eq_true,Bool.and_eq_false_iff,Bool.or_eq_false_iff,decide_eq_true_eq,decide_eq_false_iff_not,Bool.not_eq_true',Bool.not_eq_false',Int.not_lt,Int.not_le];rfl)|rfl) (ef:(b=false)=pf:=by first|(simp only[Int.reduceEq,Int.reduceLE,Int.reduceLT,Int.reduceNe,false_and,and_false,true_and,and_true,or_false,false_or,true_or,or_true,Bool.false_eq_true,Bool.true_eq_false,eq_self,reduceCtorEq,Bool.not_true,Bool.not_false,Bool.and_eq_true,Bool.or_eq_true,Bool.and_eq_false_iff,Bool.or_eq_false_iff,decide_eq_true_eq,decide_eq_false_iff_not,Bool.not_eq_true',Bool.not_eq_false',Int.not_lt,Int.not_le];rfl)|rfl):dw P (.cond c x y) Q F H:=Mj hc (fun h=>ht (et ▸ h)) (fun h=>hf (ef ▸ h))
section
variable {P:SQ}{f:FuncId}{args:SG}{H:Hp}{K:SD}{q:Prop}
variable{r0:AV}
def cm{l l0:SF}(hc:ai P f args l fun r l'=>r=r0/\l'=l0)(k:q)(h1:fits l H:=by exact dT)(h0:bn P f=true:=by exact dT)(h2:ba (fun i=>(ids l).contains i) args=true:=by exact dT)(h3:tH (fun i=>(ids l).contains i) l:=by exact dT)
 (h4:fresh (ids l) H l0:=by exact dT) (h5:(ids l0).Nodup:=by exact dT) (e:K r0 ⟨H.B,jR H.l l0⟩=q:=by exact fq):fz P (.raw (.func (.func f) #[] #[])) args H K:=mZ h0 (wF hc h1 h2 h3 h4 h5 (e ▸ k))
def cp(hc:aP P f args r0)(k:q)(h0:bn P f=true:=by exact dT)(h2:ba cZ args=true:=by exact dT)(e:K r0 H=q:=by exact fq):fz P (.raw (.func (.func f) #[] #[])) args H K:=mZ h0 (yE hc h2 (e ▸ k))
def cg{g:Prop}{R:AV->Prop}{A:Prop}(hc:aP P f args r0)(k:q)(h0:bn P f=true:=by exact dT)(h2:ba cZ args=true:=by exact dT)(hA:g->A:=by first|exact id|(intro _;exact jI)|fail)(e:R r0=q:=by exact fq) :
  ∃r,(g->A/\fz P (.raw (.func (.func f) #[] #[])) args H fun r' H'=>r'=r/\H'=H)/\R r:=⟨r0,fun hg=>⟨hA hg,mZ h0 (yE hc h2 ⟨rfl,rfl⟩)⟩,e ▸ k⟩
def yY{g:Prop}{R:AV->Prop}(hc:aP P f args r0)(k:q)(h0:bn P f=true:=by exact dT)(h2:ba cZ args=true:=by exact dT)(e:R r0=q:=by exact fq) :
  ∃r,(g->fz P (.raw (.func (.func f) #[] #[])) args H fun r' H'=>r'=r/\H'=H)/\R r:=⟨r0,fun _=>mZ h0 (yE hc h2 ⟨rfl,rfl⟩),e ▸ k⟩
end
def dJ.perm{B:SJ}{l:SF}(l':SF)(h:∀i,aD l i=aD l' i):dJ F ⟨B,l⟩ F ⟨B,l'⟩:=fun w tm h1 h2=>by
 have hg:∀i,(Hp.mk B l').get i=(Hp.mk B l).get i:=fun i=>(h i).symm
 exact⟨w,rfl,{ rows:=fun i r hi=>h1.rows i r ((hg i) ▸ hi),dZ:=fun i m z hz=>by rw[hg];exact h1.dZ i m z hz,inj:=h1.inj,own:=h1.own,fin:=h1.fin,cv:=h1.cv },h2,{ ExtQ.refl _ w with base:=rfl }⟩
variable{t:SL}{K:SD}
def al(i:Nat){zs:SO}(k:q)(hi:H.get i=none:=by rfl)(hz:ff P t=some zs:=by(simp only[go_sem];rfl))(e:K (.pt i 0 0 0) (H.put i (.var t (zs.map .raw)))=q:=by exact fq):od P H t K:=yX i hz hi (e ▸ k)
def bx(i:Nat){x:AV}(k:q)(hi:H.get i=none:=by rfl)(ho:dp x.cells=true:=by simp only[go_sem])(e:K (.pt i 0 0 0) (H.put i (.var t x.cells))=q:=by exact fq):rJ H t x K:=Ab i ho hi (e ▸ k)
def sP{enc:α->SG}(vars more ys:List α){i:Nat}{m sz n:Nat}{css yss:SE}(k:q)(hm:m=vars.length+more.length:=by first|rfl|(simp only[go_sem];done)|omega)(hn:n=vars.length:=by rfl)(hc:css=(vars++more).map enc:=by first|rfl|exact List.map_append.symm|(simp only[go_sem,List.map_append];done))(hy:yss=ys.map enc:=by rfl)
 (e:K (.rs i (vars.length+ys.length+(more.drop ys.length).length) sz (vars.length+ys.length)) (H.put i (.aK t sz ((vars++ys++more.drop ys.length).map enc)))=q:=by exact fq):uq i t m sz n css yss H K:=NE vars more ys hm hn hc hy (e ▸ k)
section
variable {P:SQ}{Q:Exit->SC}{F:SG}{H:Hp}
def gR{P:SQ}{Q:Exit->SC}{F:SG}{H:Hp}(id:Nat){l:Array Oper}{b:Bool}(h:dw P (.region id l b) Q F H):dw P (.region id l b) Q F H:=h
variable{l:List Oper}{q:Prop}
def dE(id:Nat)(ord:SJ)(hm:P.follows .mixedOrders=true)(h:q)(hok:o8 ([],[],[]) [] l ord=true:=by decide +kernel)(e:gh ([],[],[]) P l.toArray (Q .normal) (ord.map (dR l)) F H=q:=by(simp only[bo,List.map_cons,List.map_nil,dR,List.getD_cons_zero,List.getD_cons_succ];exact fq)):dw P (.region id l.toArray true) Q F H:=NJ ord hm hok (e ▸ h)
def dA(id:Nat)(A ord:SJ)(hm:P.follows .mixedOrders=true)(h:q)(hok:o8 (A,[],[]) [] l ord=true:=by decide +kernel)(e:gh (A,[],[]) P l.toArray (Q .normal) (ord.map (dR l)) F H=q:=by(simp only[bo,List.map_cons,List.map_nil,dR,List.getD_cons_zero,List.getD_cons_succ];exact fq)):dw P (.region id l.toArray true) Q F H:=Jl (A,[],[]) ord hm hok (e ▸ h)
def dL(id:Nat)(A E ord:SJ)(hm:P.follows .mixedOrders=true)(h:q)(hok:o8 (A,[],[]) E l ord=true:=by decide +kernel)(hE:pK P l E:=by simp only[pK,dR,List.getD_cons_zero,List.getD_cons_succ,go_sem])(e:gh (A,[],[]) P l.toArray (Q .normal) (ord.map (dR l)) F H=q:=by(simp only[bo,List.map_cons,List.map_nil,dR,List.getD_cons_zero,List.getD_cons_succ];exact fq)):dw P (.region id l.toArray true) Q F H:=yw (A,[],[]) E ord hm hok hE (e ▸ h)
def dC(id:Nat)(A:AS)(E ord:SJ)(hm:P.follows .mixedOrders=true)(h:q)(hok:o8 A E l ord=true:=by decide +kernel)(hE:pK P l E:=by simp only[pK,dR,List.getD_cons_zero,List.getD_cons_succ,go_sem])(e:gh A P l.toArray (Q .normal) (ord.map (dR l)) F H=q:=by(simp only[bo,List.map_cons,List.map_nil,dR,List.getD_cons_zero,List.getD_cons_succ];exact fq)):dw P (.region id l.toArray true) Q F H:=yw A E ord hm hok hE (e ▸ h)
def dQ(id:Nat)(hm:P.follows .mixedOrders=true)(h:q)(hok:tL l=true:=by decide +kernel)(e:jK P l.toArray H (fun F'=>Q .normal F' H) l F=q:=by exact fq):dw P (.region id l.toArray true) Q F H:=Sj hm hok (e ▸ h)
def Fm{c:Code}(L:SJ)(slot:Nat)(a:AV)(hB:H.B.all (fu fun i=>L.contains i)=true)(hl:gp (fun i=>L.contains i) H.l)(hv:bK (fun i=>L.contains i) H F (F.set slot a))(h:dw P c Q (F.set slot a) ⟨H.B,eP (fun i=>L.contains i) H.l⟩):dw P c Q F H:=iJ (dJ.free _ hB hl hv) h
def PB{c:Code}(L:SJ)(W:List (Nat×Nat))(J:List (Nat×AV))(h0:(L.any fun i=>(H.get i).isSome)=true)(hB:H.B.all (fu fun i=>L.contains i)=true)(hl:gp (fun i=>L.contains i) H.l)(hv:bK (fun i=>L.contains i) H F (mg J (mT W F)))(h:dw P c Q (mg J (mT W F)) ⟨H.B,eP (fun i=>L.contains i) H.l⟩):dw P c Q F H:=iJ (dJ.free _ hB hl hv) h
end
def jn{H':Hp}(e:H=H':=by first|(simp only[go_sem];done)|(simp only[go_sem];rfl)|rfl|fail):H=H':=e
def cI{F':SG}(e:jL F F':=by(simp only[go_sem,jL,Nat.reduceAdd,AV.raw.injEq,Value.int.injEq,Value.slice.injEq,Value.pointer.injEq,AV.rs.injEq];try omega)):jL F F':=e
def lU{D:SP}{l m:SG}(e:bK D H l m:=by(simp only[go_sem,↓reduceIte,Int.reduceEq,Int.reduceLE,Int.reduceLT,Int.reduceNe,Int.reduceToNat,Nat.reduceMul,Nat.reduceAdd,Nat.reduceLeDiff,Nat.reduceSub,Nat.reduceEqDiff,Nat.reduceBEq,List.nodup_cons,List.nodup_nil,List.mem_cons,List.not_mem_nil,List.mem_nil_iff];repeat' (first|exact jI|exact E0 _|exact dM.nil _ _|exact dM.lit _ _ _ _ _|exact dM.same _ rfl|(exact dM.same _ (by exact vK))|(exact dM.row _ (by first|rfl|(exact vK)) (by first|(exact vK)|rfl|(exact tN)) (by first|rfl|(simp only[go_sem];done)|omega))|refine jA ?_ ?_|fail))):bK D H l m:=e
def DG{l:List Oper}{b:Bool}(L:SJ)(W:List (Nat×Nat))(J:List (Nat×AV))(h:q)(h0:(L.any fun i=>(H.get i).isSome)=true:=by rfl)(hB:H.B.all (fu fun i=>L.contains i)=true:=by exact dT)(hl:gp (fun i=>L.contains i) H.l:=by exact dT)
 (hv:bK (fun i=>L.contains i) H F (mg J (mT W F)):=by exact lU) (e:dw P (.region id l.toArray b) Q (mg J (mT W F)) ⟨H.B,eP (fun i=>L.contains i) H.l⟩=q:=by exact fq):dw P (.region id l.toArray b) Q F H:=PB L W J h0 hB hl hv (e ▸ h)
def df{f:FuncId}{fn:Func}{c:Code}{args:SG}{r:AV}{k:Nat}(hf:P.funcs[f]?=some fn)(hn:fn.ntmps=k)(h:dw P c (ju P fn fun r' l'=>r'=r/\l'=[]) F ⟨[],[]⟩)(hb:fn.body=some c:=by rfl)
 (hF:args++List.replicate (k-args.length) .any=F:=by(simp only[List.length_cons,List.length_nil,Nat.reduceAdd,Nat.reduceSub,List.replicate,List.cons_append,List.nil_append];rfl)):aP P f args r:=LC hf hb (by rw[hn];exact hF) h
def aU{f:FuncId}{fn:Func}{c:Code}{args:SG}{l:SF}{R:AV->List SS->Prop}{k:Nat}(hf:P.funcs[f]?=some fn)(hn:fn.ntmps=k)(h:dw P c (ju P fn R) F ⟨L,l⟩)(hb:fn.body=some c:=by rfl)(hL:ids l=L:=by rfl)
 (hF:args++List.replicate (k-args.length) .any=F:=by(simp only[List.length_cons,List.length_nil,Nat.reduceAdd,Nat.reduceSub,List.replicate,List.cons_append,List.nil_append];rfl)):ai P f args l R:=Pr hf hb (by rw[hn];exact hF) hL h
section
variable {P:SQ}{fn:Func}{F:SG}{H:Hp}{out:SG}{e:Exit}{r:AV}{l:SF}
def cr(rs:List ResultVar)(h1:iG out=r)(h2:H.l=l)(UI:fn.results.toList=rs:=by rfl)(he:e=.normal\/e=.ret:=by first|exact Or.inr rfl|exact Or.inl rfl|fail)(ho:iC P H F rs=some out:=by(exact tN))(hok:jb P H F rs:=by exact vK) :
  ju P fn (fun r' l'=>r'=r/\l'=l) e F H:=Qf rs UI he ho hok h1 h2
def bG(rs:List ResultVar)(hv:iG out=r)(UI:fn.results.toList=rs:=by rfl)(he:e=.normal\/e=.ret:=by first|exact Or.inr rfl|exact Or.inl rfl|fail)(ho:iC P H F rs=some out:=by(exact tN))(hok:jb P H F rs:=by exact vK)(hl:gp (mR H.B) H.l:=by exact dT)
 (hq:(iG out).all (fu (mR H.B))=true:=by exact dT) (h2:eP (mR H.B) H.l=l:=by first|rfl|(exact dT)|(exact tN)|fail):ju P fn (fun r' l'=>r'=r/\l'=l) e F H:=DP rs UI he ho hok hl (tE hv hq) h2
def lW(rs:List ResultVar)(hv:dM (mR H.B) H (iG out) r)(UI:fn.results.toList=rs:=by rfl)(he:e=.normal\/e=.ret:=by first|exact Or.inr rfl|exact Or.inl rfl|fail)(ho:iC P H F rs=some out:=by(exact tN))(hok:jb P H F rs:=by exact vK)(hl:gp (mR H.B) H.l:=by exact dT)
 (h2:eP (mR H.B) H.l=l:=by first|rfl|(exact dT)|(exact tN)|fail):ju P fn (fun r' l'=>r'=r/\l'=l) e F H:=DP rs UI he ho hok hl hv h2
end
@[go_sem] def jy8(enc:α->SG)(l:List α)(k:Nat)(x:α):(l.map enc).set k (enc x)=(l.set k x).map enc:=List.map_set.symm
attribute [go_sem] List.length_set
def eI(x:Int):SG:=[.raw (.int .i64 x)]
instance:cc eI 1:=⟨fun _=>rfl,fun _=>rfl,fun _=>rfl⟩
@[go_sem] def j8n:(∀(x:Int),(eI x).length=1)/\(∀(x:Int),(eI x).getD 0 .any=.raw (.int .i64 x))/\(∀(x:Int),(eI x).drop 1=[]):=by and_intros<;>(intros;rfl)
@[go_sem] def j8o(l:SI)(k:Nat)(x:Int):(l.map eI).set k [.raw (.int .i64 x)]=(l.set k x).map eI:=(List.map_set (f:=eI)).symm
def eS(x:SK):SG:=[.raw (.string x)]
instance:cc eS 1:=⟨fun _=>rfl,fun _=>rfl,fun _=>rfl⟩
@[go_sem] def j8q:(∀(x:SK),(eS x).length=1)/\(∀(x:SK),(eS x).getD 0 .any=.raw (.string x)):=by and_intros<;>(intros;rfl)
def eB(x:Bool):SG:=[.raw (.bool x)]
instance:cc eB 1:=⟨fun _=>rfl,fun _=>rfl,fun _=>rfl⟩
def eU(x:Int):SG:=[.raw (.int .u8 x)]
instance:cc eU 1:=⟨fun _=>rfl,fun _=>rfl,fun _=>rfl⟩
def kg(x:SI):SG:=[bh eI 1 x]
instance:cc kg 1:=⟨fun _=>rfl,fun _=>rfl,fun _=>rfl⟩
@[go_sem] def j5u:(∀(x:SI),(kg x).length=1)/\(∀(x:SI),(kg x).getD 0 .any=bh eI 1 x):=by and_intros<;>(intros;rfl)
structure cB where
 kind:Int
 text:ByteArray
 at_:Int
 deriving Inhabited,DecidableEq
def mB(x:cB):SG:=[.raw (.int .i64 x.kind),.raw (.string x.text),.raw (.int .i64 x.at_)]
section
variable (x y:cB)
@[go_sem] def jyp:((mB x).length=3)/\((mB x).all AV.one=true):=by and_intros<;>(intros;rfl)
@[go_sem] def PG(q:SP):ba q (mB x)=true:=by simp[mB,ba,AV.all]
instance:cc mB 3:=⟨fun _=>rfl,fun _=>rfl,fun x=>PG x _⟩
@[go_sem] def jwX:((mB x).take 3=mB x)/\((mB x).getD 0 .any=.raw (.int .i64 x.kind))/\((mB x).getD 1 .any=.raw (.string x.text))/\((mB x).getD 2 .any=.raw (.int .i64 x.at_)):=by and_intros<;>(intros;rfl)
end
structure bu where
 kind:Int
 cU:Int
 n:Int
 name:ByteArray
 l:List Int
 deriving Inhabited,DecidableEq
def dO(x:bu):SG:=[.raw (.int .i64 x.kind),.raw (.int .i64 x.cU),.raw (.int .i64 x.n),.raw (.string x.name),bh eI 1 x.l]
section
variable (x y:bu)
@[go_sem] def j0t:((dO x).length=5)/\((dO x).all AV.one=true):=by and_intros<;>(intros;rfl)
@[go_sem] def C6(q:SP):ba q (dO x)=true:=by simp[dO,ba,AV.all]
instance:cc dO 5:=⟨fun _=>rfl,fun _=>rfl,fun x=>C6 x _⟩
@[go_sem] def jyg:((dO x).take 5=dO x)/\((dO x).getD 0 .any=.raw (.int .i64 x.kind))/\((dO x).getD 1 .any=.raw (.int .i64 x.cU))/\((dO x).getD 2 .any=.raw (.int .i64 x.n))/\((dO x).getD 3 .any=.raw (.string x.name))/\((dO x).getD 4 .any=bh eI 1 x.l):=by and_intros<;>(intros;rfl)
end
structure ak where
 ty:Int
 n:Int
 s:ByteArray
 deriving Inhabited,DecidableEq
def bM(x:ak):SG:=[.raw (.int .i64 x.ty),.raw (.int .i64 x.n),.raw (.string x.s)]
section
variable (x y:ak)
@[go_sem] def jys:((bM x).length=3)/\((bM x).all AV.one=true):=by and_intros<;>(intros;rfl)
@[go_sem] def Pc(q:SP):ba q (bM x)=true:=by simp[bM,ba,AV.all]
instance:cc bM 3:=⟨fun _=>rfl,fun _=>rfl,fun x=>Pc x _⟩
@[go_sem] def jwZ:((bM x).take 3=bM x)/\((bM x).getD 0 .any=.raw (.int .i64 x.ty))/\((bM x).getD 1 .any=.raw (.int .i64 x.n))/\(∀(v:Int),List.take 1 (bM x)++[.raw (.int .i64 v)]++List.drop 2 (bM x)=bM { x with n:=v })/\((bM x).getD 2 .any=.raw (.string x.s))/\((bM x).map ka=[some (.int .i64),some (.int .i64),some .str]):=by and_intros<;>(intros;rfl)
@[go_sem] def j0R:jm (bM x) (bM y)=decide (x=y):=by rw[Bool.eq_iff_iff];obtain⟨a7,a8,a9⟩:=x;obtain⟨b10,b11,b12⟩:=y;simp[bM,jm]
end
structure bQ where
 name:ByteArray
 ty:Int
 deriving Inhabited,DecidableEq
def oZ(x:bQ):SG:=[.raw (.string x.name),.raw (.int .i64 x.ty)]
section
variable (x y:bQ)
@[go_sem] def jyh:(oZ x).length=2:=(rfl)
@[go_sem] def JA(q:SP):ba q (oZ x)=true:=by simp[oZ,ba,AV.all]
instance:cc oZ 2:=⟨fun _=>rfl,fun _=>rfl,fun x=>JA x _⟩
@[go_sem] def j0u:((oZ x).getD 0 .any=.raw (.string x.name))/\((oZ x).getD 1 .any=.raw (.int .i64 x.ty)):=by and_intros<;>(intros;rfl)
end
structure bg where
 name:ByteArray
 cU:Int
 params:List bQ
 ret:Int
 body:Int
 deriving Inhabited,DecidableEq
def gr(x:bg):SG:=[.raw (.string x.name),.raw (.int .i64 x.cU),bh oZ 2 x.params,.raw (.int .i64 x.ret),.raw (.int .i64 x.body)]
section
variable (x y:bg)
@[go_sem] def j0n:((gr x).length=5)/\((gr x).all AV.one=true):=by and_intros<;>(intros;rfl)
@[go_sem] def K4(q:SP):ba q (gr x)=true:=by simp[gr,ba,AV.all]
instance:cc gr 5:=⟨fun _=>rfl,fun _=>rfl,fun x=>K4 x _⟩
@[go_sem] def jyd:((gr x).take 5=gr x)/\((gr x).getD 0 .any=.raw (.string x.name))/\((gr x).getD 2 .any=bh oZ 2 x.params)/\((gr x).getD 3 .any=.raw (.int .i64 x.ret))/\((gr x).getD 4 .any=.raw (.int .i64 x.body)):=by and_intros<;>(intros;rfl)
end
structure aF where
 nodes:List bu
 aq:List bg
 deriving Inhabited,DecidableEq
def lS(x:aF):SG:=[bh dO 5 x.nodes,bh gr 5 x.aq]
section
variable (x y:aF)
@[go_sem] def j0Q:((lS x).length=2)/\((lS x).all AV.one=true):=by and_intros<;>(intros;rfl)
@[go_sem] def Kf(q:SP):ba q (lS x)=true:=by simp[lS,ba,AV.all]
instance:cc lS 2:=⟨fun _=>rfl,fun _=>rfl,fun x=>Kf x _⟩
@[go_sem] def jyr:((lS x).take 2=lS x)/\((lS x).getD 0 .any=bh dO 5 x.nodes)/\((lS x).getD 1 .any=bh gr 5 x.aq):=by and_intros<;>(intros;rfl)
end
structure bP where
 name:ByteArray
 ty:Int
 slot:Int
 deriving Inhabited,DecidableEq
def tj(x:bP):SG:=[.raw (.string x.name),.raw (.int .i64 x.ty),.raw (.int .i64 x.slot)]
section
variable (x y:bP)
@[go_sem] def j2q:(tj x).length=3:=(rfl)
@[go_sem] def N4(q:SP):ba q (tj x)=true:=by simp[tj,ba,AV.all]
instance:cc tj 3:=⟨fun _=>rfl,fun _=>rfl,fun x=>N4 x _⟩
@[go_sem] def j4c:((tj x).getD 0 .any=.raw (.string x.name))/\((tj x).getD 1 .any=.raw (.int .i64 x.ty))/\((tj x).getD 2 .any=.raw (.int .i64 x.slot)):=by and_intros<;>(intros;rfl)
end
structure ab where
 aa:aF
 types:List Int
 slots:List Int
 fn:List Int
 size:List Int
 deriving Inhabited,DecidableEq
def bV(x:ab):SG:=[bh dO 5 x.aa.nodes,bh gr 5 x.aa.aq,bh eI 1 x.types,bh eI 1 x.slots,bh eI 1 x.fn,bh eI 1 x.size]
section
variable (x y:ab)
@[go_sem] def j0z:((bV x).length=6)/\((bV x).all AV.one=true):=by and_intros<;>(intros;rfl)
@[go_sem] def Cx(q:SP):ba q (bV x)=true:=by simp[bV,ba,AV.all]
instance:cc bV 6:=⟨fun _=>rfl,fun _=>rfl,fun x=>Cx x _⟩
@[go_sem] def jyk:((bV x).take 6=bV x)/\((bV x).getD 0 .any=bh dO 5 x.aa.nodes)/\((bV x).getD 1 .any=bh gr 5 x.aa.aq)/\((bV x).getD 2 .any=bh eI 1 x.types)/\((bV x).getD 3 .any=bh eI 1 x.slots)/\((bV x).getD 5 .any=bh eI 1 x.size):=by and_intros<;>(intros;rfl)
end
structure bk where
 block:Int
 at_:Int
 deriving Inhabited,DecidableEq
def iU(x:bk):SG:=[.raw (.int .i64 x.block),.raw (.int .i64 x.at_)]
section
variable (x y:bk)
@[go_sem] def jyi:((iU x).length=2)/\((iU x).all AV.one=true):=by and_intros<;>(intros;rfl)
@[go_sem] def Py(q:SP):ba q (iU x)=true:=by simp[iU,ba,AV.all]
instance:cc iU 2:=⟨fun _=>rfl,fun _=>rfl,fun x=>Py x _⟩
@[go_sem] def jwT:((iU x).take 2=iU x)/\((iU x).getD 0 .any=.raw (.int .i64 x.block))/\((iU x).getD 1 .any=.raw (.int .i64 x.at_))/\(∀(v:Int),List.take 1 (iU x)++[.raw (.int .i64 v)]++List.drop 2 (iU x)=iU { x with at_:=v }):=by and_intros<;>(intros;rfl)
end
structure aH where
 fn:Int
 slots:List ak
 path:List bk
 deriving Inhabited,DecidableEq
def kS(x:aH):SG:=[.raw (.int .i64 x.fn),bh bM 3 x.slots,bh iU 2 x.path]
section
variable (x y:aH)
@[go_sem] def jyb:((kS x).length=3)/\((kS x).all AV.one=true):=by and_intros<;>(intros;rfl)
@[go_sem] def K3(q:SP):ba q (kS x)=true:=by simp[kS,ba,AV.all]
instance:cc kS 3:=⟨fun _=>rfl,fun _=>rfl,fun x=>K3 x _⟩
@[go_sem] def jwP:((kS x).take 3=kS x)/\((kS x).getD 0 .any=.raw (.int .i64 x.fn))/\((kS x).getD 1 .any=bh bM 3 x.slots)/\((kS x).getD 2 .any=bh iU 2 x.path):=by and_intros<;>(intros;rfl)
end
structure aM where
 ap:List aH
 heap:List (List Int)
 in_:Int
 aC:List ByteArray
 status:Int
 bp:Int
 time:Int
 deriving Inhabited,DecidableEq
def dD(x:aM):SG:=[bh kS 3 x.ap,bh kg 1 x.heap,.raw (.int .i64 x.in_),bh eS 1 x.aC,.raw (.int .i64 x.status),.raw (.int .i64 x.bp),.raw (.int .i64 x.time)]
section
variable (x y:aM)
@[go_sem] def jyo:((dD x).length=7)/\((dD x).all AV.one=true):=by and_intros<;>(intros;rfl)
@[go_sem] def xe(q:SP):ba q (dD x)=true:=by simp[dD,ba,AV.all]
instance:cc dD 7:=⟨fun _=>rfl,fun _=>rfl,fun x=>xe x _⟩
@[go_sem] def jwV:((dD x).take 7=dD x)/\((dD x).getD 0 .any=bh kS 3 x.ap)/\((dD x).getD 1 .any=bh kg 1 x.heap)/\((dD x).getD 2 .any=.raw (.int .i64 x.in_))/\((dD x).getD 3 .any=bh eS 1 x.aC)/\((dD x).getD 4 .any=.raw (.int .i64 x.status))/\(∀(v:Int),List.take 4 (dD x)++[.raw (.int .i64 v)]++List.drop 5 (dD x)=dD { x with status:=v })/\((dD x).getD 5 .any=.raw (.int .i64 x.bp))/\(∀(v:Int),List.take 5 (dD x)++[.raw (.int .i64 v)]++List.drop 6 (dD x)=dD { x with bp:=v })/\((dD x).getD 6 .any=.raw (.int .i64 x.time))/\(∀(v:Int),List.take 6 (dD x)++[.raw (.int .i64 v)]++List.drop 7 (dD x)=dD { x with time:=v }):=by and_intros<;>(intros;rfl)
end
structure lh where
 fn:Int
 node:Int
 slots:List ak
 deriving Inhabited,DecidableEq
def mo(x:lh):SG:=[.raw (.int .i64 x.fn),.raw (.int .i64 x.node),bh bM 3 x.slots]
section
variable (x y:lh)
@[go_sem] def j0B:((mo x).length=3)/\((mo x).all AV.one=true):=by and_intros<;>(intros;rfl)
@[go_sem] def M5(q:SP):ba q (mo x)=true:=by simp[mo,ba,AV.all]
instance:cc mo 3:=⟨fun _=>rfl,fun _=>rfl,fun x=>M5 x _⟩
@[go_sem] def jyn:((mo x).take 3=mo x)/\((mo x).getD 0 .any=.raw (.int .i64 x.fn))/\((mo x).getD 1 .any=.raw (.int .i64 x.node))/\((mo x).getD 2 .any=bh bM 3 x.slots):=by and_intros<;>(intros;rfl)
end
structure ld where
 calls:List lh
 heap:List (List Int)
 in_:Int
 aC:List ByteArray
 status:Int
 bp:Int
 time:Int
 deriving Inhabited,DecidableEq
def jU(x:ld):SG:=[bh mo 3 x.calls,bh kg 1 x.heap,.raw (.int .i64 x.in_),bh eS 1 x.aC,.raw (.int .i64 x.status),.raw (.int .i64 x.bp),.raw (.int .i64 x.time)]
section
variable (x y:ld)
@[go_sem] def j0A:((jU x).length=7)/\((jU x).all AV.one=true):=by and_intros<;>(intros;rfl)
@[go_sem] def Mh(q:SP):ba q (jU x)=true:=by simp[jU,ba,AV.all]
instance:cc jU 7:=⟨fun _=>rfl,fun _=>rfl,fun x=>Mh x _⟩
@[go_sem] def j2e:((jU x).getD 0 .any=bh mo 3 x.calls)/\((jU x).getD 1 .any=bh kg 1 x.heap)/\((jU x).getD 2 .any=.raw (.int .i64 x.in_))/\((jU x).getD 3 .any=bh eS 1 x.aC)/\((jU x).getD 4 .any=.raw (.int .i64 x.status))/\((jU x).getD 5 .any=.raw (.int .i64 x.bp))/\((jU x).getD 6 .any=.raw (.int .i64 x.time)):=by and_intros<;>(intros;rfl)
end
structure av where
 op:Int
 a:Int
 b:Int
 s:ByteArray
 deriving Inhabited,DecidableEq
def du(x:av):SG:=[.raw (.int .i64 x.op),.raw (.int .i64 x.a),.raw (.int .i64 x.b),.raw (.string x.s)]
section
variable (x y:av)
@[go_sem] def jye:((du x).length=4)/\((du x).all AV.one=true):=by and_intros<;>(intros;rfl)
@[go_sem] def LP(q:SP):ba q (du x)=true:=by simp[du,ba,AV.all]
instance:cc du 4:=⟨fun _=>rfl,fun _=>rfl,fun x=>LP x _⟩
@[go_sem] def jwR:((du x).take 4=du x)/\((du x).getD 0 .any=.raw (.int .i64 x.op))/\((du x).getD 1 .any=.raw (.int .i64 x.a))/\(∀(v:Int),List.take 1 (du x)++[.raw (.int .i64 v)]++List.drop 2 (du x)=du { x with a:=v })/\((du x).getD 2 .any=.raw (.int .i64 x.b))/\((du x).getD 3 .any=.raw (.string x.s)):=by and_intros<;>(intros;rfl)
end
structure aI where
 ins:List av
 entry:List Int
 deriving Inhabited,DecidableEq
def yg(x:aI):SG:=[bh du 4 x.ins,bh eI 1 x.entry]
section
variable (x y:aI)
@[go_sem] def PE(q:SP):ba q (yg x)=true:=by simp[yg,ba,AV.all]
instance:cc yg 2:=⟨fun _=>rfl,fun _=>rfl,fun x=>PE x _⟩
end
end Go.Gd