/- Lemmas. No conditions. -/
import Derived.Test.YtijdhbokcdpklaaGreatDoorGdL
set_option linter.all false
namespace Go.Gd
open Go
section
variable {P:UY}{ops:Array Oper}{H:Hp}
variable{ty:US}{K:UJ}
def vE{ev ev':UT}(o:Op)(h:∀x∈o.operands.toList,ev x=ev' x):vc P ev H ty K o=vc P ev' H ty K o:=by
 have quiet:((vq P ev H o).1/\K (vq P ev H o).2 H)=((vq P ev' H o).1/\K (vq P ev' H o).2 H):=by rw[rY o h]
 have other:jV P o ty ev H K=jV P o ty ev' H K:=by
  unfold jV;apply propext;constructor<;>intro hh w ρ dst pos after guard h1 h2
  ·exact hh w ρ dst pos after guard h1 fun x hx=>by rw[h x hx];exact h2 x hx
  ·exact hh w ρ dst pos after guard h1 fun x hx=>by rw[<-h x hx];exact h2 x hx
 cases o
 case box t x=>simp only[vc];rw[h x (by simp[Op.operands])]
 case store t a x=>simp only[vc];rw[h x (by simp[Op.operands]),h a (by simp[Op.operands])]
 case buildSlice t n ps=> simp only[Op.operands]at h;simp only[vc];rw[List.map_congr_left (g:=fun p=>(p.1,ev' p.2)) (fun x hx=>by rw[h x.2 (by simp at hx ⊢;exact⟨_,hx⟩)])]
 case binOp op t x y t'=>
  cases op<;>first
   |(simp only[vc];rw[h x (by simp[Op.operands]),h y (by simp[Op.operands])];done)
   |exact quiet
 case call c=>
  obtain⟨callee,args,ts⟩:=c;cases callee
  case value f=> simp only[Op.operands,Call.operands]at h;simp only[vc];rw[h f jE,List.map_congr_left (fun x hx=>h x (by simp at hx ⊢;exact .inr hx))]
  case invoke f m=> simp only[Op.operands,Call.operands]at h;simp only[vc];rw[h f jE,List.map_congr_left (fun x hx=>h x (by simp at hx ⊢;exact .inr hx))]
  case builtin b=>
   have hm:args.toList.map ev=args.toList.map ev':=List.map_congr_left fun x hx=>h x (by simpa[Op.operands,Call.operands]using hx)
   cases b
   case append=>
    simp only[vc];split
    ·rename_i t t' a x ht ha;rw[h a (by simp[Op.operands,Call.operands];rw[<-Array.mem_toList_iff,ha];simp),h x (by simp[Op.operands,Call.operands];rw[<-Array.mem_toList_iff,ha];simp)]
    ·rfl
   case len=>exact quiet
   case cap=>exact quiet
   case max=>exact quiet
   case min=>exact quiet
   all_goals(simp only[vc,dt,Bool.false_eq_true,if_false];rw[hm])
  all_goals exact other
 all_goals first
  |rfl
  |exact quiet
  |exact other
variable{t:US}{K':UJ}
def CL{n:Nat}{parts:List (Nat×AV)}(h:mK P H t n parts K)(hk:∀r H,K r H->K' r H):mK P H t n parts K':=by
 unfold mK at*;split at h
 ·rename_i e he;split at h
  ·refine⟨h.1,?_⟩;rcases h.2 with h2|⟨h2,i,h3,h4⟩
   ·exact .inl ⟨h2.1,hk _ _ h2.2⟩
   ·exact .inr ⟨h2,i,h3,hk _ _ h4⟩
  ·exact h.elim
 ·exact h.elim
def Kf{ev:UT}(o:Op)(hk:∀r H',K r H'->K' r H')(h:vc P ev H ty K o):vc P ev H ty K' o:=by
 have quiet:((vq P ev H o).1/\K (vq P ev H o).2 H)->((vq P ev H o).1/\K' (vq P ev H o).2 H):=fun h=>⟨h.1,hk _ _ h.2⟩
 have other:jV P o ty ev H K->jV P o ty ev H K':=fun hh w ρ dst pos after guard h1 h2=>by obtain⟨w',H',r,g1,g2⟩:=hh w ρ dst pos after guard h1 h2;exact⟨w',H',r,hk _ _ g1,g2⟩
 cases o
 case box t x=>obtain⟨h1,i,h2,h3⟩:=h;exact⟨h1,i,h2,hk _ _ h3⟩
 case alloc t=>
  simp only[vc,nS]at h ⊢;split at h
  ·obtain⟨i,h2,h3⟩:=h;exact⟨i,h2,hk _ _ h3⟩
  ·exact h.elim
 case store t a x=>
  simp only[vc,vJ]at h ⊢;split at h
  ·split at h
   ·exact⟨h.1,hk _ _ h.2⟩
   ·exact h.elim
  ·exact h.elim
 case buildSlice t n ps=>exact CL h hk
 case binOp op t x y t'=>
  have nileq:∀ne,qm P ne t (ev x) (ev y) H K->qm P ne t (ev x) (ev y) H K':=fun ne h=>by
   unfold qm at h ⊢;split at h
   ·exact⟨h.1,fun b hb=>hk _ _ (h.2 b hb)⟩
   ·exact⟨h.1,fun b hb=>hk _ _ (h.2 b hb)⟩
   ·rename_i U8;exact⟨h.1,hk _ _ h.2⟩
  cases op<;>first
   |exact nileq false h
   |exact nileq true h
   |exact quiet h
 case call c=>
  obtain⟨callee,args,ts⟩:=c;cases callee
  case value f=>exact yC h hk
  case invoke f m=>
   simp only[vc,qF]at h ⊢;split at h
   ·split at h
    ·exact yC h hk
    ·exact h.elim
   ·exact h.elim
  case builtin b=>
   have bvc:pO P b ts.toList (args.toList.map ev) H K->pO P b ts.toList (args.toList.map ev) H K':=fun hh w vs ty cs h1 h2=>by obtain⟨w',H',r,v,g1,g2,g3⟩:=hh w vs ty cs h1 h2;exact⟨w',H',r,v,g1,hk _ _ g2,g3⟩
   cases b
   case append=>
    simp only[vc]at h ⊢;split at h
    ·intro w va vx ty h1 h2 h3;obtain⟨w',H',r,v,g1,g2,g3⟩:=h w va vx ty h1 h2 h3;exact⟨w',H',r,v,g1,hk _ _ g2,g3⟩
    ·exact h.elim
   case len=>exact quiet h
   case cap=>exact quiet h
   case max=>exact quiet h
   case min=>exact quiet h
   all_goals exact bvc h
  all_goals exact other h
 all_goals first
  |exact quiet h
  |exact other h
-- what is quiet, what is an effect
def qn:Op->Bool
 |.buildSlice ..=>true
 |_=>false
abbrev AS:=UQ×UQ×UQ
def ub(A:AS)(o:Oper):Bool:=match o.dst with
 |some t=>A.2.1.contains t
 |none=>false
def oy(A:AS)(o:Oper):Bool:=match o.dst with
 |some t=>A.2.2.contains t
 |none=>false
def o7(A:AS)(o:Oper):Bool:=o.guard.isSome && oy A o && iU o.op
def nB(A:AS)(o:Oper):Bool:=(o.guard.isNone && !dt o.op && !oE o.op && !(qn o.op && !oy A o) && !ub A o) || o7 A o
def Ca(P:UY)(ev:UT)(H:Hp)(K:AV->Prop):Op->Prop
 |.call { callee:=.value f,args,.. }=>∃r,(fh P (ev f) (args.toList.map ev) H fun r' H'=>r'=r/\H'=H)/\K r
 |.lookup t m k c=>∃r,jV P (.lookup t m k c) 0 ev H (fun r' H'=>r'=r/\H'=H)/\K r
 |_=>False
def oZ(o:Oper):Bool:=match o.op with
 |.load ..=>true
 |.lookup ..=>true
 |.call { callee:=.value _,.. }=>true
 |.call { callee:=.invoke ..,.. }=>true
 |.call { callee:=.builtin .len,argTypes,.. }=>ka.contains (argTypes.toList.headD 0)
 |_=>false
def nA(A:AS)(o:Oper):Bool:=match o.op with
 |.alloc _=>true
 |.box ..=>true
 |.store ..=>!A.1.isEmpty && !A.2.2.contains 1000000
 |.call { callee:=.value _,.. }=>oy A o
 |.call { callee:=.builtin .append,.. }=>oy A o
 |.buildSlice ..=>oy A o
 |.makeSlice ..=>oy A o
 |_=>false
def pd(o:Oper):Bool:=match o.op with
 |.load ..=>o.guard.isNone
 |_=>false
def eQ(A:AS)(H H':Hp):Prop:=∀i r,A.1.contains i=false->H.get i=some r->H'.get i=some r\/(A.1.contains (i+16)=true/\∃t c c' cs,r=.var t (c::cs)/\H'.get i=some (.var t (c'::cs)))
def eQ.refl(A:AS)(H:Hp):eQ A H H:=fun _ _ _ h=>.inl h
def eQ.trans{L:AS}{A B C:Hp}(h:eQ L A B)(k:eQ L B C):eQ L A C:=fun i r ha e=>by
 rcases h i r ha e with h1|⟨h0,t,c,c',cs,rfl,h1⟩
 ·exact k i r ha h1
 ·rcases k i _ ha h1 with k1|⟨_,t',d,d',ds,e',k1⟩
  ·exact .inr ⟨h0,t,c,c',cs,rfl,k1⟩
  ·cases e';exact .inr ⟨h0,t,c,d',cs,rfl,k1⟩
theorem eQ.put{A:AS}{H:Hp}{i:Nat}{r:Row}(h:H.get i=none):eQ A H (H.put i r):=fun j s _ hj=>by
 left
 rw[Hp.bk,if_neg (by rintro rfl;rw[h]at hj;cases hj)];exact hj
variable{A:AS}{i:Nat}
def eQ.set{H:Hp}{r:Row}(h:A.1.contains i=true):eQ A H (H.put i r):=fun j s ha hj=>by
 left
 rw[Hp.bk,if_neg (by rintro rfl;rw[h]at ha;cases ha)];exact hj
def tg(A:AS):AV->Bool
 |.pt i _ _ j=>!A.1.contains i && (decide (1<=j) || !A.1.contains (i+16))
 |_=>true
def Bl(A:AS):AV->Bool
 |.pt i _ _ _=>A.1.contains i
 |_=>false
def ja(A:AS)(ev:UT):Op->Bool
 |.load _ x=>tg A (ev x)
 |.store _ a _=>(A.1.isEmpty || A.2.2.contains 1000000) || Bl A (ev a)
 |_=>true
variable{H':Hp}
def M9{H:Hp}(h:eQ A H H'){a:AV}(ha:tg A a=true){x:Prop×UM}(hc:pT H a=some x):pT H' a=some x:=by
 unfold pT at*;split at hc
 ·exact hc
 ·rename_i i m k j;have ha:A.1.contains i=false/\(1<=j\/A.1.contains (i+16)=false):=by
   simp only[tg,Bool.and_eq_true,Bool.or_eq_true,Bool.not_eq_true',decide_eq_true_eq]at ha;exact ha
  cases e:H.get i with
  |none=>rw[e]at hc;cases hc
  |some r=>
   rw[e]at hc;rcases h i r ha.1 e with h1|⟨h0,t,c,c',cs,rfl,h1⟩
   ·simp only[h1];exact hc
   ·rcases ha.2 with h2|h2
    ·obtain⟨j',rfl⟩:∃j',j=j'+1:=⟨j-1,jB⟩;simp only[h1,List.drop_succ_cons]at hc ⊢;exact hc
    ·rw[h0]at h2;cases h2
 ·cases hc
def OQ{H:Hp}(h:eQ A H H'){a:AV}(ha:tg A a=true)(hq:(py P H t a).1):py P H' t a=py P H t a:=by
 unfold py at*;cases e:pT H a with
 |none=>rw[e]at hq;exact hq.elim
 |some x=>rw[M9 h ha e]
def fK(P:UY)(ev:UT)(H:Hp)(ty:US)(K:UJ)(op:Op):Prop:=if oE op then(vq P ev H op).1/\K (vq P ev H op).2 H else match op with
 |.buildSlice t n parts=>pw P t n (parts.toList.map fun p=>(p.1,ev p.2)) fun r=>K r H
 |op=>vc P ev H ty K op
def SM{ev:UT}(t:US)(n:Nat)(parts:Array (Nat×Operand)):fK P ev H ty K (.buildSlice t n parts)=pw P t n (parts.toList.map fun p=>(p.1,ev p.2)) fun r=>K r H:=rfl
def JE{ev:UT}{op:Op}(h1:¬oE op=true)(h2:¬qn op=true):fK P ev H ty K op=vc P ev H ty K op:=by unfold fK;rw[if_neg h1];cases op<;>first|rfl|(exact(h2 rfl).elim)
def uG(P:UY)(A:AS)(ev:UT)(H:Hp)(K:UJ):Op->Prop
 |.call { callee:=.value f,args,.. }=>fh P (ev f) (args.toList.map ev) H fun r H'=>eQ A H H'/\K r H'
 |.buildSlice t n parts=>mK P H t n (parts.toList.map fun p=>(p.1,ev p.2)) fun r H'=>eQ A H H'/\K r H'
 |.makeSlice t l c=>jV P (.makeSlice t l c) 0 ev H fun r H'=>eQ A H H'/\K r H'
 |.call { callee:=.builtin .append,args,argTypes }=>vc P ev H 0 (fun r H'=>eQ A H H'/\K r H') (.call ⟨.builtin .append,args,argTypes⟩)
 |_=>False
def fJ(A:AS)(P:UY)(ops:Array Oper)(K:UI):List Oper->UI
 |[],F,H=>K F H
 |o::rest,F,H=>match o.guard with
  |none=>if ub A o=true then Ca P (cn F) H (fun r=>fJ A P ops K rest (cM F o.dst r) H) o.op else if oy A o=true then uG P A (cn F) H (fun r H'=>fJ A P ops K rest (cM F o.dst r) H') o.op else ja A (cn F) o.op=true/\fK P (cn F) H o.type (fun r H'=>fJ A P ops K rest (cM F o.dst r) H') o.op
  |some (j,want)=>match ll ops F j want with
   |some b=>if o7 A o=true then(b=true->gq F o.op=true/\uG P A (bG F) H (fun r H'=>fJ A P ops K rest (cM F o.dst r) H') o.op)/\(b=false->fJ A P ops K rest (cM F o.dst (.gd false (.raw (.bool false)))) H)
    else(iU o.op || iM o.op)=true/\eO P F H b (fun r=>fJ A P ops K rest (cM F o.dst r) H) o.op
   |none=>False
def Rv(ts:List US)(args:UM)(h:ka.contains (ts.headD 0)=false):mI P H .len ts args=mI P H' .len ts args:=by
 unfold mI;cases ts with
 |nil=>rfl
 |cons t ts=>
  cases args with
  |nil=>rfl
  |cons x l=>
   show uK P H t x=uK P H' t x;unfold uK;have h:ka.contains t=false:=h;have hn:¬(ka.contains t=true):=by rw[h];exact Bool.false_ne_true
   cases x with
   |raw v=>cases v<;>rfl
   |mr i=> show(if ka.contains t=true then _ else iw)=(if ka.contains t=true then _ else iw);rw[if_neg hn,if_neg hn]
   |_=>rfl
variable{o:Oper}
def x9{ev:UT}(h:oZ o=false):vq P ev H o.op=vq P ev H' o.op:=by
 obtain⟨dst,op,ty,pos,after,guard⟩:=o;cases op<;>first
  |rfl
  |(simp[oZ]at h;done)
  |skip
 rename_i c;obtain⟨callee,args,ts⟩:=c;cases callee
 case builtin b=>
  cases b
  case len=>exact Rv _ _ h
  all_goals(simp only[vq];unfold mI;generalize ts.toList=a;generalize args.toList.map ev=b;cases a<;>cases b<;>rfl)
 all_goals rfl
variable{F:UM}
def Mt{g:Bool}{K:AV->Prop}(h:oZ o=false):eO P F H g K o.op=eO P F H' g K o.op:=by
 have hc:iU o.op=false:=by
  obtain⟨dst,op,ty,pos,after,guard⟩:=o;cases op<;>first
   |rfl
   |(rename_i c;obtain⟨callee,args,ts⟩:=c;cases callee<;>first|rfl|simp[oZ]at h)
 by_cases hp:xX o.op=true
 ·obtain⟨dst,op,ty,pos,after,guard⟩:=o;cases op<;>first|(cases hp;done)|rfl|(rename_i c;obtain⟨callee,args,ts⟩:=c;cases callee<;>first|(cases hp;done)|simp[oZ]at h)
 have hp:xX o.op=false:=by simpa using hp
 rw[zF _ hc hp,zF _ hc hp,x9 h]
def SG{ev:UT}{o:Op}(h:dt o=true):vc P ev H ty K o=((vq P ev H o).1/\K (vq P ev H o).2 H):=by
 cases o
 case binOp op t x y t'=>cases op<;>first|(simp[dt]at h;done)|simp[vc,dt]
 case call c=>
  obtain⟨callee,args,ts⟩:=c;cases callee
  case builtin b=>cases b<;>first|(simp[dt]at h;done)|simp[vc,dt]
  all_goals(simp[dt]at h;done)
 all_goals first
  |(simp[dt]at h;done)
  |simp[vc,dt]
def F9{K:UI}{rest:List Oper}(h:fJ A P ops K (o::rest) F H) :
  (nB A o=true/\∀G,yg ops o F G->lK P ops o G H fun G' H'=>(nA A o=true->eQ A H H')/\∃r,G'=cM G o.dst r/\fJ A P ops K rest (cM F o.dst r) H')\/
  (nB A o=false/\∃r,QV P ops o F H r/\(oZ o=false->∀H',QV P ops o F H' r)/\(pd o=true->∀H',eQ A H H'->QV P ops o F H' r)/\fJ A P ops K rest (cM F o.dst r) H):=by
 unfold fJ at h;split at h
 ·rename_i hg;by_cases XW:ub A o=true
  ·rw[if_pos XW]at h;refine .inr ⟨by simp[nB,o7,hg,XW],?_⟩;obtain⟨dst,op,ty,pos,after,guard⟩:=o;simp only at hg;subst hg;cases op<;>first|exact h.elim|skip
   case call=>
    rename_i c;obtain⟨callee,args,ts⟩:=c;cases callee<;>first|exact h.elim|skip
    obtain⟨r,h1,h2⟩:=h;exact⟨r,Gs h1,fun hd=>by simp[oZ]at hd,fun W0=>by simp[pd]at W0,h2⟩
   case lookup=>
    rename_i t m k c;obtain⟨r,h1,h2⟩:=h;refine⟨r,fun G hG=>?_,fun hd=>by simp[oZ]at hd,fun W0=>by simp[pd]at W0,h2⟩;refine pF (K:=fun F' H'=>F'=cM G dst r/\H'=H) rfl ?_;rw[vE _ hG.1];have e:∀K:UJ,vc P (cn F) H ty K (.lookup t m k c)=jV P (.lookup t m k c) ty (cn F) H K:=fun K=>by simp[vc,dt]
    show vc P (cn F) H ty _ (.lookup t m k c);rw[e];intro w ρ dst' pos' after' guard' g1 g2;obtain⟨w',H',r',hk,g⟩:=h1 w ρ dst' pos' after' guard' g1 g2;exact⟨w',H',r',⟨by rw[hk.1],hk.2⟩,g⟩
  rw[if_neg XW]at h;by_cases W8:oy A o=true
  ·rw[if_pos W8]at h;have XW:ub A o=false:=by simpa using XW
   obtain⟨dst,op,ty,pos,after,guard⟩:=o;simp only at hg;subst hg;cases op
   case call=>
    rename_i c _;obtain⟨callee,args,ts⟩:=c;cases callee
    case value f _=> refine .inl ⟨by simp[nB,dt,oE,qn,XW],fun G hG=>?_⟩;refine pF rfl ?_;rw[vE _ hG.1];exact yC (f:=cn F f) (args:=args.toList.map (cn F)) h fun r H' hk=>⟨fun _=>hk.1,r,rfl,hk.2⟩
    case builtin bi _=>
     cases bi
     case append=> refine .inl ⟨by simp[nB,dt,oE,qn,XW],fun G hG=>?_⟩;refine pF rfl ?_;rw[vE _ hG.1];exact Kf (K:=fun r H'=>eQ A H H'/\fJ A P ops K rest (cM F dst r) H') (.call ⟨.builtin .append,args,ts⟩) (fun r H' hk=>⟨fun _=>hk.1,r,rfl,hk.2⟩) h
     all_goals exact h.elim
    all_goals exact h.elim
   case buildSlice=> refine .inl ⟨by simp[nB,dt,oE,qn,XW,W8],fun G hG=>?_⟩;refine pF rfl ?_;rw[vE _ hG.1];exact CL h fun r H' hk=>⟨fun _=>hk.1,r,rfl,hk.2⟩
   case makeSlice=>
    rename_i t l c _;refine .inl ⟨by simp[nB,dt,oE,qn,XW],fun G hG=>?_⟩;refine pF rfl ?_;rw[vE _ hG.1];have e:∀K:UJ,vc P (cn F) H ty K (.makeSlice t l c)=jV P (.makeSlice t l c) ty (cn F) H K:=fun K=>by simp[vc,dt]
    show vc P (cn F) H ty _ (.makeSlice t l c);rw[e];intro w ρ dst' pos' after' guard' h1 h2;obtain⟨w',H',r,hk,g⟩:=h w ρ dst' pos' after' guard' h1 h2;exact⟨w',H',r,⟨fun _=>hk.1,r,rfl,hk.2⟩,g⟩
   all_goals exact h.elim
  rw[if_neg W8]at h;obtain⟨hA,h⟩:=h;by_cases he:oE o.op=true
  ·unfold fK at h;rw[if_pos he]at h;exact .inr ⟨by simp[nB,o7,hg,he],_,u5 hg h.1,fun hd H'=>by rw[x9 hd];exact u5 hg (by rw[<-x9 (H:=H) hd];exact h.1),fun W0=>by obtain⟨dst,op,ty,pos,after,guard⟩:=o;cases op<;>first|(simp[oE]at he;done)|(simp[pd]at W0;done),h.2⟩
  ·by_cases hl:qn o.op=true
   ·refine .inr ⟨by simp[nB,o7,hg,hl,W8],?_⟩;obtain⟨dst,op,ty,pos,after,guard⟩:=o;simp only at hg;subst hg;cases op<;>first|(simp[qn]at hl;done)|skip
    rename_i t n parts;rw[SM]at h;obtain⟨r,h1,h2⟩:=CP h;exact⟨r,B4 (h2 _ rfl),fun _ H'=>B4 (h2 _ rfl),fun W0=>by simp[pd]at W0,h1⟩
   ·rw[JE he hl]at h;by_cases hq:dt o.op=true
    ·have h':(vq P (cn F) H o.op).1/\fJ A P ops K rest (cM F o.dst (vq P (cn F) H o.op).2) H:=by
      rw[SG hq]at h;exact h
     refine .inr ⟨by simp[nB,o7,hg,hq],_,u5 hg h'.1,fun hd H'=>by rw[x9 hd];exact u5 hg (by rw[<-x9 (H:=H) hd];exact h'.1),fun W0 H' U6=>?_,h'.2⟩;obtain⟨dst,op,ty,pos,after,guard⟩:=o;cases op<;>first|(simp[pd]at W0;done)|skip
     rename_i t a;have e:vq P (cn F) H' (.load t a)=vq P (cn F) H (.load t a):=OQ U6 hA h'.1;have:=u5 (P:=P) (ops:=ops) (H:=H') (o:=⟨dst,.load t a,ty,pos,after,guard⟩) (F:=F) hg (by rw[e];exact h'.1);rw[e]at this;exact this
    ·refine .inl ⟨by simp[nB,o7,hg];simp at hq he hl XW;exact⟨⟨⟨hq,he⟩,.inl hl⟩,XW⟩,fun G hG=>?_⟩;refine pF hg ?_;rw[vE o.op hG.1];by_cases Ym:nA A o=true
     ·obtain⟨dst,op,ty,pos,after,guard⟩:=o;cases op<;>first|(simp[nA]at Ym;done)|(exact(W8 Ym).elim)|skip
      case call c=>
       obtain⟨callee,args,ts⟩:=c;cases callee
       case builtin bi=>cases bi<;>first|(exact(W8 Ym).elim)|(simp[nA]at Ym;done)
       all_goals first|(exact(W8 Ym).elim)|(simp[nA]at Ym;done)
      case alloc t=>
       simp only[vc,nS]at h ⊢;split at h
       ·obtain⟨i,h2,h3⟩:=h;exact⟨i,h2,fun _=>eQ.put h2,_,rfl,h3⟩
       ·exact h.elim
      case box t x=>obtain⟨h1,i,h2,h3⟩:=h;exact⟨h1,i,h2,fun _=>eQ.put h2,_,rfl,h3⟩
      case store t a x=>
       simp only[nA,Bool.and_eq_true,Bool.not_eq_true']at Ym;simp only[ja,Ym.1,Ym.2,Bool.false_or]at hA;simp only[vc,vJ]at h ⊢;split at h
       ·rename_i i m k j n ha hn;have hi:A.1.contains i=true:=by rw[ha]at hA;exact hA
        split at h
        ·rename_i r hr;obtain⟨h1,h2⟩:=h;exact⟨h1,fun _=>eQ.set hi,_,rfl,h2⟩
        ·exact h.elim
       ·exact h.elim
     ·exact Kf o.op (fun r H' hk=>⟨fun haW=>(Ym haW).elim,r,rfl,hk⟩) h
 ·rename_i j want hg;split at h
  ·rename_i b hb;by_cases YS:o7 A o=true
   ·rw[if_pos YS]at h;refine .inl ⟨by simp[nB,YS],fun G hG=>?_⟩;obtain⟨dst,op,ty,pos,after,guard⟩:=o;simp only at hg;subst hg;have hc:iU op=true:=by unfold o7 at YS;simp only[Bool.and_eq_true]at YS;exact YS.2
    cases op<;>first|(cases hc;done)|skip
    rename_i c;obtain⟨callee,args,ts⟩:=c;cases callee<;>first|(cases hc;done)|skip
    rename_i f;have hev:∀x∈(Op.call ⟨.value f,args,ts⟩).operands.toList,cn G x=cn F x:=hG.1;have hbG:=hG.2 j want rfl;rw[hb]at hbG;have hGg:∀x∈(Op.call ⟨.value f,args,ts⟩).operands.toList,bG G x=bG F x:=fun x hx=>by unfold bG;rw[hev x hx]
    refine lF rfl hbG (fun Vi w tm Q next h1 h2 hn=>?_) (fun Vi=>⟨.gd false (.raw (.bool false)),ny rfl,⟨fun _=>eQ.refl _ _,_,rfl,h.2 Vi⟩⟩);obtain⟨ok,Vp⟩:=h.1 Vi;have ok:gq G (.call ⟨.value f,args,ts⟩)=true:=by unfold gq at ok ⊢;rw[List.all_eq_true]at ok ⊢;exact fun x hx=>by rw[hev x hx];exact ok x hx
    have WN:=nP ok;have e1:gB G f=bG F f:=(WN f (by simp[Op.operands,Call.operands])).trans (hGg f (by simp[Op.operands,Call.operands]));have e2:args.toList.map (gB G)=args.toList.map (bG F):=List.map_congr_left fun x hx=>(WN x (by simp[Op.operands,Call.operands]at hx ⊢;exact .inr hx)).trans (hGg x (by simp[Op.operands,Call.operands]at hx ⊢;exact .inr hx))
    refine ug (ev:=gB G) e1 e2 Vp h1 (oI h2) fun v r' w' H' hR g1 g2 g3=>?_
    rw[Act.put_eq];exact hn _ w' _ H' ⟨fun _=>hR.1,r',rfl,hR.2⟩ g1 ((h2.ext g3).put dst g2 []) g3
   rw[if_neg YS]at h;obtain⟨hq,hv⟩:=h;obtain⟨r,h1,h2⟩:=Cn hv;have h3:=h2 F (fun r'=>r'=.gd b r) (fun _ _=>rfl) rfl;exact .inr ⟨by simp[nB,hg,YS],_,AK hg hb hq h3,fun hd H'=>AK hg hb hq (by rw[Mt hd]at h3;exact h3),(fun W0=>by
    unfold pd at W0;split at W0
    ·rw[hg]at W0;cases W0
    ·cases W0),h1⟩
  ·exact h.elim
def dP(l:List Oper)(i:Nat):Oper:=l.getD i default
def kV(A:AS)(l:List Oper)(i:Nat):Bool:=nB A (dP l i)
def pC(A:AS)(E:UQ)(l:List Oper)(ps:List UQ):UQ->UQ->Bool
 |done,[]=>(List.range l.length).all fun i=>done.contains i
 |done,i::rest=>((ps.getD i []).all fun k=>done.contains k) && !done.contains i && decide (i<l.length) &&
   (!kV A l i || ((rest.all fun k=>(ps.getD k []).contains i || E.contains k) && done.all fun q=>kV A l q || !oZ (dP l q) || (ps.getD i []).contains q || (nA A (dP l i) && pd (dP l q)))) && pC A E l ps (i::done) rest
def p9(A:AS)(E:UQ)(l:List Oper)(ord:UQ):Bool:=um l && pC A E l (kQ l) [] ord && E.all fun i=>!ub A (dP l i) && !oy A (dP l i)
def mem(done:UQ)(i:Nat):Bool:=done.contains i
variable{l:List Oper}{done:UQ}
def ue{E:UQ}{rest:UQ}(h:pC A E l (kQ l) done (i::rest)=true) :
  (∀k∈(kQ l).getD i [],k∈done)/\i ∉ done/\i<l.length/\(kV A l i=true->(∀k∈rest,i∈(kQ l).getD k []\/k∈E)/\∀q∈done,kV A l q=true\/oZ (dP l q)=false\/q∈(kQ l).getD i []\/(nA A (dP l i)=true/\pd (dP l q)=true))/\pC A E l (kQ l) (i::done) rest=true:=by
 simp only[pC,Bool.and_eq_true,List.all_eq_true,List.contains_iff_mem,Bool.not_eq_true',decide_eq_true_eq,Bool.or_eq_true]at h;obtain⟨⟨⟨⟨h1,h2⟩,h3⟩,h4⟩,h5⟩:=h;refine⟨h1,by simpa using h2,h3,fun he=>?_,h5⟩;rcases h4 with h4|h4
 ·rw[he]at h4;cases h4
 ·exact⟨h4.1,fun q hq=>by
   rcases h4.2 q hq with((h|h)|h)|h
   ·exact .inl h
   ·exact .inr (.inl h)
   ·exact .inr (.inr (.inl h))
   ·exact .inr (.inr (.inr h))⟩
theorem Ls{A:AS}{E:UQ}{l:List Oper}:∀{rest done:UQ},pC A E l (kQ l) done rest=true->∀e∈rest,kV A l e=true->∀q∈done,kV A l q=true\/oZ (dP l q)=false\/q∈(kQ l).getD e []\/(nA A (dP l e)=true/\pd (dP l q)=true)
 |[],_,_=>fun e he=>by simp at he
 |i::rest,done,h=>fun e he Yr q hq=>by
  obtain⟨_,_,_,h4,h5⟩:=ue h;rcases List.mem_cons.1 he with rfl|he
  ·exact(h4 Yr).2 q hq
  ·exact Ls h5 e he Yr q (List.mem_cons_of_mem _ hq)
theorem CY{A:AS}{E:UQ}{l:List Oper}:∀{rest done:UQ},pC A E l (kQ l) done rest=true->∀i,i<l.length->i∈done\/i∈rest
 |[],done,h=>fun i hi=>by simp only[pC,List.all_eq_true,List.mem_range,List.contains_iff_mem]at h;exact .inl (h i hi)
 |j::rest,done,h=>fun i hi=>by
  obtain⟨_,_,_,_,h5⟩:=ue h;rcases CY h5 i hi with h|h
  ·rcases List.mem_cons.1 h with rfl|h
   ·exact .inr jE
   ·exact .inl h
  ·exact .inr (List.mem_cons_of_mem _ h)
def l7:mem done i=true<->i∈done:=by simp[mem]
def C7(done:UQ)(i:Nat):(fun k=>mem (i::done) k)=fun k=>mem done k || k == i:=by
 funext k
 rw[Bool.eq_iff_iff];simp[mem,or_comm]
def yr(ho:l[i]?=some o){e:Edge}(he:e∈o.after.toList)(hb:Region.binds .any e=true):e.on∈(kQ l).getD i []:=by rw[D7 ho,Dp];exact List.mem_flatMap.2 ⟨e,List.mem_filter.2 ⟨he,hb⟩,jE⟩
theorem ID{os:List Oper}{rs F:UM}{L L':UX}{s:Nat}(h:∀k o,os[k]?=some o->o.dst=some s->L k=L' k):∀m,lL os rs L F s m=lL os rs L' F s m
 |0=>rfl
 |m+1=>by
  unfold lL;rw[ID h m];cases ho:os[m]? with
  |none=>simp
  |some o=>
   simp only[Option.bind_some];by_cases hd:o.dst=some s
   ·rw[h m o ho hd]
   ·simp[hd]
theorem qX{os:List Oper}{rs F:UM}{L:UX}{i:Nat}{r:AV}(hL:L i=false):∀m,FL os (rs.set i r) L F m=FL os rs L F m
 |0=>rfl
 |m+1=>by
  unfold FL;rw[qX hL m];by_cases hm:m=i
  ·subst hm;simp[hL]
  ·have:(rs.set i r).getD m .any=rs.getD m .any:=by simp[List.getElem?_set,Ne.symm hm]
   rw[this]
section
variable {l:List Oper}(I':∀j o,l[j]?=some o->∀e∈o.after.toList,Region.binds .any e=true->e.on<j)
 (U4:∀i j a b,i<j->l[i]?=some a->l[j]?=some b->uj l a b=true->i∈(kQ l).getD j [])
include I' U4
variable{L:UX}
theorem AM(Xt:oe l L){i:Nat}{o:Oper}(ho:l[i]?=some o)(Yq:L i=false)(Wc:∀e∈o.after.toList,Region.binds .any e=true->L e.on=true) :
  ∀k o' s,l[k]?=some o'->o'.dst=some s->(s∈looks l o\/o.dst=some s)->L k=decide (k<i):=by
 intro k o' s hk hs VG;have VA:=vA Xt I' (i+1) i jB o ho Wc;rcases Nat.lt_trichotomy k i with h|h|h
 ·rw[decide_eq_true h];refine VA k (U4 k i o' o h hk ho ?_);unfold uj;rw[hs];rcases VG with h5|h5
  ·simp[h5]
  ·simp[h5]
 ·subst h;simpa using Yq
 ·rw[decide_eq_false jB];cases hv:L k with
  |false=>rfl
  |true=>
   have WE:i∈(kQ l).getD k []:=U4 i k o o' h ho hk (by
    unfold uj;rw[hs];rcases VG with h5|h5
    ·simp[h5]
    ·simp[h5])
   have:=vA Xt I' (k+1) k jB o' hk (fun e he hb=>Xt k o' hk hv e he hb) i WE;rw[Yq]at this;cases this
theorem Gn{rs F:UM}{L':UX}(hL:oe l L)(Xf:oe l L'){i:Nat}{o:Oper}(ho:l[i]?=some o)(h1:L i=false)(h2:L' i=false)
  (h3:∀e∈o.after.toList,Region.binds .any e=true->L e.on=true) (h4:∀e∈o.after.toList,Region.binds .any e=true->L' e.on=true):yg l.toArray o (FL l rs L F l.length) (FL l rs L' F l.length):=by
 refine D8 (by rw[lw,lw]) fun s hs O'=>?_
 rw[lw]at O';rw[tJ _ _ _ _ O',tJ _ _ _ _ O'];exact(ID (fun k o' hk hd=>by rw[AM I' U4 hL ho h1 h3 k o' s hk hd (.inl hs),AM I' U4 Xf ho h2 h4 k o' s hk hd (.inl hs)]) _).symm
theorem vK{rs F:UM}{L2:UX}(hL:oe l L){i:Nat}{o:Oper}(ho:l[i]?=some o)(h1:L i=false)(h3:∀e∈o.after.toList,Region.binds .any e=true->L e.on=true){r:AV}(hr:rs.getD i .any=r)(Xm:∀k,L2 k=(L k || k == i)) :
  cM (FL l rs L F l.length) o.dst r=FL l rs L2 F l.length:=by
 have WA:=(List.getElem?_eq_some_iff.1 ho).1;refine Eu (m':=0) (L':=fun _=>true) (by cases o.dst<;>simp[cM,lw]) fun s hs=>?_
 by_cases hd:o.dst=some s
 ·rw[Dr (L:=L) ho Xm (fun k o' hk hd'=>AM I' U4 hL ho h1 h3 k o' s hk hd' (.inr hd)) hd _ WA,hd,hr];simp[cM,lw,hs]
 ·rw[B3 (L:=L) ho Xm hd,<-tJ _ _ _ _ hs];cases hd':o.dst with
  |none=>rfl
  |some d=>
   have:d≠s:=fun e=>hd (by rw[hd',e])
   simp[cM,List.getElem?_set,this]
end
structure Inv(A:AS)(E:List Nat)(P:Program)(l:List Oper)(K:List AV->Hp->Prop)(F:List AV)(L:Nat->Bool)(done rest:List Nat)(rs:List AV)(H:Hp):Prop where
 len:rs.length=l.length
 sub:∀i,L i=true->i∈done\/i∈E
 dW:oe l L
 kU:oe l (mem done)
 ord:pC A E l (kQ l) done rest=true
 walk:fJ A P l.toArray K (rest.map (dP l)) (FL l rs (mem done) F l.length) H
 wait:∀i∈done,L i=false->kV A l i=false/\i<l.length/\∃D,oe l D/\D i=false/\(∀k,D k=true->k∈done)/\(∀e∈(dP l i).after.toList,Region.binds .any e=true->D e.on=true)/\
  QV P l.toArray (dP l i) (FL l rs D F l.length) H (rs.getD i .any)/\(oZ (dP l i)=false->∀H',QV P l.toArray (dP l i) (FL l rs D F l.length) H' (rs.getD i .any))/\(pd (dP l i)=true->∀H',eQ A H H'->QV P l.toArray (dP l i) (FL l rs D F l.length) H' (rs.getD i .any))
def zo(hi:i<l.length):l[i]?=some (dP l i):=by simp[dP,hi]
def qW(P:UY)(l:List Oper):UQ->Prop
 |[]=>True
 |i::E=>(match (dP l i).op with|.alloc t=>(dR P t).isSome=true|_=>False)/\(dP l i).guard=none/\qW P l E
theorem yl{P:UY}{l:List Oper}:∀{E:UQ},qW P l E->∀i∈E,∃t zs,(dP l i).op=.alloc t/\dR P t=some zs/\(dP l i).guard=none
 |[],_,i,hi=>by simp at hi
 |j::E,h,i,hi=>by
  obtain⟨h1,h2,h3⟩:=h;rcases List.mem_cons.1 hi with rfl|hi
  ·split at h1
   ·rename_i t e;obtain⟨zs,hz⟩:=Option.isSome_iff_exists.1 h1;exact⟨t,zs,e,hz,h2⟩
   ·exact h1.elim
  ·exact yl h3 i hi
def Bn(A:AS)(P:UY)(l:List Oper)(E:UQ):Prop:=qW P l E/\∀i∈E,ub A (dP l i)=false/\oy A (dP l i)=false
def Uj{P:UY}{E:UQ}(h:Bn A P l E)(hi:i∈E):kV A l i=true/\nA A (dP l i)=true:=by obtain⟨t,zs,e,_,hg⟩:=yl h.1 i hi;simp[kV,nB,nA,e,hg,dt,oE,qn,(h.2 i hi).1]
def Hid(P:UY)(l:List Oper)(L:UX)(done:UQ)(rs:UM)(w0 w:NW)(β:Nat->Nat):Prop:=∀i,L i=true->i ∉ done->
 (∃t cur,(dP l i).op=.alloc t/\dR P t=some cur.toList/\rs.getD i .any=.raw (.pointer (some ⟨β i,0,none⟩))/\w.heap[β i]?=some (.cells cur t (0,0))/\w.O (β i)/\w0.heap.size<=β i/\β i<w.heap.size/\∀j m t s,w.nm j m≠some (.at (β i) t s))/\∀j,L j=true->j ∉ done->β i=β j->i=j
def Hid.ext{P:UY}{L:UX}{rs:UM}{w0 w w':NW}{β:Nat->Nat}{H:Hp}(h:Hid P l L done rs w0 w β)(e:Ext w H w' H'):Hid P l L done rs w0 w' β:=fun i h1 h2=>by obtain⟨⟨t,cur,a1,a2,a3,a4,a5,a6,a7,a8⟩,b⟩:=h i h1 h2;obtain⟨e1,e2,e3⟩:=e.rest (β i) a7 a5 a8;exact⟨⟨t,cur,a1,a2,a3,e1.trans a4,e2,a6,Nat.lt_of_lt_of_le a7 e.size,e3⟩,b⟩
def QF{w:NW}{H:Hp}(r:aJ w H){b:Nat}{cur:UU}(hi:H.get i=none)(hb:w.heap[b]?=some (.cells cur t (0,0)))(hO:w.O b)(I':b<w.heap.size)(U8:∀j m t s,w.nm j m≠some (.at b t s)) :
  aJ (w.name i 0 (.at b cur.size 0)) (H.put i (.var t (cur.toList.map .raw)))/\Keep rO w (w.name i 0 (.at b cur.size 0))/\ax (w.name i 0 (.at b cur.size 0)) (.pt i 0 0 0) (.pointer (some ⟨b,0,none⟩)):=by
 have VJ:∀j n,(w.name i 0 (.at b cur.size 0)).nm j n=if j=i/\n=0 then some (Rz.at b cur.size 0)else w.nm j n:=fun _ _=>rfl
 have kp:Keep rO w (w.name i 0 (.at b cur.size 0)):=⟨Nat.le_refl _,fun _ _ h=>⟨rfl,h⟩,fun j n z _ h=>by
  rw[VJ,if_neg]
  ·exact h
  ·rintro⟨rfl,rfl⟩;rw[r.none hi]at h;cases h⟩
 refine⟨{ rows:=fun j s hj=>?_,di:=fun j n z hz=>?_,inj:=fun j n j' n' b' t1 s1 t2 s2 h1 h2=>?_,own:=fun j n b' t1 s1 h=>?_,fin:=r.fin,cd:=r.cd.aY kp },kp,?_⟩
 ·rw[Hp.bk]at hj;split at hj
  ·rename_i e;subst e;cases hj;refine⟨trivial,.at b cur.size 0,by rw[VJ];exact if_pos ⟨rfl,rfl⟩,rfl,cur,hb,⟨rfl,by show(cur.toList.map AV.raw).length<=_;simp⟩,fun k a v ha hv=>?_⟩;have ha:(cur.toList.map AV.raw)[k]?=some a:=ha;simp only[List.getElem?_map,Array.getElem?_toList,hv,Option.map_some,Option.some.injEq]at ha;subst ha;exact .raw _
  ·rename_i e;obtain⟨h1,z,h2,h3⟩:=r.rows j s hj;refine⟨h1,z,by rw[VJ,if_neg (fun h=>e h.1)];exact h2,?_⟩;cases z with
   |nil=>exact h3
   |«at» b' t' st=> obtain⟨g1,WC,g2,g3,g5⟩:=h3;exact⟨g1,WC,g2,g3,fun k a v ha hv=>(g5 k a v ha hv).aY kp (nG a)⟩
 ·rw[VJ]at hz;rw[Hp.bk];split at hz
  ·rename_i e;exact⟨_,by rw[if_pos e.1],by rw[e.2];exact Nat.zero_le _⟩
  ·obtain⟨r',h1,h2⟩:=r.di j n z hz;have e:j≠i:=fun e=>by subst e;rw[hi]at h1;cases h1
   exact⟨r',by rw[if_neg e];exact h1,h2⟩
 ·rw[VJ]at h1 h2;split at h1<;>split at h2
  ·rename_i e1 e2;rw[e1.1,e2.1]
  ·cases h1;exact(U8 _ _ _ _ h2).elim
  ·cases h2;exact(U8 _ _ _ _ h1).elim
  ·exact r.inj _ _ _ _ _ _ _ _ _ h1 h2
 ·rw[VJ]at h;split at h
  ·cases h;exact hO
  ·exact r.own _ _ _ _ _ h
 ·have:=ax.pt (w:=w.name i 0 (.at b cur.size 0)) i 0 0 0 b cur.size 0 (NW.cA _ _ _ _);simpa using this
def Sk{w0 w:NW}{H0 H:Hp}(e:Ext w0 H0 w H)(r:aJ w H){b sz:Nat}(hi:H.get i=none)(hb:w0.heap.size<=b)(hB:H'.B=H.B):Ext w0 H0 (w.name i 0 (.at b sz 0)) H':={
 size:=e.size,free:=e.free
 names:=fun j n z hq h=>by
  have:=e.names j n z hq h;show(if j=i/\n=0 then _ else _)=_;rw[if_neg]
  ·exact this
  ·rintro⟨rfl,rfl⟩;rw[r.none hi]at this;cases this
 os:=e.os,tape:=e.tape,output:=e.output
 rest:=fun c hc hO U8=>by
  obtain⟨e1,e2,e3⟩:=e.rest c hc hO U8;refine⟨e1,e2,fun j n t s h=>?_⟩;have h:(if j=i/\n=0 then some (Rz.at b sz 0)else w.nm j n)=some (.at c t s):=h;split at h
  ·cases h;omega
  ·exact e3 _ _ _ _ h
 base:=hB.trans e.base }
theorem Jw{os:List Oper}{rs F:UM}{L:UX}{i:Nat}{r:AV}:∀(m:Nat) (s:Nat) (a:AV),(FL os (rs.set i r) L F m)[s]?=some a->(FL os rs L F m)[s]?=some a\/(a=r/\(FL os rs L F m)[s]?=some (rs.getD i .any)/\i<rs.length)
 |0=>fun s a h=>.inl h
 |m+1=>fun s a h=>by
  have ih:=Jw (os:=os) (rs:=rs) (F:=F) (L:=L) (i:=i) (r:=r) m;have hl:(FL os (rs.set i r) L F m).length=(FL os rs L F m).length:=by rw[lw,lw]
  unfold FL at h ⊢;cases hL:L m with
  |false=>simp only[hL,Bool.false_eq_true,if_false]at h ⊢;exact ih s a h
  |true=>
   simp only[hL,if_true]at h ⊢;cases hd:(os[m]?).bind (·.dst)with
   |none=>rw[hd]at h;exact ih s a h
   |some d=>
    rw[hd]at h;simp only[cM]at h ⊢;rw[List.getElem?_set]at h ⊢;by_cases e:d=s
    ·subst e;simp only[if_true]at h ⊢;rw[hl]at h;split at h
     ·rename_i I';rw[if_pos I'];simp only[Option.some.injEq]at h;by_cases hm:i=m
      ·subst hm;by_cases hi:i<rs.length
       ·refine .inr ⟨?_,rfl,hi⟩;rw[<-h];simp[hi]
       ·refine .inl ?_;rw[<-h];simp[hi,List.getElem?_set]
      ·refine .inl ?_;rw[<-h];simp[List.getElem?_set,hm]
     ·cases h
    ·simp only[if_neg e]at h ⊢;exact ih s a h
section
variable {A:AS}{E:UQ}{l:List Oper}{K:UI}{F:UM}(hok:um l=true)(hE:Bn A P l E)
include hok
variable{done:UQ}{i:Nat}
theorem AW(hi:i<l.length)(hd:oe l (mem done))(hp:∀k∈(kQ l).getD i [],k∈done):oe l (mem (i::done)):=fun j o ho hj e he hb=>by
 rw[l7]at hj ⊢;rcases List.mem_cons.1 hj with rfl|hj
 ·exact List.mem_cons_of_mem _ (hp _ (yr ho he hb))
 ·exact List.mem_cons_of_mem _ (l7.1 (hd j o ho (l7.2 hj) e he hb))
include hE
theorem CZ:∀(rest:UQ) {L:UX} {done:UQ} {rs:UM},Inv A E P l K F L done rest rs H->
  ∃done' Wh VZ,Inv A E P l K F L done' Wh VZ H/\(∀i r,Wh=i::r->kV A l i=true)/\FL l VZ L F l.length=FL l rs L F l.length/\Wh.length<=rest.length/\(∀w0 w β,Hid P l L done rs w0 w β->Hid P l L done' VZ w0 w β)
 |[],L,done,rs,h=>⟨done,[],rs,h,(fun i r e=>by cases e),rfl,Nat.le_refl _,fun _ _ _ h=>h⟩
 |i::rest,L,done,rs,h=>by
  obtain⟨I',U4⟩:=wv hok;cases he:kV A l i with
  |true=>exact⟨done,i::rest,rs,h,fun j r e=>by cases e;exact he,rfl,Nat.le_refl _,fun _ _ _ h=>h⟩
  |false=>
   obtain⟨hp,hni,WA,_,h5⟩:=ue h.ord;have ho:=zo WA;have hw:=h.walk;rw[List.map_cons]at hw;rcases F9 hw with⟨hx,_⟩|⟨_,r,q1,q2,q2',q3⟩
   ·unfold kV at he;rw[he]at hx;cases hx
   have Zp:mem done i=false:=by rw[<-Bool.not_eq_true,l7];exact hni
   have hLi:L i=false:=by
    cases e:L i with
    |false=>rfl
    |true=>
     rcases h.sub i e with h6|h6
     ·exact(hni h6).elim
     ·rw[(Uj (A:=A) hE h6).1]at he;cases he
   have Wc:∀e∈(dP l i).after.toList,Region.binds .any e=true->mem done e.on=true:=fun e he hb=>l7.2 (hp _ (yr ho he hb))
   have U2:∀D:UX,(∀k,D k=true->k∈done)->FL l (rs.set i r) D F l.length=FL l rs D F l.length:=fun D hD=>qX (by
    cases e:D i with
    |false=>rfl
    |true=>exact(hni (hD i e)).elim) _
   have VL:(rs.set i r).getD i .any=r:=by simp[h.len,WA]
   have VM:∀j,j≠i->(rs.set i r).getD j .any=rs.getD j .any:=fun j hj=>by simp[List.getElem?_set,Ne.symm hj]
   have X9:=vK (rs:=rs.set i r) (F:=F) I' U4 h.kU ho Zp Wc VL (L2:=mem (i::done)) (fun k=>by rw[show mem (i::done) k=(fun k=>mem (i::done) k) k from rfl,C7]);rw[U2 _ (fun k hk=>l7.1 hk)]at X9;have hinv:Inv A E P l K F L (i::done) rest (rs.set i r) H:=by
    refine⟨by simpa using h.len,fun k hk=>(h.sub k hk).imp_left (List.mem_cons_of_mem _),h.dW,AW hok WA h.kU hp,h5,by rw[<-X9];exact q3,fun j hj WZ=>?_⟩;rcases List.mem_cons.1 hj with rfl|hj
    ·exact⟨he,WA,mem done,h.kU,Zp,fun k hk=>List.mem_cons_of_mem _ (l7.1 hk),Wc,by rw[U2 _ (fun k hk=>l7.1 hk),VL];exact q1,fun hd H'=>by rw[U2 _ (fun k hk=>l7.1 hk),VL];exact q2 hd H',fun hd H' U6=>by rw[U2 _ (fun k hk=>l7.1 hk),VL];exact q2' hd H' U6⟩
    ·obtain⟨w1,w2,D,w3,w4,w5,w6,w7,w8,w9⟩:=h.wait j hj WZ;have WU:j≠i:=fun e=>hni (e ▸ hj)
     exact⟨w1,w2,D,w3,w4,fun k hk=>List.mem_cons_of_mem _ (w5 k hk),w6,by rw[U2 _ w5,VM j WU];exact w7,fun hd H'=>by rw[U2 _ w5,VM j WU];exact w8 hd H',fun hd H' U6=>by rw[U2 _ w5,VM j WU];exact w9 hd H' U6⟩
   obtain⟨d',r',VZ,g1,g2,g3,g4,g5⟩:=CZ rest hinv;refine⟨d',r',VZ,g1,g2,by rw[g3,qX hLi],by simp;omega,fun w0 w β hh=>g5 w0 w β fun k Vr Vc=>?_⟩;have WE:k≠i:=fun e=>Vc (by simp[e])
   obtain⟨a,b⟩:=hh k Vr fun Ya=>Vc (List.mem_cons_of_mem _ Ya)
   rw[VM k WE];exact⟨a,fun j YD XD=>b j YD fun hj3=>XD (List.mem_cons_of_mem _ hj3)⟩
variable{L:UX}{rest:UQ}
theorem IY{L2:UX}{rs:UM}{r:AV}{H':Hp}(h:Inv A E P l K F L done (i::rest) rs H)(Yr:kV A l i=true)(Xm:∀k,L2 k=(L k || k == i))(Yb:nA A (dP l i)=true->eQ A H H')
  (VA:∀k∈(kQ l).getD i [],L k=true):∀j∈i::done,L2 j=false->kV A l j=false/\j<l.length/\∃D,oe l D/\D j=false/\(∀k,D k=true->k∈i::done)/\(∀e∈(dP l j).after.toList,Region.binds .any e=true->D e.on=true)/\
  QV P l.toArray (dP l j) (FL l (rs.set i r) D F l.length) H' ((rs.set i r).getD j .any)/\(oZ (dP l j)=false->∀VT,QV P l.toArray (dP l j) (FL l (rs.set i r) D F l.length) VT ((rs.set i r).getD j .any))/\(pd (dP l j)=true->∀VT,eQ A H' VT->QV P l.toArray (dP l j) (FL l (rs.set i r) D F l.length) VT ((rs.set i r).getD j .any)):=by
 intro j hj WZ;obtain⟨hp,VM,WV,h4,h5⟩:=ue h.ord;have U2:∀D:UX,(∀k,D k=true->k∈done)->FL l (rs.set i r) D F l.length=FL l rs D F l.length:=fun D hD=>qX (by
  cases e:D i with
  |false=>rfl
  |true=>exact(VM (hD i e)).elim) _
 have hgn:∀j,j≠i->(rs.set i r).getD j .any=rs.getD j .any:=fun j hj=>by simp[List.getElem?_set,Ne.symm hj]
 rw[Xm]at WZ;obtain⟨WZ,WU⟩:=Bool.or_eq_false_iff.1 WZ;have WU:j≠i:=by simpa using WU
 have hj:j∈done:=by rcases List.mem_cons.1 hj with e|h;exact(WU e).elim;exact h
 obtain⟨w1,w2,D,w3,w4,w5,w6,w7,w8,w9⟩:=h.wait j hj WZ;have haX:QV P l.toArray (dP l j) (FL l rs D F l.length) H' (rs.getD j .any):=by
  rcases(h4 Yr).2 j hj with h6|h6|h6|h6
  ·rw[w1]at h6;cases h6
  ·exact w8 h6 H'
  ·have:=VA j h6;rw[WZ]at this;cases this
  ·exact w9 h6.2 H' (Yb h6.1)
 refine⟨w1,w2,D,w3,w4,fun k hk=>List.mem_cons_of_mem _ (w5 k hk),w6,by rw[U2 _ w5,hgn j WU];exact haX,fun hd VT=>by rw[U2 _ w5,hgn j WU];exact w8 hd VT,fun hd VT U6=>?_⟩;rw[U2 _ w5,hgn j WU];rcases(h4 Yr).2 j hj with h6|h6|h6|h6
 ·rw[w1]at h6;cases h6
 ·exact w8 h6 VT
 ·have:=VA j h6;rw[WZ]at this;cases this
 ·exact w9 h6.2 VT ((Yb h6.1).trans U6)
theorem JV{w0:NW}{H0:Hp}:∀(n:Nat) {L:UX} {done rest:UQ} {rs:UM} {H:Hp} {w:NW} {tm:UU} {β:Nat->Nat},rest.length<=n->Inv A E P l K F L done rest rs H->aJ w H->bs w (FL l rs L F l.length) tm->Ext w0 H0 w H->Hid P l L done rs w0 w β->
  ∃done' Wh VZ H' w',NW.toWorld w'=w.toWorld/\Inv A E P l K F L done' Wh VZ H'/\(∀i r,Wh=i::r->kV A l i=true/\L i=false)/\aJ w' H'/\bs w' (FL l VZ L F l.length) tm/\Ext w0 H0 w' H'/\Hid P l L done' VZ w0 w' β
 |n,L,done,rest,rs,H,w,tm,β,hn,h,h1,h2,h3,h4=>by
  obtain⟨I',U4⟩:=wv hok;obtain⟨d',r',VZ,g1,g2,g3,g4,g5⟩:=CZ hok hE rest h;have g5:=g5 _ _ _ h4;rw[<-g3]at h2;cases r' with
  |nil=>exact⟨d',[],VZ,H,w,rfl,g1,(fun i r e=>by cases e),h1,h2,h3,g5⟩
  |cons i r=>
   have Yr:=g2 i r rfl;cases hLi:L i with
   |false=>exact⟨d',i::r,VZ,H,w,rfl,g1,(fun j q e=>by cases e;exact⟨Yr,hLi⟩),h1,h2,h3,g5⟩
   |true=>
    obtain⟨hp,VM,WV,c4,c5⟩:=ue g1.ord;obtain⟨⟨t,cur,a1,a2,a3,a4,a5,a6,a7,a8⟩,a9⟩:=g5 i hLi VM;have hiE:i∈E:=(g1.sub i hLi).resolve_left VM;have YS:(dP l i).guard=none:=by obtain⟨_,_,_,_,hg⟩:=yl hE.1 i hiE;exact hg
    have hw:=g1.walk;rw[List.map_cons]at hw;unfold fJ at hw;rw[YS]at hw;simp only at hw;rw[if_neg (by rw[(hE.2 i hiE).1];exact Bool.false_ne_true),if_neg (by rw[(hE.2 i hiE).2];exact Bool.false_ne_true)]at hw;obtain⟨_,hw⟩:=hw;rw[a1,JE (by simp[oE]) (by simp[qn])]at hw;simp only[vc,nS,a2]at hw;obtain⟨id,hid,hv⟩:=hw;have ho:=zo WV;obtain⟨k1,k2,k3⟩:=QF h1 hid a4 a5 a7 a8;have Zp:mem d' i=false:=by rw[<-Bool.not_eq_true,l7];exact VM
    have Wq:∀e∈(dP l i).after.toList,Region.binds .any e=true->mem d' e.on=true:=fun e he hb=>l7.2 (hp _ (yr ho he hb))
    have VL:(VZ.set i (.pt id 0 0 0)).getD i .any=.pt id 0 0 0:=by simp[g1.len,WV]
    have U2:∀D:UX,(∀k,D k=true->k∈d')->FL l (VZ.set i (.pt id 0 0 0)) D F l.length=FL l VZ D F l.length:=fun D hD=>qX (by
     cases e:D i with
     |false=>rfl
     |true=>exact(VM (hD i e)).elim) _
    have VR:=vK (rs:=VZ.set i (.pt id 0 0 0)) (F:=F) I' U4 g1.kU ho Zp Wq VL (L2:=mem (i::d')) (fun k=>by rw[show mem (i::d') k=(fun k=>mem (i::d') k) k from rfl,C7]);rw[U2 _ (fun k hk=>l7.1 hk)]at VR;have VA:∀k∈(kQ l).getD i [],L k=true:=vA g1.dW I' (i+1) i jB _ ho fun e he hb=>g1.dW i _ ho hLi e he hb
    have hinv:Inv A E P l K F L (i::d') r (VZ.set i (.pt id 0 0 0)) (H.put id (.var t (cur.toList.map .raw))):=
     ⟨by simpa using g1.len,fun k hk=>(g1.sub k hk).imp_left (List.mem_cons_of_mem _),g1.dW,AW hok WV g1.kU hp,c5,by rw[<-VR];exact hv,
      IY hok hE g1 Yr (fun k=>by
       by_cases e:k=i
       ·subst e;simp[hLi]
       ·simp[e]) (fun _=>eQ.put hid) VA⟩
    have Vo:bs (w.name id 0 (.at (β i) cur.size 0)) (FL l (VZ.set i (.pt id 0 0 0)) L F l.length) tm:=by
     refine⟨by rw[lw];have:=h2.1;rw[lw]at this;exact this,fun s a v ha Vq=>?_⟩;rcases Jw l.length s a ha with h6|⟨rfl,h6,_⟩
     ·exact(h2.2 s a v h6 Vq).aY k2 (nG a)
     ·have:=h2.2 s _ v h6 Vq;rw[a3]at this;have:=df this;subst this;exact k3
    have Zq:Hid P l L (i::d') (VZ.set i (.pt id 0 0 0)) w0 (w.name id 0 (.at (β i) cur.size 0)) β:=fun k Vr Vc=>by
     have WE:k≠i:=fun e=>Vc (by simp[e])
     have Ya:k ∉ d':=fun e=>Vc (List.mem_cons_of_mem _ e)
     obtain⟨⟨t',WC,b1,b2,b3,b4,b5,b6,b7,b8⟩,b9⟩:=g5 k Vr Ya;refine⟨⟨t',WC,b1,b2,by rw[<-b3];simp[List.getElem?_set,Ne.symm WE],b4,b5,b6,b7,fun j m t1 s1 hh=>?_⟩,fun j YD XD=>b9 j YD fun e=>XD (List.mem_cons_of_mem _ e)⟩;have hh:(if j=id/\m=0 then some (Rz.at (β i) cur.size 0)else w.nm j m)=some (.at (β k) t1 s1):=hh;split at hh
     ·simp only[Option.some.injEq,Rz.at.injEq]at hh;exact WE (a9 k Vr Ya hh.1).symm
     ·exact b8 _ _ _ _ hh
    simp only[List.length_cons]at g4;obtain⟨n,rfl⟩:∃k,n=k+1:=⟨n-1,jB⟩;obtain⟨d2,r2,rs2,H2,w2,x1,x2,x3,x4,x5,x6,x7⟩:=JV n jB hinv k1 Vo (Sk h3 h1 hid a6 rfl) Zq;exact⟨d2,r2,rs2,H2,w2,x1,x2,x3,x4,x5,x6,x7⟩
theorem PJ{rs:UM}(h:Inv A E P l K F L done rest rs H)(hs:∀i r,rest=i::r->kV A l i=true/\L i=false){o:Oper}(ho:l[i]?=some o)(hi:L i=false)(Wc:∀e∈o.after.toList,Region.binds .any e=true->L e.on=true)
  {L2:UX} (Xm:∀k,L2 k=(L k || k == i)) (hnE:i∈done\/i ∉ E\/∃r,rest=i::r) :
  lK P l.toArray o (FL l rs L F l.length) H fun G' H'=>∃done' Wh VZ,Inv A E P l K F L2 done' Wh VZ H'/\G'=FL l VZ L2 F l.length/\∀w0 w β,Hid P l L done rs w0 w β->Hid P l L2 done' VZ w0 w β:=by
 obtain⟨I',U4⟩:=wv hok;have WA:=(List.getElem?_eq_some_iff.1 ho).1;obtain rfl:o=dP l i:=by have:=(zo WA).symm.trans ho;cases this;rfl
 have Yc:oe l L2:=fun j o' hj WZ e he hb=>by
  rw[Xm]at WZ ⊢;rcases Bool.or_eq_true_iff.1 WZ with h6|h6
  ·rw[h.dW j o' hj h6 e he hb];rfl
  ·obtain rfl:j=i:=by simpa using h6
   rw[ho]at hj;cases hj;rw[Wc e he hb];rfl
 by_cases hd:i∈done
 ·obtain⟨w1,w2,D,w3,w4,w5,w6,w7,w8,w9⟩:=h.wait i hd hi;refine(w7 _ (Gn I' U4 w3 h.dW ho w4 hi w6 Wc)).mono ?_;rintro G' H' ⟨rfl,rfl⟩;refine⟨done,rest,rs,⟨h.len,fun k hk=>?_,Yc,h.kU,h.ord,h.walk,fun j hj WZ=>h.wait j hj ?_⟩,vK I' U4 h.dW ho hi Wc rfl Xm,fun w0 w β hh k Vr Vc=>?_⟩
  ·rw[Xm]at hk;rcases Bool.or_eq_true_iff.1 hk with h6|h6
   ·exact h.sub k h6
   ·obtain rfl:k=i:=by simpa using h6
    exact .inl hd
  ·rw[Xm]at WZ;exact(Bool.or_eq_false_iff.1 WZ).1
  ·have Zh:∀k,L2 k=true->k ∉ done->L k=true:=fun k h1 h2=>by
    rw[Xm]at h1;rcases Bool.or_eq_true_iff.1 h1 with h6|h6
    ·exact h6
    ·obtain rfl:k=i:=by simpa using h6
     exact(h2 hd).elim
   obtain⟨a,b⟩:=hh k (Zh k Vr Vc) Vc;exact⟨a,fun j YD XD=>b j (Zh j YD XD) XD⟩
 ·-- the next effect
  have Vl:i∈rest:=(CY h.ord i WA).resolve_left hd;obtain⟨e,Wh,rfl⟩:∃e r,rest=e::r:=by cases rest with|nil=>simp at Vl|cons e r=>exact⟨e,r,rfl⟩
  obtain⟨Yr,hLe⟩:=hs e Wh rfl;obtain⟨hp,VM,WV,h4,h5⟩:=ue h.ord;have VA:=vA h.dW I' (i+1) i jB _ ho Wc;obtain rfl:i=e:=by
   rcases List.mem_cons.1 Vl with h|hr
   ·exact h
   ·rcases(h4 Yr).1 i hr with h6|h6
    ·have:=VA e h6;rw[hLe]at this;cases this
    ·rcases hnE with h7|h7|⟨r,h7⟩
     ·exact(hd h7).elim
     ·exact(h7 h6).elim
     ·cases h7;rfl
  have Zp:mem done i=false:=by rw[<-Bool.not_eq_true,l7];exact VM
  have Wq:∀e∈(dP l i).after.toList,Region.binds .any e=true->mem done e.on=true:=fun e he hb=>l7.2 (hp _ (yr ho he hb))
  have hw:=h.walk;rw[List.map_cons]at hw;obtain⟨_,hx⟩:=(F9 hw).resolve_right fun⟨hx,_⟩=>by unfold kV at Yr;rw[Yr]at hx;cases hx
  refine(hx _ (Gn I' U4 h.kU h.dW ho Zp hi Wq Wc)).mono ?_;rintro G' H' ⟨Yb,r,rfl,hv⟩;have U2:∀D:UX,(∀k,D k=true->k∈done)->FL l (rs.set i r) D F l.length=FL l rs D F l.length:=fun D hD=>qX (by
   cases e:D i with
   |false=>rfl
   |true=>exact(VM (hD i e)).elim) _
  have VL:(rs.set i r).getD i .any=r:=by simp[h.len,WA]
  have VR:=vK (rs:=rs.set i r) (F:=F) I' U4 h.kU ho Zp Wq VL (L2:=mem (i::done)) (fun k=>by rw[show mem (i::done) k=(fun k=>mem (i::done) k) k from rfl,C7]);rw[U2 _ (fun k hk=>l7.1 hk)]at VR;have Xa:=vK (rs:=rs.set i r) (F:=F) I' U4 h.dW ho hi Wc VL Xm;rw[qX hi]at Xa;refine⟨i::done,Wh,rs.set i r,⟨by simpa using h.len,fun k hk=>?_,Yc,AW hok WA h.kU hp,h5,by rw[<-VR];exact hv,IY hok hE h Yr Xm Yb VA⟩,Xa,fun w0 w β hh k Vr Vc=>?_⟩
  ·rw[Xm]at hk;rcases Bool.or_eq_true_iff.1 hk with h6|h6
   ·exact(h.sub k h6).imp_left (List.mem_cons_of_mem _)
   ·obtain rfl:k=i:=by simpa using h6
    simp
  ·have Zh:∀k,L2 k=true->k ∉ i::done->L k=true/\k ∉ done/\k≠i:=fun k h1 h2=>by
    rw[Xm]at h1;simp only[List.mem_cons,not_or]at h2;rcases Bool.or_eq_true_iff.1 h1 with h6|h6
    ·exact⟨h6,h2.2,h2.1⟩
    ·exact(h2.1 (by simpa using h6)).elim
   obtain⟨y1,y2,y3⟩:=Zh k Vr Vc;obtain⟨⟨t,cur,b1,b2,b3,b4⟩,b⟩:=hh k y1 y2;exact⟨⟨t,cur,b1,b2,by rw[<-b3];simp[List.getElem?_set,Ne.symm y3],b4⟩,fun j YD XD=>b j (Zh j YD XD).1 (Zh j YD XD).2.1⟩
theorem TX{rs:UM}(h:Inv A E P l K F L done rest rs H){o:Oper}(ho:l[i]?=some o)(hi:L i=false)(hd:i ∉ done)(hiE:i∈E)(Wc:∀e∈o.after.toList,Region.binds .any e=true->L e.on=true)
  {L2:UX} (Xm:∀k,L2 k=(L k || k == i)) {w0 w:NW} {H0:Hp} {tm:UU} {β:Nat->Nat} (h1:aJ w H) (h2:bs w (FL l rs L F l.length) tm) (h3:Ext w0 H0 w H) (h4:Hid P l L done rs w0 w β) {Q:Exit->Act->World->Prop} {next:Act->World->Prop}
  (hn:∀VH w' VZ β',Inv A E P l K F L2 done rest VZ H->aJ w' H->bs w' (FL l VZ L2 F l.length) VH->Ext w0 H0 w' H->Hid P l L2 done VZ w0 w' β'->next ⟨VH,[]⟩ w'.toWorld):sH P l.toArray Q o next ⟨tm,[]⟩ w.toWorld:=by
 obtain⟨I',U4⟩:=wv hok;have WA:=(List.getElem?_eq_some_iff.1 ho).1;obtain rfl:o=dP l i:=by have:=(zo WA).symm.trans ho;cases this;rfl
 obtain⟨t,zs,e1,e2,e3⟩:=yl hE.1 i hiE;obtain⟨z,B',rfl⟩:=yS (w:=w.toWorld) e2;have Yc:oe l L2:=fun j o' hj WZ e he hb=>by
  rw[Xm]at WZ ⊢;rcases Bool.or_eq_true_iff.1 WZ with h6|h6
  ·rw[h.dW j o' hj h6 e he hb];rfl
  ·obtain rfl:j=i:=by simpa using h6
   rw[ho]at hj;cases hj;rw[Wc e he hb];rfl
 have VL:(rs.set i (.raw (.pointer (some ⟨w.heap.size,0,none⟩)))).getD i .any=.raw (.pointer (some ⟨w.heap.size,0,none⟩)):=by simp[h.len,WA]
 have VM:∀j,j≠i->∀r:AV,(rs.set i r).getD j .any=rs.getD j .any:=fun j hj r=>by simp[List.getElem?_set,Ne.symm hj]
 have U2:∀(r:AV) (D:UX),(∀k,D k=true->k∈done)->FL l (rs.set i r) D F l.length=FL l rs D F l.length:=fun r D hD=>qX (by
  cases e:D i with
  |false=>rfl
  |true=>exact(hd (hD i e)).elim) _
 have Xa:=vK (rs:=rs.set i (.raw (.pointer (some ⟨w.heap.size,0,none⟩)))) (F:=F) I' U4 h.dW ho hi Wc VL Xm;rw[qX hi]at Xa;have ex:Ext w H ((w.to (w.alloc (.cells z.cells t))).gg w.heap.size) H:={
  size:=by show w.heap.size<=(w.alloc _).heap.size;simp
  free:=fun b hb hn=>⟨RowKit.Below.heap_alloc w.toWorld _ b hb,fun h=>by
   rcases h with h|h
   ·omega
   ·exact hn h⟩
  names:=fun _ _ _ _ h=>h
  os:=rfl,tape:=rfl,output:=rfl
  rest:=fun b hb hO U8=>⟨RowKit.Below.heap_alloc w.toWorld _ b hb,.inr hO,U8⟩
  base:=rfl }
 have hW:aJ ((w.to (w.alloc (.cells z.cells t))).gg w.heap.size) H:={
  rows:=fun j row hj=>by obtain⟨g1,y,g2,g3⟩:=h1.rows j row hj;refine⟨g1,y,g2,g3.ext ex fun b t' s e=>?_⟩;subst e;exact RowKit.Below.heap_alloc w.toWorld _ b (h1.lt g2)
  di:=h1.di,inj:=h1.inj,cd:=h1.cd.aY ex.toKeep
  own:=fun j n b t' s hh=>.inr (h1.own j n b t' s hh)
  fin:=fun b hb=>by
   show b<(w.alloc _).heap.size;rcases hb with hh|hh
   ·subst hh;simp
   ·have:=h1.fin b hh;simp;omega }
 have Zh:∀k,L2 k=true->k≠i->L k=true:=fun k h1 h2=>by rw[Xm]at h1;exact(Bool.or_eq_true_iff.1 h1).resolve_right (by simpa using h2)
 unfold sH;rw[if_pos (by simp[Region.wanted,e3])];refine .inl ?_;have hex:(execOp (Act.mk tm []).eval (dP l i)).run P w.toWorld=.ok (.value (.pointer (some ⟨w.heap.size,0,none⟩))) (w.alloc (.cells z.cells t)):=by
  have:∀(o:Oper),o.op=.alloc t->(execOp (Act.mk tm []).eval o).run P w.toWorld=.ok (.value (.pointer (some ⟨w.heap.size,0,none⟩))) (w.alloc (.cells z.cells t)):=fun o ho=>by obtain⟨dst,op,ty,pos,after,guard⟩:=o;simp only at ho;subst ho;simp only[execOp,Sem.run_bind,Instr.alloc,B',Result.andThen_ok,newVar,newRow];simp
  exact this _ e1
 simp only[Oper.wp,hex,Oper.upon];rw[Act.put_eq];refine hn _ ((w.to (w.alloc (.cells z.cells t))).gg w.heap.size) (rs.set i (.raw (.pointer (some ⟨w.heap.size,0,none⟩)))) (fun k=>if k=i then w.heap.size else β k) ⟨by simpa using h.len,fun k hk=>?_,Yc,h.kU,h.ord,by rw[U2 _ _ (fun k hk=>l7.1 hk)];exact h.walk,fun j hj WZ=>?_⟩ hW ?_ (h3.trans ex) ?_
 ·rw[Xm]at hk;rcases Bool.or_eq_true_iff.1 hk with h6|h6
  ·exact h.sub k h6
  ·obtain rfl:k=i:=by simpa using h6
   exact .inr hiE
 ·rw[Xm]at WZ;obtain⟨w1,w2,D,w3,w4,w5,w6,w7,w8,w9⟩:=h.wait j hj (Bool.or_eq_false_iff.1 WZ).1;have WU:j≠i:=fun e=>hd (e ▸ hj)
  exact⟨w1,w2,D,w3,w4,w5,w6,by rw[U2 _ _ w5,VM j WU];exact w7,fun hd H'=>by rw[U2 _ _ w5,VM j WU];exact w8 hd H',fun hd H' U6=>by rw[U2 _ _ w5,VM j WU];exact w9 hd H' U6⟩
 ·rw[<-Xa];exact(h2.ext ex).put _ (.raw _) []
 ·intro k Vr Vc;by_cases WE:k=i
  ·subst WE;refine⟨⟨t,z.cells,e1,e2,by simp only[if_true];exact VL,by simp only[if_true];exact heap_alloc_new w.toWorld _,by simp only[if_true];exact .inl rfl,by simp only[if_true];exact h3.size,by simp only[if_true];show w.heap.size<(w.alloc _).heap.size;simp,fun j m t' s hh=>?_⟩,fun j YD XD e=>?_⟩
   ·simp only[if_true]at hh;have hh:w.nm j m=some (.at w.heap.size t' s):=hh;have:=h1.lt hh;omega
   ·by_cases hjk:j=k
    ·exact hjk.symm
    ·exfalso;obtain⟨⟨_,_,_,_,_,_,_,_,b7,_⟩,_⟩:=h4 j (Zh j YD hjk) XD;simp only[if_true,if_neg hjk]at e;omega
  ·obtain⟨⟨t',cur,b1,b2,b3,b4,b5,b6,b7,b8⟩,b9⟩:=h4 k (Zh k Vr WE) Vc;simp only[if_neg WE];refine⟨⟨t',cur,b1,b2,by rw[VM k WE];exact b3,(RowKit.Below.heap_alloc w.toWorld _ _ b7).trans b4,.inr b5,b6,Nat.lt_of_lt_of_le b7 ex.size,b8⟩,fun j YD XD e=>?_⟩;by_cases WU:j=i
   ·subst WU;simp only[if_true]at e;omega
   ·simp only[if_neg WU]at e;exact b9 j (Zh j YD WU) XD e
theorem QN{Q:Exit->UI}(hQ:∀F H,K F H->Q .normal F H){H0:Hp}(w0:NW) :
  ∀(fuel:Nat) (listed:Array Bool),listed.size=l.length->(List.range l.length).countP (fun i=>!listed.getD i false)=fuel->
   ∀H done rest rs (w:NW) tm β,Inv A E P l K F (fun i=>listed.getD i false) done rest rs H->(∀i r,rest=i::r->kV A l i=true/\listed.getD i false=false)->
    aJ w H->bs w (FL l rs (fun i=>listed.getD i false) F l.length) tm->Ext w0 H0 w H->Hid P l (fun i=>listed.getD i false) done rs w0 w β->wpAny P .any l.toArray (gZ Q w0 H0) fuel listed ⟨tm,[]⟩ w.toWorld:=by
 obtain⟨I',U4⟩:=wv hok;have fin:∀(listed:Array Bool) H done rest rs,Inv A E P l K F (fun i=>listed.getD i false) done rest rs H->(∀i r,rest=i::r->kV A l i=true/\listed.getD i false=false)->(∀i,i<l.length->listed.getD i false=true)->∀(w:NW) tm,aJ w H->bs w (FL l rs (fun i=>listed.getD i false) F l.length) tm->Ext w0 H0 w H->gZ Q w0 H0 .normal ⟨tm,[]⟩ w.toWorld:=by
  intro listed H done rest rs h hs Vj w tm h1 h2 h3;obtain rfl:rest=[]:=by
   cases rest with
   |nil=>rfl
   |cons i r=> obtain⟨_,hni,WA,_⟩:=ue h.ord;have h6:=(hs i r rfl).2;rw[Vj i WA]at h6;cases h6
  have e:FL l rs (fun i=>listed.getD i false) F l.length=FL l rs (mem done) F l.length:=by
   have gen:∀m,m<=l.length->FL l rs (fun i=>listed.getD i false) F m=FL l rs (mem done) F m:=by
    intro m;induction m with
    |zero=>intro _;rfl
    |succ m ih=> intro hm;have h4:=Vj m jB;have h5:mem done m=true:=l7.2 ((CY h.ord m jB).resolve_right jE);rw[FL,FL,ih jB,h4,h5]
   exact gen _ jl
  rw[e]at h2;exact⟨tm,_,H,w,rfl,rfl,hQ _ _ h.walk,h1,h2,h3.pU⟩
 intro fuel;induction fuel with
 |zero=>
  intro listed U' YR H done rest rs w tm β h hs h1 h2 h3 _;have Vj:∀i,i<l.length->listed.getD i false=true:=fun i hi=>by have:=(List.countP_eq_zero.1 YR) i (List.mem_range.2 hi);simpa using this
  refine⟨?_,fin listed H done rest rs h hs Vj w tm h1 h2 h3⟩;rw[List.eq_nil_iff_forall_not_mem];intro j hj;obtain⟨hj0,o,ho,_⟩:=mem_ready.1 hj;have Zo:j<l.length:=by have:=(Array.getElem?_eq_some_iff.1 ho).1;simpa using this
  have:=Vj j Zo;simp[U',Zo]at this hj0;rw[this]at hj0;cases hj0
 |succ fuel ih=>
  intro listed U' YR H done rest rs w tm β h hs h1 h2 h3 Zq;refine⟨fun haa=>?_,fun i hi=>?_⟩
  ·exfalso;have hex:∃i,i<l.length/\listed.getD i false=false:=by
    have Wg:0<(List.range l.length).countP (fun i=>!listed.getD i false):=jB;obtain⟨i,hi,hp⟩:=List.countP_pos_iff.1 Wg;exact⟨i,List.mem_range.1 hi,by simpa using hp⟩
   obtain⟨i,⟨hi,hf⟩,XV⟩:=exists_least hex;have ho:l[i]?=some l[i]:=List.getElem?_eq_getElem hi;have:i∈Region.ready .any l.toArray listed:=mem_ready.2 ⟨by simp[U',hi]at hf ⊢;exact hf,l[i],by simp[hi],fun e he hb=>by
    have h4:=I' i _ ho e (by simpa using he) hb;cases hv:listed.getD e.on false with
    |true=>rfl
    |false=>have:=XV e.on ⟨jB,hv⟩;omega⟩
   rw[haa]at this;cases this
  ·obtain⟨Xg,o,ho,Wc⟩:=mem_ready.1 hi;have Xe:l[i]?=some o:=by simpa using ho
   have WA:=(List.getElem?_eq_some_iff.1 Xe).1;have Yq:listed.getD i false=false:=by simp[U',WA]at Xg ⊢;exact Xg
   have Wq:∀e∈o.after.toList,Region.binds .any e=true->listed.getD e.on false=true:=fun e he hb=>Wc e (by simpa using he) hb
   have Xf:∀k,(listed.setIfInBounds i true).getD k false=(listed.getD k false || k == i):=fun k=>by
    by_cases hk:k=i
    ·subst hk;simp[U',WA]
    ·simp[Array.getElem?_setIfInBounds_ne (Ne.symm hk),hk]
   have haB:(List.range l.length).countP (fun k=>!(listed.setIfInBounds i true).getD k false)=fuel:=by
    have:∀(n:Nat),i<n->(List.range n).countP (fun k=>!(listed.setIfInBounds i true).getD k false)+1=(List.range n).countP (fun k=>!listed.getD k false):=by
     intro n;induction n with
     |zero=>intro h;omega
     |succ n ihn=>
      intro h;rw[List.range_succ,List.countP_append,List.countP_append];by_cases hn:n=i
      ·subst hn;have:(List.range n).countP (fun k=>!(listed.setIfInBounds n true).getD k false)=(List.range n).countP (fun k=>!listed.getD k false):=by
        refine List.countP_congr fun k hk=>?_
        rw[Xf];have:k≠n:=by have:=List.mem_range.1 hk;omega
        simp[this]
       rw[this];simp only[List.countP_singleton,Xf,Yq];simp
      ·rw[<-ihn jB];simp only[List.countP_singleton,Xf];have:(n == i)=false:=by simpa using hn
       rw[this,Bool.or_false];omega
    have:=this l.length WA;omega
   have go:∀{d' r' VZ H'} {w':NW} {VH} {β'},Inv A E P l K F (fun k=>(listed.setIfInBounds i true).getD k false) d' r' VZ H'->aJ w' H'->bs w' (FL l VZ (fun k=>(listed.setIfInBounds i true).getD k false) F l.length) VH->Ext w0 H0 w' H'->Hid P l (fun k=>(listed.setIfInBounds i true).getD k false) d' VZ w0 w' β'->
     wpAny P .any l.toArray (gZ Q w0 H0) fuel (listed.setIfInBounds i true) ⟨VH,[]⟩ w'.toWorld:=fun{d' r' VZ H' w' VH β'} k1 k2 k3 k4 k5=>by
    obtain⟨d2,r2,rs2,H2,w2,x1,x2,x3,x4,x5,x6,x7⟩:=JV hok hE r'.length jl k1 k2 k3 k4 k5;rw[<-x1];exact ih (listed.setIfInBounds i true) (by simpa using U') haB H2 d2 r2 rs2 w2 VH β' x2 x3 x4 x5 x6 x7
   unfold wpOp;rw[ho];by_cases XX:i ∉ done/\i∈E/\¬ ∃r,rest=i::r
   ·have:=TX hok hE h Xe Yq XX.1 XX.2.1 Wq (L2:=fun k=>(listed.setIfInBounds i true).getD k false) Xf h1 h2 h3 Zq (Q:=gZ Q w0 H0) (next:=wpAny P .any l.toArray (gZ Q w0 H0) fuel (listed.setIfInBounds i true)) fun VH w' VZ β' k1 k2 k3 k4 k5=>go k1 k2 k3 k4 k5
    exact this
   ·have hnE:i∈done\/i ∉ E\/∃r,rest=i::r:=by
     by_cases a:i∈done
     ·exact .inl a
     ·by_cases b:i∈E
      ·exact .inr (.inr (Classical.byContradiction fun c=>XX ⟨a,b,c⟩))
      ·exact .inr (.inl b)
    have W9:=PJ hok hE h hs Xe Yq Wq (L2:=fun k=>(listed.setIfInBounds i true).getD k false) Xf hnE;have:=W9 w tm (gZ Q w0 H0) (wpAny P .any l.toArray (gZ Q w0 H0) fuel (listed.setIfInBounds i true)) h1 h2 (by rintro VH w' F' H' ⟨d',r',VZ,k1,rfl,k2⟩ g1 g2 g3;exact go k1 g1 g2 (h3.trans g3) (k2 _ _ _ (Zq.ext g3)))
    exact this
end
def Bu(A:AS)(E:UQ){id:Nat}(ord:UQ){Q:Exit->UI}(hm:P.follows .mixedOrders=true)(hok:p9 A E l ord=true)(hE:qW P l E)(h:fJ A P l.toArray (Q .normal) (ord.map (dP l)) F H):dH P (.region id l.toArray true) Q F H:=fun w tm h1 h2=>by
 simp only[p9,Bool.and_eq_true,List.all_eq_true,Bool.not_eq_true']at hok;obtain⟨⟨YT,haY⟩,hqE⟩:=hok;have hE:Bn A P l E:=⟨hE,hqE⟩;have hz:∀i,(Array.replicate l.toArray.size false).getD i false=false:=fun i=>by by_cases hi:i<l.length<;>simp[Array.getElem?_replicate,hi]
 refine wp_region_any hm ?_;have e0:∀(rs:UM) (L:UX),(∀i,L i=false)->FL l rs L F l.length=F:=fun rs L hL=>by
  have gen:∀m,FL l rs L F m=F:=by
   intro m;induction m with
   |zero=>rfl
   |succ m ih=>rw[FL,hL,if_neg jE,ih]
  exact gen _
 have hinv:Inv A E P l (Q .normal) F (fun i=>(Array.replicate l.toArray.size false).getD i false) [] ord (List.replicate l.length .any) H:=
  ⟨jE,(fun i hi=>by have:=(hz i).symm.trans hi;cases this),(fun j o _ hj=>by have:=(hz j).symm.trans hj;cases this),(fun j o _ hj=>by simp[mem]at hj),haY,
   (by rw[e0 _ _ (fun i=>by simp[mem])];exact h),(fun i hi=>by simp at hi)⟩
 obtain⟨d',r',VZ,k1,k2,k3,_⟩:=CZ YT hE ord hinv;refine QN YT hE (fun _ _ h=>h) w l.toArray.size (Array.replicate l.toArray.size false) jE (by rw[List.countP_eq_length.2 (fun i _=>by rw[hz];rfl)];simp) H d' r' VZ (w.to w.drew) tm (fun _=>0) k1 (fun i r e=>⟨k2 i r e,hz i⟩) h1.drew (by rw[e0 _ _ hz];exact h2.ext (Ext.drew w H)) (Ext.drew w H) (fun i hi _=>by have:=(hz i).symm.trans hi;cases this)
end
variable{P:UY}{H:Hp}{id:Nat}{F:UM}{Q:Exit->UI}
def HM(A:AS){l:List Oper}(ord:UQ)(hm:P.follows .mixedOrders=true)(hok:p9 A [] l ord=true)(h:fJ A P l.toArray (Q .normal) (ord.map (dP l)) F H):dH P (.region id l.toArray true) Q F H:=Bu A [] ord hm hok trivial h
def O2{l:List Oper}(ord:UQ)(hm:P.follows .mixedOrders=true)(hok:p9 ([],[],[]) [] l ord=true)(h:fJ ([],[],[]) P l.toArray (Q .normal) (ord.map (dP l)) F H):dH P (.region id l.toArray true) Q F H:=HM ([],[],[]) ord hm hok h
section
variable {P:UY}{ev:UT}{H:Hp}{ty:US}{K:UJ}
@[go_sem] def j7k:(∀(x:Operand),fK P ev H ty K (.move x)=vc P ev H ty K (.move x))/\(∀(x:Operand),fK P ev H ty K (.assign x)=vc P ev H ty K (.assign x))/\(∀(c a b:Operand),fK P ev H ty K (.pick c a b)=vc P ev H ty K (.pick c a b))/\(∀(x:Operand),fK P ev H ty K (.nilCheck x)=vc P ev H ty K (.nilCheck x))/\(∀(op:UnOp) (t:US) (x:Operand),fK P ev H ty K (.unOp op t x)=vc P ev H ty K (.unOp op t x))/\(∀(t:US) (x:Operand),fK P ev H ty K (.load t x)=vc P ev H ty K (.load t x))/\(∀(t:US) (x:Operand) (f:Nat),fK P ev H ty K (.fieldAddr t x f)=vc P ev H ty K (.fieldAddr t x f))/\(∀(t:US) (x:Operand) (f:Nat),fK P ev H ty K (.field t x f)=vc P ev H ty K (.field t x f))/\(∀(t:US) (x i:Operand),fK P ev H ty K (.indexAddr t x i)=vc P ev H ty K (.indexAddr t x i))/\(∀(t:US) (x i:Operand),fK P ev H ty K (.index t x i)=vc P ev H ty K (.index t x i))/\(∀(x:Operand) (i:Nat),fK P ev H ty K (.extract x i)=vc P ev H ty K (.extract x i))/\(∀(t:US) (a:Operand) (lo hi mx:Option Operand),fK P ev H ty K (.slice t a lo hi mx)=vc P ev H ty K (.slice t a lo hi mx))/\(∀(fn:Fn) (a b:Array Operand),fK P ev H ty K (.makeFunc fn a b)=vc P ev H ty K (.makeFunc fn a b))/\(∀(t:US) (ps:Array (Nat×Operand)),fK P ev H ty K (.build t ps)=vc P ev H ty K (.build t ps))/\(∀(as:Array Operand) (ts:Array US),fK P ev H ty K (.call ⟨.builtin .len,as,ts⟩)=vc P ev H ty K (.call ⟨.builtin .len,as,ts⟩))/\(∀(as:Array Operand) (ts:Array US),fK P ev H ty K (.call ⟨.builtin .min,as,ts⟩)=vc P ev H ty K (.call ⟨.builtin .min,as,ts⟩)):=by and_intros<;>(intros;rfl)
@[go_sem] def j9c:(∀(t:US) (x y:Operand) (t':US),fK P ev H ty K (.binOp .add t x y t')=vc P ev H ty K (.binOp .add t x y t'))/\(∀(t:US) (x y:Operand) (t':US),fK P ev H ty K (.binOp .sub t x y t')=vc P ev H ty K (.binOp .sub t x y t'))/\(∀(t:US) (x y:Operand) (t':US),fK P ev H ty K (.binOp .lss t x y t')=vc P ev H ty K (.binOp .lss t x y t'))/\(∀(t:US) (x y:Operand) (t':US),fK P ev H ty K (.binOp .gtr t x y t')=vc P ev H ty K (.binOp .gtr t x y t'))/\(∀(t:US) (x y:Operand) (t':US),fK P ev H ty K (.binOp .geq t x y t')=vc P ev H ty K (.binOp .geq t x y t')):=by and_intros<;>(intros;rfl)
@[go_sem] def j9e(t:US)(x y:Operand)(t':US):fK P ev H ty K (.binOp .eql t x y t')=((fI P .eql t (ev x) (ev y)).1/\K (fI P .eql t (ev x) (ev y)).2 H):=by simp[fK,oE,vq]
@[go_sem] def j9k(t:US)(x y:Operand)(t':US):fK P ev H ty K (.binOp .neq t x y t')=((fI P .neq t (ev x) (ev y)).1/\K (fI P .neq t (ev x) (ev y)).2 H):=by simp[fK,oE,vq]
@[go_sem] def j9d:(∀(t:US) (x:Operand),fK P ev H ty K (.box t x)=vc P ev H ty K (.box t x))/\(∀(t:US),fK P ev H ty K (.alloc t)=vc P ev H ty K (.alloc t))/\(∀(t:US) (a x:Operand),fK P ev H ty K (.store t a x)=vc P ev H ty K (.store t a x))/\(∀(t:US) (n:Nat) (ps:Array (Nat×Operand)),fK P ev H ty K (.buildSlice t n ps)=pw P t n (ps.toList.map fun p=>(p.1,ev p.2)) fun r=>K r H)/\(∀(f:Operand) (as:Array Operand) (ts:Array US),fK P ev H ty K (.call ⟨.value f,as,ts⟩)=vc P ev H ty K (.call ⟨.value f,as,ts⟩))/\(∀(f:Operand) (m:String) (as:Array Operand) (ts:Array US),fK P ev H ty K (.call ⟨.invoke f m,as,ts⟩)=vc P ev H ty K (.call ⟨.invoke f m,as,ts⟩))/\(∀(t:US) (a x:Operand),fK P ev H ty K (.call ⟨.builtin .append,#[a,x],#[t,t]⟩)=vc P ev H ty K (.call ⟨.builtin .append,#[a,x],#[t,t]⟩))/\(∀(as:Array Operand) (ts:Array US),fK P ev H ty K (.call ⟨.builtin .copy,as,ts⟩)=vc P ev H ty K (.call ⟨.builtin .copy,as,ts⟩)):=by and_intros<;>(intros;rfl)
end
variable{C D:UQ}
@[go_sem] def j62{ev:UT}(op:Op):ja ([],C,D) ev op=true:=by cases op<;>first|rfl|(rename_i t x;simp only[ja];generalize ev x=a;cases a<;>first|rfl|simp[tg])
variable{A:AS}
@[go_sem] def j4F{ev:UT}(t:US)(x:Operand):ja A ev (.load t x)=tg A (ev x):=(rfl)
@[go_sem] def j2y{ev:UT}(t:US)(a x:Operand):ja A ev (.store t a x)=((A.1.isEmpty || A.2.2.contains 1000000) || Bl A (ev a)):=(rfl)
@[go_sem] def j23(A:AS)(i m k j:Nat):tg A (.pt i m k j)=(!A.1.contains i && (decide (1<=j) || !A.1.contains (i+16))):=(rfl)
@[go_sem] def j22:(∀(A:AS) (cs:UM),tg A (.ip cs)=true)/\(∀(A:AS) (i m k j:Nat),Bl A (.pt i m k j)=A.1.contains i)/\(∀{A:AS} {ev:UT} (x:Operand),ja A ev (.move x)=true)/\(∀{A:AS} {ev:UT} (x:Operand),ja A ev (.assign x)=true)/\(∀{A:AS} {ev:UT} (c a b:Operand),ja A ev (.pick c a b)=true)/\(∀{A:AS} {ev:UT} (x:Operand),ja A ev (.nilCheck x)=true)/\(∀{A:AS} {ev:UT} (op:UnOp) (t:US) (x:Operand),ja A ev (.unOp op t x)=true)/\(∀{A:AS} {ev:UT} (op:BinOp) (t:US) (x y:Operand) (t':US),ja A ev (.binOp op t x y t')=true)/\(∀{A:AS} {ev:UT} (t:US) (x:Operand) (f:Nat),ja A ev (.fieldAddr t x f)=true)/\(∀{A:AS} {ev:UT} (t:US) (x:Operand) (f:Nat),ja A ev (.field t x f)=true)/\(∀{A:AS} {ev:UT} (t:US) (x i:Operand),ja A ev (.indexAddr t x i)=true)/\(∀{A:AS} {ev:UT} (t:US) (x i:Operand),ja A ev (.index t x i)=true)/\(∀{A:AS} {ev:UT} (x:Operand) (i:Nat),ja A ev (.extract x i)=true)/\(∀{A:AS} {ev:UT} (t:US) (ps:Array (Nat×Operand)),ja A ev (.build t ps)=true)/\(∀{A:AS} {ev:UT} (c:Call),ja A ev (.call c)=true)/\(∀{A:AS} {ev:UT} (t:US),ja A ev (.alloc t)=true):=by and_intros<;>(intros;rfl)
@[go_sem] def j61:(∀{A:AS} {ev:UT} (t:US) (x:Operand),ja A ev (.box t x)=true)/\(∀{A:AS} {ev:UT} (t:US) (n:Nat) (ps:Array (Nat×Operand)),ja A ev (.buildSlice t n ps)=true)/\(∀{A:AS} {P:UY} {ops:Array Oper} {K:UI} (F:UM) (H:Hp),fJ A P ops K [] F H=K F H):=by and_intros<;>(intros;rfl)
variable{L:UQ}{ops:Array Oper}{K:UI}
@[go_sem] def j5J(dst:Option Tmp)(op:Op)(ty:US)(pos:String)(after:Array Edge)(rest:List Oper)(F:UM)(H:Hp) :
  fJ (L,[],[]) P ops K (⟨dst,op,ty,pos,after,none⟩::rest) F H=(ja (L,[],[]) (cn F) op=true/\fK P (cn F) H ty (AP (fun r H'=>fJ (L,[],[]) P ops K rest (cM F dst r) H') .mk) op):=by
 have e:ub (L,[],[]) ⟨dst,op,ty,pos,after,none⟩=false:=by cases dst<;>rfl
 have e':oy (L,[],[]) ⟨dst,op,ty,pos,after,none⟩=false:=by cases dst<;>rfl
 unfold fJ;rw[show(⟨dst,op,ty,pos,after,none⟩:Oper).guard=none from rfl];simp only[e,e'];rfl
@[go_sem] def j2S(op:Op)(ty:US)(pos:String)(after:Array Edge)(rest:List Oper)(F:UM)(H:Hp) :
  fJ (L,C,D) P ops K (⟨none,op,ty,pos,after,none⟩::rest) F H=(ja (L,C,D) (cn F) op=true/\fK P (cn F) H ty (AP (fun r H'=>fJ (L,C,D) P ops K rest (cM F none r) H') .mk) op):=(rfl)
variable{t:Nat}
@[go_sem] def j2Q{c:Nat}(op:Op)(ty:US)(pos:String)(after:Array Edge)(rest:List Oper)(F:UM)(H:Hp) :
  fJ (L,c::C,D) P ops K (⟨some t,op,ty,pos,after,none⟩::rest) F H=pg ((c::C).contains t) (Ca P (cn F) H (u7 (fun r=>fJ (L,c::C,D) P ops K rest (cM F (some t) r) H) .mk) op)
   (pg (D.contains t) (uG P (L,c::C,D) (cn F) H (AP (fun r H'=>fJ (L,c::C,D) P ops K rest (cM F (some t) r) H') .mk) op) (ja (L,c::C,D) (cn F) op=true/\fK P (cn F) H ty (AP (fun r H'=>fJ (L,c::C,D) P ops K rest (cM F (some t) r) H') .mk) op) .mk .mk) .mk .mk:=(rfl)
@[go_sem] def j2R{c:Nat}(op:Op)(ty:US)(pos:String)(after:Array Edge)(rest:List Oper)(F:UM)(H:Hp) :
  fJ (L,[],c::D) P ops K (⟨some t,op,ty,pos,after,none⟩::rest) F H=pg ((c::D).contains t) (uG P (L,[],c::D) (cn F) H (AP (fun r H'=>fJ (L,[],c::D) P ops K rest (cM F (some t) r) H') .mk) op)
   (ja (L,[],c::D) (cn F) op=true/\fK P (cn F) H ty (AP (fun r H'=>fJ (L,[],c::D) P ops K rest (cM F (some t) r) H') .mk) op) .mk .mk:=(rfl)
@[go_sem] def j7n:(∀{P:UY} {A:AS} {ev:UT} {H:Hp} {K:UJ} (f:Operand) (as:Array Operand) (ts:Array US),uG P A ev H K (.call ⟨.value f,as,ts⟩)=fh P (ev f) (as.toList.map ev) H (AP (fun r H'=>eQ A H H'/\K r H') .mk))/\(∀{P:UY} {ev:UT} {H:Hp} {K:AV->Prop} (f:Operand) (as:Array Operand) (ts:Array US),Ca P ev H K (.call ⟨.value f,as,ts⟩)=∃r,(fh P (ev f) (as.toList.map ev) H fun r' H'=>r'=r/\H'=H)/\K r):=by and_intros<;>(intros;rfl)
def sq(b:Bool)(X Y:Prop)(_:iy X)(_:iy Y):Prop:=(b=true->X)/\(b=false->Y)
@[go_sem] def j7e(X Y:Prop)(d:iy X)(e:iy Y):sq true X Y d e=X:=by unfold sq;simp
@[go_sem] def j5u(X Y:Prop)(d:iy X)(e:iy Y):sq false X Y d e=Y:=by unfold sq;simp
@[go_sem] def j2T(dst:Option Tmp)(op:Op)(ty:US)(pos:String)(after:Array Edge)(j:Nat)(want:Bool)(rest:List Oper)(F:UM)(H:Hp) :
  fJ (L,C,[]) P ops K (⟨dst,op,ty,pos,after,some (j,want)⟩::rest) F H=rG (ll ops F j want) (fun b=>(iU op || iM op)=true/\eO P F H b (u7 (fun r=>fJ (L,C,[]) P ops K rest (cM F dst r) H) .mk) op) .mk:=by
 have e:o7 (L,C,[]) ⟨dst,op,ty,pos,after,some (j,want)⟩=false:=by unfold o7 oy;cases dst<;>simp
 unfold rG;conv=>lhs;unfold fJ
 simp only[e];rfl
def qj(F:UM):List Operand->Prop
 |[]=>True
 |x::l=>(iT (cn F x)).1=true/\qj F l
theorem Ee(F:UM):∀l:List Operand,((l.all fun x=>(iT (cn F x)).1)=true)=qj F l
 |[]=>by simp[qj]
 |x::l=>by have:=Ee F l;simp only[List.all_cons,Bool.and_eq_true,qj,this]
def JZ(F:UM)(f:Operand)(as:Array Operand)(ts:Array US):(gq F (.call ⟨.value f,as,ts⟩)=true)=((iT (cn F f)).1=true/\qj F as.toList):=by rw[<-Ee];unfold gq;simp[Op.operands,Call.operands]
def C9(P:UY)(A:AS)(F:UM)(H:Hp)(K:UJ):Op->Prop
 |.call { callee:=.value f,args,.. }=>((iT (cn F f)).1=true/\qj F args.toList)/\fh P (bG F f) (args.toList.map (bG F)) H (AP (fun r H'=>eQ A H H'/\K r H') .mk)
 |_=>False
variable{K:UJ}
@[go_sem] def j5C(f:Operand)(as:Array Operand)(ts:Array US):C9 P A F H K (.call ⟨.value f,as,ts⟩)=(((iT (cn F f)).1=true/\qj F as.toList)/\fh P (bG F f) (as.toList.map (bG F)) H (AP (fun r H'=>eQ A H H'/\K r H') .mk)):=(rfl)
def OW{op:Op}(h:iU op=true):(gq F op=true/\uG P A (bG F) H K op)=C9 P A F H K op:=by
 cases op<;>first|(cases h;done)|skip
 rename_i c;obtain⟨callee,args,ts⟩:=c;cases callee<;>first|(cases h;done)|skip
 rename_i f;rw[JZ];rfl
@[go_sem] def j1J{c:Nat}{K:UI}(op:Op)(ty:US)(pos:String)(after:Array Edge)(j:Nat)(want:Bool)(rest:List Oper)(F:UM)(H:Hp) :
  fJ (L,C,c::D) P ops K (⟨some t,op,ty,pos,after,some (j,want)⟩::rest) F H=rG (ll ops F j want) (fun b=>pg ((c::D).contains t && iU op)
   (sq b (C9 P (L,C,c::D) F H (AP (fun r H'=>fJ (L,C,c::D) P ops K rest (cM F (some t) r) H') .mk) op) (fJ (L,C,c::D) P ops K rest (cM F (some t) (.gd false (.raw (.bool false)))) H) .mk .mk)
   ((iU op || iM op)=true/\eO P F H b (u7 (fun r=>fJ (L,C,c::D) P ops K rest (cM F (some t) r) H) .mk) op) .mk .mk) .mk:=by
 conv=>lhs;unfold fJ
 simp only;unfold rG pg sq;have YS:o7 (L,C,c::D) ⟨some t,op,ty,pos,after,some (j,want)⟩=((c::D).contains t && iU op):=by unfold o7 oy;simp
 cases ll ops F j want with
 |none=>rfl
 |some b=>
  simp only;rw[YS];by_cases hc:((c::D).contains t && iU op)=true
  ·rw[if_pos hc,if_pos hc];have hv:iU op=true:=by simp only[Bool.and_eq_true]at hc;exact hc.2
   rw[<-OW hv];rfl
  ·rw[if_neg hc,if_neg hc];rfl
attribute [go_sem] qj
attribute [go_sem] dP pw qW
universe u
def ba:Nat->Nat->UQ
 |_,0=>[]
 |k,n+1=>k::ba (k+1) n
variable{q:Prop}
def dD(e:q:=by first|(simp(disch:=first|omega|assumption|fail) only[go_sem,sC,W,↓reduceIte,Int.reduceEq,Int.reduceLE,Int.reduceLT,Int.reduceNe,Int.reduceToNat,Nat.reduceMul,Nat.reduceAdd,Nat.reduceLeDiff,Nat.reduceSub,Nat.reduceEqDiff,Nat.reduceBEq,List.nodup_cons,List.nodup_nil,List.mem_cons,List.not_mem_nil,List.mem_nil_iff];done)|(simp(disch:=first|omega|assumption|fail) only[go_sem,sC,↓reduceIte,Int.reduceEq,Int.reduceLE,Int.reduceLT,Int.reduceNe,Int.reduceToNat,Nat.reduceMul,Nat.reduceAdd,Nat.reduceLeDiff,Nat.reduceSub,Nat.reduceEqDiff,Nat.reduceBEq,List.nodup_cons,List.nodup_nil,List.mem_cons,List.not_mem_nil,List.mem_nil_iff];done)|fail):q:=e
def fm(e:q:=by first|(simp(disch:=first|omega|assumption|fail) only[go_sem,sC,W,↓reduceIte,Int.reduceEq,Int.reduceLE,Int.reduceLT,Int.reduceNe,Int.reduceToNat,Nat.reduceMul,Nat.reduceAdd,Nat.reduceLeDiff,Nat.reduceSub,Nat.reduceEqDiff,Nat.reduceBEq,List.nodup_cons,List.nodup_nil,List.mem_cons,List.not_mem_nil,List.mem_nil_iff];rfl)|(simp(disch:=first|omega|assumption|fail) only[go_sem,sC,↓reduceIte,Int.reduceEq,Int.reduceLE,Int.reduceLT,Int.reduceNe,Int.reduceToNat,Nat.reduceMul,Nat.reduceAdd,Nat.reduceLeDiff,Nat.reduceSub,Nat.reduceEqDiff,Nat.reduceBEq,List.nodup_cons,List.nodup_nil,List.mem_cons,List.not_mem_nil,List.mem_nil_iff];rfl)|rfl|fail):q:=e
def PK(e:q:=by first|(simp(disch:=first|omega|assumption|fail) only[go_sem,sC,W,↓reduceIte,Int.reduceEq,Int.reduceLE,Int.reduceLT,Int.reduceNe,Int.reduceToNat,Nat.reduceMul,Nat.reduceAdd,Nat.reduceLeDiff,Nat.reduceSub,Nat.reduceEqDiff,Nat.reduceBEq,List.nodup_cons,List.nodup_nil,List.mem_cons,List.not_mem_nil,List.mem_nil_iff];rfl)|(simp(disch:=first|omega|assumption|fail) only[go_sem,sC,↓reduceIte,Int.reduceEq,Int.reduceLE,Int.reduceLT,Int.reduceNe,Int.reduceToNat,Nat.reduceMul,Nat.reduceAdd,Nat.reduceLeDiff,Nat.reduceSub,Nat.reduceEqDiff,Nat.reduceBEq,List.nodup_cons,List.nodup_nil,List.mem_cons,List.not_mem_nil,List.mem_nil_iff];rfl)|fail):q:=e
def B2(e:q:=by first|(exact uo)|rfl|fail):q:=e
variable{α:Type}
@[go_sem] def jyd[Inhabited α](f:α->UM)(a:List α)(b:UK)(k:Nat)(h:k<a.length):(a.map f++b).getD k []=f (nth a k):=by rw[fM h,List.getD_eq_getElem?_getD,List.getElem?_append_left (by simpa using h)];simp[h]
attribute [go_sem] List.isEmpty_nil
@[congr] theorem j27{c:Code}{F':UM}{H':Hp}(h1:F=F')(h2:H=H'):dH P c Q F H=dH P c Q F' H':=by rw[h1,h2]
def nj(p q:Prop):Prop:=q->p
section
variable {P:UY}{Q:Exit->UI}{F:UM}{H:Hp}
variable{id:Nat}{q:Prop}
def RV{l:List Oper}(e:lq P l.toArray (Q .normal) l F H=q):nj (dH P (.region id l.toArray false) Q F H) q:=fun h=>Mi (e ▸ h)
def MT{c:Code}:nj (dH P (.block id c) Q F H) (dH P c (sG id Q) F H):=Lr
def Oa(e:Q .normal F H=q):nj (dH P .skip Q F H) q:=fun h=>Lh (e ▸ h)
def TA(e:Q (.exit id) F H=q):nj (dH P (.exit id) Q F H) q:=fun h=>Ps (e ▸ h)
def QS(e:Q .ret F H=q):nj (dH P .ret Q F H) q:=fun h=>S5 (e ▸ h)
end
section
variable {P:UY}{H:Hp}{K:UJ}
variable{t:US}{q:Prop}
def PE{zs:UW}(hz:dR P t=some zs)(e:K (.pt (nx H.l) 0 0 0) (H.put (nx H.l) (.var t (zs.map .raw)))=q):nj (nS P H t K) q:=fun h=>Mu hz (e ▸ h)
def Pm{x:AV}(ho:cQ x.cells=true)(e:K (.pt (nx H.l) 0 0 0) (H.put (nx H.l) (.var t x.cells))=q):nj (rf H t x K) q:=fun h=>PT ho (e ▸ h)
def SQ{A:Nat->Prop}{d:iy A}(e:A (nx H.l)=q):nj (vV H A d) q:=fun h=>My (e ▸ h)
def KP{sz:Nat}(h0:0<sz)(e:K (.rs (nx H.l) 0 sz 0) (H.put (nx H.l) (.aG t sz []))=q):nj (tN t sz [] H K) q:=fun h=>Nu h0 (e ▸ h)
def Qy{sz:Nat}{css:UK}(h1:aZ eJ css.flatten=true)(e:K (.sl true sz css []) H=q):nj (tN t sz css H K) q:=fun h=>Oj h1 (e ▸ h)
def Po{a x:AV}(e:zz P t a x H K=q):nj (qw P t t a x H K) q:=fun h=>TC (e ▸ h)
def Pu{d:iy K}{r:AV}(e:K r H=q):nj (AP K d r H) q:=fun h=>Sa (e ▸ h)
def Om{a b:Prop}(h:a):nj (a/\b) b:=fun k=>⟨h,k⟩
end
variable{p:Prop}
def ak(h:q)(e:nj p q:=by first
 |((with_reducible apply RV);exact fm)
 |with_reducible exact MT
 |((with_reducible apply TA);exact B2)
 |((with_reducible apply QS);exact B2)
 |((with_reducible apply Oa);exact B2)
 |fail):p:=e h
def ap(h:q)(e:nj p q:=by first
 |((with_reducible apply Po);exact fm)
 |((with_reducible apply Pu);exact fm)
 |((with_reducible apply KP);(focus (exact dD));exact fm)
 |((with_reducible apply Qy);(focus (simp only[go_sem]));exact fm)
 |((with_reducible apply PE);(focus (simp only[go_sem];rfl));exact fm)
 |((with_reducible apply Pm);(focus (simp only[go_sem]));exact fm)
 |((with_reducible apply SQ);exact fm)
 |((with_reducible apply Om);first|omega|(simp +contextual;done)|(simp +contextual;intros;omega)|fail)
 |fail):p:=e h
def S(h:q)(e:p=q:=by exact PK):p:=e ▸ h
def Sd(e:p=True:=by exact dD):p:=of_eq_true e
def ao{c:Operand}{x y:Code}{b:Bool}{pt pf:Prop}(ht:pt->dH P x Q F H)(hf:pf->dH P y Q F H)(hc:cn F c=.raw (.bool b):=by rfl)
 (et:(b=true)=pt:=by first|(simp only[Int.reduceEq,Int.reduceLE,Int.reduceLT,Int.reduceNe,false_and,and_false,true_and,and_true,or_false,false_or,true_or,or_true,Bool.false_eq_true,Bool.true_eq_false,eq_self,reduceCtorEq,Bool.not_true,Bool.not_false,Bool.and_eq_true,Bool.or_eq_true,Bool.and_eq_false_iff,Bool.or_eq_false_iff,decide_eq_true_eq,decide_eq_false_iff_not,Bool.not_eq_true',Bool.not_eq_false',Int.not_lt,Int.not_le];rfl)|rfl) (ef:(b=false)=pf:=by first|(simp only[Int.reduceEq,Int.reduceLE,Int.reduceLT,Int.reduceNe,false_and,and_false,true_and,and_true,or_false,false_or,true_or,or_true,Bool.false_eq_true,Bool.true_eq_false,eq_self,reduceCtorEq,Bool.not_true,Bool.not_false,Bool.and_eq_true,Bool.or_eq_true,Bool.and_eq_false_iff,Bool.or_eq_false_iff,decide_eq_true_eq,decide_eq_false_iff_not,Bool.not_eq_true',Bool.not_eq_false',Int.not_lt,Int.not_le];rfl)|rfl):dH P (.cond c x y) Q F H:=ON hc (fun h=>ht (et ▸ h)) (fun h=>hf (ef ▸ h))
section
variable {P:UY}{f:FuncId}{args:UM}{H:Hp}{K:UJ}{q:Prop}
variable{r0:AV}
def cm{l l0:UL}(hc:ab P f args l fun r l'=>r=r0/\l'=l0)(k:q)(h1:rP l H:=by exact dD)(h0:aS P f=true:=by exact dD)(h2:aZ (fun i=>(ids l).contains i) args=true:=by exact dD)(h3:rK (fun i=>(ids l).contains i) l:=by exact dD)
 (h4:oJ (ids l) H l0:=by exact dD) (h5:(ids l0).Nodup:=by exact dD) (e:K r0 ⟨H.B,gx H.l l0⟩=q:=by exact fm):fh P (.raw (.func (.func f) #[] #[])) args H K:=nQ h0 (wA hc h1 h2 h3 h4 h5 (e ▸ k))
def cp(hc:aB P f args r0)(k:q)(h0:aS P f=true:=by exact dD)(h2:aZ eJ args=true:=by exact dD)(e:K r0 H=q:=by exact fm):fh P (.raw (.func (.func f) #[] #[])) args H K:=nQ h0 (yK hc h2 (e ▸ k))
def cg{g:Prop}{R:AV->Prop}{A:Prop}(hc:aB P f args r0)(k:q)(h0:aS P f=true:=by exact dD)(h2:aZ eJ args=true:=by exact dD)(hA:g->A:=by first|exact id|(intro _;exact jI)|fail)(e:R r0=q:=by exact fm) :
  ∃r,(g->A/\fh P (.raw (.func (.func f) #[] #[])) args H fun r' H'=>r'=r/\H'=H)/\R r:=⟨r0,fun hg=>⟨hA hg,nQ h0 (yK hc h2 ⟨rfl,rfl⟩)⟩,e ▸ k⟩
def nr{g:Prop}{R:AV->Prop}(hc:aB P f args r0)(k:q)(h0:aS P f=true:=by exact dD)(h2:aZ eJ args=true:=by exact dD)(e:R r0=q:=by exact fm) :
  ∃r,(g->fh P (.raw (.func (.func f) #[] #[])) args H fun r' H'=>r'=r/\H'=H)/\R r:=⟨r0,fun _=>nQ h0 (yK hc h2 ⟨rfl,rfl⟩),e ▸ k⟩
end
def dT.perm{B:UQ}{l:UL}(l':UL)(h:∀i,aC l i=aC l' i):dT F ⟨B,l⟩ F ⟨B,l'⟩:=fun w tm h1 h2=>by
 have hg:∀i,(Hp.mk B l').get i=(Hp.mk B l).get i:=fun i=>(h i).symm
 exact⟨w,rfl,{ rows:=fun i r hi=>h1.rows i r ((hg i) ▸ hi),di:=fun i m z hz=>by rw[hg];exact h1.di i m z hz,inj:=h1.inj,own:=h1.own,fin:=h1.fin,cd:=h1.cd },h2,{ ExtQ.refl _ w with base:=rfl }⟩
variable{t:US}
def al(i:Nat){zs:UW}(k:q)(hi:H.get i=none:=by rfl)(hz:dR P t=some zs:=by(simp only[go_sem];rfl))(e:K (.pt i 0 0 0) (H.put i (.var t (zs.map .raw)))=q:=by exact fm):nS P H t K:=yH i hz hi (e ▸ k)
def bx(i:Nat){x:AV}(k:q)(hi:H.get i=none:=by rfl)(ho:cQ x.cells=true:=by simp only[go_sem])(e:K (.pt i 0 0 0) (H.put i (.var t x.cells))=q:=by exact fm):rf H t x K:=zI i ho hi (e ▸ k)
def q5{enc:α->UM}(vars more ys:List α){i:Nat}{m sz n:Nat}{css yss:UK}(k:q)(hm:m=vars.length+more.length:=by first|rfl|(simp only[go_sem];done)|omega)(hn:n=vars.length:=by rfl)(hc:css=(vars++more).map enc:=by first|rfl|exact List.map_append.symm|(simp only[go_sem,List.map_append];done))(hy:yss=ys.map enc:=by rfl)
 (e:K (.rs i (vars.length+ys.length+(more.drop ys.length).length) sz (vars.length+ys.length)) (H.put i (.aG t sz ((vars++ys++more.drop ys.length).map enc)))=q:=by exact fm):uz i t m sz n css yss H K:=RN vars more ys hm hn hc hy (e ▸ k)
section
variable {P:UY}{Q:Exit->UI}{F:UM}{H:Hp}
def gR{P:UY}{Q:Exit->UI}{F:UM}{H:Hp}(id:Nat){l:Array Oper}{b:Bool}(h:dH P (.region id l b) Q F H):dH P (.region id l b) Q F H:=h
variable{l:List Oper}{q:Prop}
def dE(id:Nat)(ord:UQ)(hm:P.follows .mixedOrders=true)(h:q)(hok:p9 ([],[],[]) [] l ord=true:=by decide +kernel)(e:fJ ([],[],[]) P l.toArray (Q .normal) (ord.map (dP l)) F H=q:=by(simp only[ba,List.map_cons,List.map_nil,dP,List.getD_cons_zero,List.getD_cons_succ];exact fm)):dH P (.region id l.toArray true) Q F H:=O2 ord hm hok (e ▸ h)
def dA(id:Nat)(A ord:UQ)(hm:P.follows .mixedOrders=true)(h:q)(hok:p9 (A,[],[]) [] l ord=true:=by decide +kernel)(e:fJ (A,[],[]) P l.toArray (Q .normal) (ord.map (dP l)) F H=q:=by(simp only[ba,List.map_cons,List.map_nil,dP,List.getD_cons_zero,List.getD_cons_succ];exact fm)):dH P (.region id l.toArray true) Q F H:=HM (A,[],[]) ord hm hok (e ▸ h)
def dC(id:Nat)(A:AS)(E ord:UQ)(hm:P.follows .mixedOrders=true)(h:q)(hok:p9 A E l ord=true:=by decide +kernel)(hE:qW P l E:=by simp only[qW,dP,List.getD_cons_zero,List.getD_cons_succ,go_sem])(e:fJ A P l.toArray (Q .normal) (ord.map (dP l)) F H=q:=by(simp only[ba,List.map_cons,List.map_nil,dP,List.getD_cons_zero,List.getD_cons_succ];exact fm)):dH P (.region id l.toArray true) Q F H:=Bu A E ord hm hok hE (e ▸ h)
def dQ(id:Nat)(hm:P.follows .mixedOrders=true)(h:q)(hok:um l=true:=by decide +kernel)(e:qD P l.toArray H (fun F'=>Q .normal F' H) l F=q:=by exact fm):dH P (.region id l.toArray true) Q F H:=SU hm hok (e ▸ h)
def KA{c:Code}(L:UQ)(slot:Nat)(a:AV)(hB:H.B.all (im fun i=>L.contains i)=true)(hl:iO (fun i=>L.contains i) H.l)(hv:bt (fun i=>L.contains i) H F (F.set slot a))(h:dH P c Q (F.set slot a) ⟨H.B,fB (fun i=>L.contains i) H.l⟩):dH P c Q F H:=jW (dT.free _ hB hl hv) h
def Pv{c:Code}(L:UQ)(W:List (Nat×Nat))(J:List (Nat×AV))(h0:(L.any fun i=>(H.get i).isSome)=true)(hB:H.B.all (im fun i=>L.contains i)=true)(hl:iO (fun i=>L.contains i) H.l)(hv:bt (fun i=>L.contains i) H F (mO J (nE W F)))(h:dH P c Q (mO J (nE W F)) ⟨H.B,fB (fun i=>L.contains i) H.l⟩):dH P c Q F H:=jW (dT.free _ hB hl hv) h
end
def jQ{H':Hp}(e:H=H':=by first|(simp only[go_sem];done)|(simp only[go_sem];rfl)|rfl|fail):H=H':=e
def cr{F':UM}(e:lc F F':=by(simp only[go_sem,lc,Nat.reduceAdd,AV.raw.injEq,Value.int.injEq,Value.slice.injEq,Value.pointer.injEq,AV.rs.injEq];try omega)):lc F F':=e
def jo{D:UX}{l m:UM}(e:bt D H l m:=by(simp only[go_sem,↓reduceIte,Int.reduceEq,Int.reduceLE,Int.reduceLT,Int.reduceNe,Int.reduceToNat,Nat.reduceMul,Nat.reduceAdd,Nat.reduceLeDiff,Nat.reduceSub,Nat.reduceEqDiff,Nat.reduceBEq,List.nodup_cons,List.nodup_nil,List.mem_cons,List.not_mem_nil,List.mem_nil_iff];repeat' (first|exact jI|exact Ua _|exact cY.nil _ _|exact cY.lit _ _ _ _ _|exact cY.same _ rfl|(exact cY.same _ (by exact vN))|(exact cY.row _ (by first|rfl|(exact vN)) (by first|(exact vN)|rfl|(exact uo)) (by first|rfl|(simp only[go_sem];done)|omega))|refine jA ?_ ?_|fail))):bt D H l m:=e
def Ip{l:List Oper}{b:Bool}(L:UQ)(W:List (Nat×Nat))(J:List (Nat×AV))(h:q)(h0:(L.any fun i=>(H.get i).isSome)=true:=by rfl)(hB:H.B.all (im fun i=>L.contains i)=true:=by exact dD)(hl:iO (fun i=>L.contains i) H.l:=by exact dD)
 (hv:bt (fun i=>L.contains i) H F (mO J (nE W F)):=by exact jo) (e:dH P (.region id l.toArray b) Q (mO J (nE W F)) ⟨H.B,fB (fun i=>L.contains i) H.l⟩=q:=by exact fm):dH P (.region id l.toArray b) Q F H:=Pv L W J h0 hB hl hv (e ▸ h)
def bF{f:FuncId}{fn:Func}{c:Code}{args:UM}{r:AV}{k:Nat}(hf:P.funcs[f]?=some fn)(hn:fn.ntmps=k)(h:dH P c (lu P fn fun r' l'=>r'=r/\l'=[]) F ⟨[],[]⟩)(hb:fn.body=some c:=by rfl)
 (hF:args++List.replicate (k-args.length) .any=F:=by(simp only[List.length_cons,List.length_nil,Nat.reduceAdd,Nat.reduceSub,List.replicate,List.cons_append,List.nil_append];rfl)):aB P f args r:=Ph hf hb (by rw[hn];exact hF) h
def aO{f:FuncId}{fn:Func}{c:Code}{args:UM}{l:UL}{R:AV->List U0->Prop}{k:Nat}(hf:P.funcs[f]?=some fn)(hn:fn.ntmps=k)(h:dH P c (lu P fn R) F ⟨L,l⟩)(hb:fn.body=some c:=by rfl)(hL:ids l=L:=by rfl)
 (hF:args++List.replicate (k-args.length) .any=F:=by(simp only[List.length_cons,List.length_nil,Nat.reduceAdd,Nat.reduceSub,List.replicate,List.cons_append,List.nil_append];rfl)):ab P f args l R:=MW hf hb (by rw[hn];exact hF) hL h
section
variable {P:UY}{fn:Func}{F:UM}{H:Hp}{out:UM}{e:Exit}{r:AV}{l:UL}
def bY(rs:List ResultVar)(h1:kI out=r)(h2:H.l=l)(Xs:fn.results.toList=rs:=by rfl)(he:e=.normal\/e=.ret:=by first|exact Or.inr rfl|exact Or.inl rfl|fail)(ho:jK P H F rs=some out:=by(exact uo))(hok:kN P H F rs:=by exact vN) :
  lu P fn (fun r' l'=>r'=r/\l'=l) e F H:=RO rs Xs he ho hok h1 h2
def aW(rs:List ResultVar)(hv:kI out=r)(Xs:fn.results.toList=rs:=by rfl)(he:e=.normal\/e=.ret:=by first|exact Or.inr rfl|exact Or.inl rfl|fail)(ho:jK P H F rs=some out:=by(exact uo))(hok:kN P H F rs:=by exact vN)(hl:iO (mX H.B) H.l:=by exact dD)
 (hq:(kI out).all (im (mX H.B))=true:=by exact dD) (h2:fB (mX H.B) H.l=l:=by first|rfl|(exact dD)|(exact uo)|fail):lu P fn (fun r' l'=>r'=r/\l'=l) e F H:=E4 rs Xs he ho hok hl (Ar hv hq) h2
def fH(rs:List ResultVar)(hv:cY (mX H.B) H (kI out) r)(Xs:fn.results.toList=rs:=by rfl)(he:e=.normal\/e=.ret:=by first|exact Or.inr rfl|exact Or.inl rfl|fail)(ho:jK P H F rs=some out:=by(exact uo))(hok:kN P H F rs:=by exact vN)(hl:iO (mX H.B) H.l:=by exact dD)
 (h2:fB (mX H.B) H.l=l:=by first|rfl|(exact dD)|(exact uo)|fail):lu P fn (fun r' l'=>r'=r/\l'=l) e F H:=E4 rs Xs he ho hok hl hv h2
end
@[go_sem] def j0I(enc:α->UM)(l:List α)(k:Nat)(x:α):(l.map enc).set k (enc x)=(l.set k x).map enc:=List.map_set.symm
attribute [go_sem] List.length_set
def eI(x:Int):UM:=[.raw (.int .i64 x)]
instance:bK eI 1:=⟨fun _=>rfl,fun _=>rfl,fun _=>rfl⟩
@[go_sem] def qbt:(∀(x:Int),(eI x).length=1)/\(∀(x:Int),(eI x).getD 0 .any=.raw (.int .i64 x))/\(∀(x:Int),(eI x).drop 1=[]):=by and_intros<;>(intros;rfl)
@[go_sem] def qbu(l:UP)(k:Nat)(x:Int):(l.map eI).set k [.raw (.int .i64 x)]=(l.set k x).map eI:=(List.map_set (f:=eI)).symm
def eS(x:UR):UM:=[.raw (.string x)]
instance:bK eS 1:=⟨fun _=>rfl,fun _=>rfl,fun _=>rfl⟩
@[go_sem] def qbv:(∀(x:UR),(eS x).length=1)/\(∀(x:UR),(eS x).getD 0 .any=.raw (.string x)):=by and_intros<;>(intros;rfl)
def eB(x:Bool):UM:=[.raw (.bool x)]
instance:bK eB 1:=⟨fun _=>rfl,fun _=>rfl,fun _=>rfl⟩
def eU(x:Int):UM:=[.raw (.int .u8 x)]
instance:bK eU 1:=⟨fun _=>rfl,fun _=>rfl,fun _=>rfl⟩
def ta(x:UP):UM:=[aM eI 1 x]
instance:bK ta 1:=⟨fun _=>rfl,fun _=>rfl,fun _=>rfl⟩
structure cB where
 kind:Int
 text:ByteArray
 at_:Int
 deriving Inhabited,DecidableEq
def mB(x:cB):UM:=[.raw (.int .i64 x.kind),.raw (.string x.text),.raw (.int .i64 x.at_)]
section
variable (x y:cB)
@[go_sem] def jzV:((mB x).length=3)/\((mB x).all AV.one=true):=by and_intros<;>(intros;rfl)
@[go_sem] def MZ(q:UX):aZ q (mB x)=true:=by simp[mB,aZ,AV.all]
instance:bK mB 3:=⟨fun _=>rfl,fun _=>rfl,fun x=>MZ x _⟩
@[go_sem] def jx3:((mB x).take 3=mB x)/\((mB x).getD 0 .any=.raw (.int .i64 x.kind))/\((mB x).getD 1 .any=.raw (.string x.text))/\((mB x).getD 2 .any=.raw (.int .i64 x.at_)):=by and_intros<;>(intros;rfl)
end
structure bq where
 kind:Int
 cV:Int
 n:Int
 name:ByteArray
 l:List Int
 deriving Inhabited,DecidableEq
def eN(x:bq):UM:=[.raw (.int .i64 x.kind),.raw (.int .i64 x.cV),.raw (.int .i64 x.n),.raw (.string x.name),aM eI 1 x.l]
section
variable (x y:bq)
@[go_sem] def j15:((eN x).length=5)/\((eN x).all AV.one=true):=by and_intros<;>(intros;rfl)
@[go_sem] def NK(q:UX):aZ q (eN x)=true:=by simp[eN,aZ,AV.all]
instance:bK eN 5:=⟨fun _=>rfl,fun _=>rfl,fun x=>NK x _⟩
@[go_sem] def jzQ:((eN x).take 5=eN x)/\((eN x).getD 0 .any=.raw (.int .i64 x.kind))/\((eN x).getD 1 .any=.raw (.int .i64 x.cV))/\((eN x).getD 2 .any=.raw (.int .i64 x.n))/\((eN x).getD 3 .any=.raw (.string x.name))/\((eN x).getD 4 .any=aM eI 1 x.l):=by and_intros<;>(intros;rfl)
end
structure aj where
 ty:Int
 n:Int
 s:ByteArray
 deriving Inhabited,DecidableEq
def bW(x:aj):UM:=[.raw (.int .i64 x.ty),.raw (.int .i64 x.n),.raw (.string x.s)]
section
variable (x y:aj)
@[go_sem] def jzY:((bW x).length=3)/\((bW x).all AV.one=true):=by and_intros<;>(intros;rfl)
@[go_sem] def Ot(q:UX):aZ q (bW x)=true:=by simp[bW,aZ,AV.all]
instance:bK bW 3:=⟨fun _=>rfl,fun _=>rfl,fun x=>Ot x _⟩
@[go_sem] def jx5:((bW x).take 3=bW x)/\((bW x).getD 0 .any=.raw (.int .i64 x.ty))/\((bW x).getD 1 .any=.raw (.int .i64 x.n))/\(∀(v:Int),List.take 1 (bW x)++[.raw (.int .i64 v)]++List.drop 2 (bW x)=bW { x with n:=v })/\((bW x).getD 2 .any=.raw (.string x.s)):=by and_intros<;>(intros;rfl)
end
structure bM where
 name:ByteArray
 ty:Int
 deriving Inhabited,DecidableEq
def mM(x:bM):UM:=[.raw (.string x.name),.raw (.int .i64 x.ty)]
section
variable (x y:bM)
@[go_sem] def jzR:((mM x).length=2)/\((mM x).all AV.one=true):=by and_intros<;>(intros;rfl)
@[go_sem] def QW(q:UX):aZ q (mM x)=true:=by simp[mM,aZ,AV.all]
instance:bK mM 2:=⟨fun _=>rfl,fun _=>rfl,fun x=>QW x _⟩
@[go_sem] def jx1:((mM x).take 2=mM x)/\((mM x).getD 0 .any=.raw (.string x.name))/\((mM x).getD 1 .any=.raw (.int .i64 x.ty)):=by and_intros<;>(intros;rfl)
end
structure bj where
 name:ByteArray
 cV:Int
 params:List bM
 ret:Int
 body:Int
 deriving Inhabited,DecidableEq
def fY(x:bj):UM:=[.raw (.string x.name),.raw (.int .i64 x.cV),aM mM 2 x.params,.raw (.int .i64 x.ret),.raw (.int .i64 x.body)]
section
variable (x y:bj)
@[go_sem] def j1Z:((fY x).length=5)/\((fY x).all AV.one=true):=by and_intros<;>(intros;rfl)
@[go_sem] def Pd(q:UX):aZ q (fY x)=true:=by simp[fY,aZ,AV.all]
instance:bK fY 5:=⟨fun _=>rfl,fun _=>rfl,fun x=>Pd x _⟩
@[go_sem] def jzM:((fY x).take 5=fY x)/\((fY x).getD 0 .any=.raw (.string x.name))/\((fY x).getD 2 .any=aM mM 2 x.params)/\((fY x).getD 3 .any=.raw (.int .i64 x.ret))/\((fY x).getD 4 .any=.raw (.int .i64 x.body)):=by and_intros<;>(intros;rfl)
end
structure aH where
 nodes:List bq
 aw:List bj
 deriving Inhabited,DecidableEq
def lS(x:aH):UM:=[aM eN 5 x.nodes,aM fY 5 x.aw]
section
variable (x y:aH)
@[go_sem] def j2g:((lS x).length=2)/\((lS x).all AV.one=true):=by and_intros<;>(intros;rfl)
@[go_sem] def TB(q:UX):aZ q (lS x)=true:=by simp[lS,aZ,AV.all]
instance:bK lS 2:=⟨fun _=>rfl,fun _=>rfl,fun x=>TB x _⟩
@[go_sem] def jzX:((lS x).take 2=lS x)/\((lS x).getD 0 .any=aM eN 5 x.nodes)/\((lS x).getD 1 .any=aM fY 5 x.aw):=by and_intros<;>(intros;rfl)
end
structure bI where
 name:ByteArray
 ty:Int
 slot:Int
 deriving Inhabited,DecidableEq
def lg(x:bI):UM:=[.raw (.string x.name),.raw (.int .i64 x.ty),.raw (.int .i64 x.slot)]
section
variable (x y:bI)
@[go_sem] def j3V:((lg x).length=3)/\((lg x).all AV.one=true):=by and_intros<;>(intros;rfl)
@[go_sem] def Qg(q:UX):aZ q (lg x)=true:=by simp[lg,aZ,AV.all]
instance:bK lg 3:=⟨fun _=>rfl,fun _=>rfl,fun x=>Qg x _⟩
@[go_sem] def j2m:((lg x).take 3=lg x)/\((lg x).getD 0 .any=.raw (.string x.name))/\((lg x).getD 1 .any=.raw (.int .i64 x.ty))/\((lg x).getD 2 .any=.raw (.int .i64 x.slot)):=by and_intros<;>(intros;rfl)
end
structure af where
 aa:aH
 types:List Int
 slots:List Int
 fn:List Int
 size:List Int
 deriving Inhabited,DecidableEq
def cf(x:af):UM:=[aM eN 5 x.aa.nodes,aM fY 5 x.aa.aw,aM eI 1 x.types,aM eI 1 x.slots,aM eI 1 x.fn,aM eI 1 x.size]
section
variable (x y:af)
@[go_sem] def j19:((cf x).length=6)/\((cf x).all AV.one=true):=by and_intros<;>(intros;rfl)
@[go_sem] def Th(q:UX):aZ q (cf x)=true:=by simp[cf,aZ,AV.all]
instance:bK cf 6:=⟨fun _=>rfl,fun _=>rfl,fun x=>Th x _⟩
@[go_sem] def jzT:((cf x).take 6=cf x)/\((cf x).getD 0 .any=aM eN 5 x.aa.nodes)/\((cf x).getD 1 .any=aM fY 5 x.aa.aw)/\((cf x).getD 2 .any=aM eI 1 x.types)/\((cf x).getD 3 .any=aM eI 1 x.slots)/\((cf x).getD 4 .any=aM eI 1 x.fn):=by and_intros<;>(intros;rfl)
end
structure mh where
 fn:Int
 node:Int
 slots:List aj
 deriving Inhabited,DecidableEq
def rp(x:mh):UM:=[.raw (.int .i64 x.fn),.raw (.int .i64 x.node),aM bW 3 x.slots]
section
variable (x y:mh)
@[go_sem] def j2b:(rp x).length=3:=(rfl)
@[go_sem] def Tz(q:UX):aZ q (rp x)=true:=by simp[rp,aZ,AV.all]
instance:bK rp 3:=⟨fun _=>rfl,fun _=>rfl,fun x=>Tz x _⟩
@[go_sem] def j3S:(rp x).getD 1 .any=.raw (.int .i64 x.node):=(rfl)
end
structure k6 where
 calls:List mh
 heap:List (List Int)
 in_:Int
 bC:List ByteArray
 status:Int
 dn:Int
 time:Int
 deriving Inhabited,DecidableEq
def lQ(x:k6):UM:=[aM rp 3 x.calls,aM ta 1 x.heap,.raw (.int .i64 x.in_),aM eS 1 x.bC,.raw (.int .i64 x.status),.raw (.int .i64 x.dn),.raw (.int .i64 x.time)]
section
variable (x y:k6)
@[go_sem] def j2a:((lQ x).length=7)/\((lQ x).all AV.one=true):=by and_intros<;>(intros;rfl)
@[go_sem] def KO(q:UX):aZ q (lQ x)=true:=by simp[lQ,aZ,AV.all]
instance:bK lQ 7:=⟨fun _=>rfl,fun _=>rfl,fun x=>KO x _⟩
@[go_sem] def j3O:((lQ x).getD 0 .any=aM rp 3 x.calls)/\((lQ x).getD 2 .any=.raw (.int .i64 x.in_))/\((lQ x).getD 4 .any=.raw (.int .i64 x.status))/\((lQ x).getD 6 .any=.raw (.int .i64 x.time)):=by and_intros<;>(intros;rfl)
end
structure ay where
 op:Int
 a:Int
 b:Int
 s:ByteArray
 deriving Inhabited,DecidableEq
def du(x:ay):UM:=[.raw (.int .i64 x.op),.raw (.int .i64 x.a),.raw (.int .i64 x.b),.raw (.string x.s)]
section
variable (x y:ay)
@[go_sem] def jzN:((du x).length=4)/\((du x).all AV.one=true):=by and_intros<;>(intros;rfl)
@[go_sem] def L7(q:UX):aZ q (du x)=true:=by simp[du,aZ,AV.all]
instance:bK du 4:=⟨fun _=>rfl,fun _=>rfl,fun x=>L7 x _⟩
@[go_sem] def jxZ:((du x).take 4=du x)/\((du x).getD 0 .any=.raw (.int .i64 x.op))/\((du x).getD 1 .any=.raw (.int .i64 x.a))/\(∀(v:Int),List.take 1 (du x)++[.raw (.int .i64 v)]++List.drop 2 (du x)=du { x with a:=v })/\((du x).getD 2 .any=.raw (.int .i64 x.b))/\((du x).getD 3 .any=.raw (.string x.s)):=by and_intros<;>(intros;rfl)
end
structure aI where
 ins:List ay
 entry:List Int
 deriving Inhabited,DecidableEq
def xJ(x:aI):UM:=[aM du 4 x.ins,aM eI 1 x.entry]
section
variable (x y:aI)
@[go_sem] def PG(q:UX):aZ q (xJ x)=true:=by simp[xJ,aZ,AV.all]
instance:bK xJ 2:=⟨fun _=>rfl,fun _=>rfl,fun x=>PG x _⟩
end
structure az where
 at_:Int
 name:ByteArray
 v:aj
 deriving Inhabited,DecidableEq
def bv(x:az):UM:=[.raw (.int .i64 x.at_),.raw (.string x.name),.raw (.int .i64 x.v.ty),.raw (.int .i64 x.v.n),.raw (.string x.v.s)]
section
variable (x y:az)
@[go_sem] def j1Y:((bv x).length=5)/\((bv x).all AV.one=true):=by and_intros<;>(intros;rfl)
@[go_sem] def Fz(q:UX):aZ q (bv x)=true:=by simp[bv,aZ,AV.all]
instance:bK bv 5:=⟨fun _=>rfl,fun _=>rfl,fun x=>Fz x _⟩
@[go_sem] def jzK:((bv x).take 5=bv x)/\((bv x).getD 0 .any=.raw (.int .i64 x.at_))/\((bv x).getD 1 .any=.raw (.string x.name))/\((bv x).getD 2 .any=.raw (.int .i64 x.v.ty))/\(((bv x).drop 2).take 3=bW x.v)/\((bv x).map kz=[some (.int .i64),some .str,some (.int .i64),some (.int .i64),some .str]):=by and_intros<;>(intros;rfl)
@[go_sem] def j3t:jr (bv x) (bv y)=decide (x=y):=by rw[Bool.eq_iff_iff];obtain⟨a31,a32,⟨a33,a34,a35⟩⟩:=x;obtain⟨b36,b37,⟨b38,b39,b40⟩⟩:=y;simp[bv,jr]
end
structure ar where
 name:ByteArray
 aD:List Int
 base:List az
 own:List az
 deriving Inhabited,DecidableEq
def bu(x:ar):UM:=[.raw (.string x.name),aM eI 1 x.aD,aM bv 5 x.base,aM bv 5 x.own]
section
variable (x y:ar)
@[go_sem] def jxW:((bu x).length=4)/\((bu x).all AV.one=true):=by and_intros<;>(intros;rfl)
@[go_sem] def EH(q:UX):aZ q (bu x)=true:=by simp[bu,aZ,AV.all]
instance:bK bu 4:=⟨fun _=>rfl,fun _=>rfl,fun x=>EH x _⟩
@[go_sem] def jv3:((bu x).take 4=bu x)/\((bu x).getD 0 .any=.raw (.string x.name))/\(∀(v:UR),.raw (.string v)::List.drop 1 (bu x)=bu { x with name:=v })/\((bu x).getD 1 .any=aM eI 1 x.aD)/\((bu x).getD 2 .any=aM bv 5 x.base)/\((bu x).getD 3 .any=aM bv 5 x.own):=by and_intros<;>(intros;rfl)
end
structure aU where
 l:List ar
 cur:Int
 time:Int
 deriving Inhabited,DecidableEq
def cL(x:aU):UM:=[aM bu 4 x.l,.raw (.int .i64 x.cur),.raw (.int .i64 x.time)]
section
variable (x y:aU)
@[go_sem] def j2n:((cL x).length=3)/\((cL x).all AV.one=true):=by and_intros<;>(intros;rfl)
@[go_sem] def Qn(q:UX):aZ q (cL x)=true:=by simp[cL,aZ,AV.all]
instance:bK cL 3:=⟨fun _=>rfl,fun _=>rfl,fun x=>Qn x _⟩
@[go_sem] def jz0:((cL x).take 3=cL x)/\((cL x).getD 0 .any=aM bu 4 x.l)/\((cL x).getD 1 .any=.raw (.int .i64 x.cur))/\(∀(v:Int),List.take 1 (cL x)++[.raw (.int .i64 v)]++List.drop 2 (cL x)=cL { x with cur:=v })/\((cL x).getD 2 .any=.raw (.int .i64 x.time))/\(∀(v:Int),List.take 2 (cL x)++[.raw (.int .i64 v)]++List.drop 3 (cL x)=cL { x with time:=v }):=by and_intros<;>(intros;rfl)
end
structure ga where
 block:Int
 at_:Int
 deriving Inhabited,DecidableEq
def tZ(x:ga):UM:=[.raw (.int .i64 x.block),.raw (.int .i64 x.at_)]
section
variable (x y:ga)
@[go_sem] def PX(q:UX):aZ q (tZ x)=true:=by simp[tZ,aZ,AV.all]
instance:bK tZ 2:=⟨fun _=>rfl,fun _=>rfl,fun x=>PX x _⟩
end
structure fG where
 fn:Int
 slots:List aj
 path:List ga
 deriving Inhabited,DecidableEq
def zw(x:fG):UM:=[.raw (.int .i64 x.fn),aM bW 3 x.slots,aM tZ 2 x.path]
section
variable (x y:fG)
@[go_sem] def RC(q:UX):aZ q (zw x)=true:=by simp[zw,aZ,AV.all]
instance:bK zw 3:=⟨fun _=>rfl,fun _=>rfl,fun x=>RC x _⟩
end
structure gF where
 kq:List fG
 heap:List (List Int)
 in_:Int
 bC:List ByteArray
 status:Int
 dn:Int
 time:Int
 deriving Inhabited,DecidableEq
def BC(x:gF):UM:=[aM zw 3 x.kq,aM ta 1 x.heap,.raw (.int .i64 x.in_),aM eS 1 x.bC,.raw (.int .i64 x.status),.raw (.int .i64 x.dn),.raw (.int .i64 x.time)]
section
variable (x y:gF)
@[go_sem] def Oz(q:UX):aZ q (BC x)=true:=by simp[BC,aZ,AV.all]
instance:bK BC 7:=⟨fun _=>rfl,fun _=>rfl,fun x=>Oz x _⟩
end
end Go.Gd