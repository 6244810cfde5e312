/- Lemmas. No conditions. -/
import Derived.Test.YtghoellpinmenaaGreatDoorGdL
set_option linter.all false
namespace Go.Gd
open Go
section
variable {P:PS}{ops:Array Oper}{H:Hp}
variable{ty:PM}{K:PE}
def uK{ev ev':PN}(o:Op)(h:∀x∈o.operands.toList,ev x=ev' x):vc P ev H ty K o=vc P ev' H ty K o:=by
 have quiet:((vq P ev H o).1/\K (vq P ev H o).2 H)=((vq P ev' H o).1/\K (vq P ev' H o).2 H):=by rw[tf o h]
 have other:iV P o ty ev H K=iV P o ty ev' H K:=by
  unfold iV;apply propext;constructor<;>intro hh w ρ dst pos after guard h1 h2
  ·exact hh w ρ dst pos after guard h1 fun x hx=>by rw[h x hx];exact h2 x hx
  ·exact hh w ρ dst pos after guard h1 fun x hx=>by rw[<-h x hx];exact h2 x hx
 cases o
 case box t x=>simp only[vc];rw[h x (by simp[Op.operands])]
 case store t a x=>simp only[vc];rw[h x (by simp[Op.operands]),h a (by simp[Op.operands])]
 case buildSlice t n ps=> simp only[Op.operands]at h;simp only[vc];rw[List.map_congr_left (g:=fun p=>(p.1,ev' p.2)) (fun x hx=>by rw[h x.2 (by simp at hx ⊢;exact⟨_,hx⟩)])]
 case binOp op t x y t'=>
  cases op<;>first
   |(simp only[vc];rw[h x (by simp[Op.operands]),h y (by simp[Op.operands])];done)
   |exact quiet
 case call c=>
  obtain⟨callee,args,ts⟩:=c;cases callee
  case value f=> simp only[Op.operands,Call.operands]at h;simp only[vc];rw[h f jE,List.map_congr_left (fun x hx=>h x (by simp at hx ⊢;exact .inr hx))]
  case invoke f m=> simp only[Op.operands,Call.operands]at h;simp only[vc];rw[h f jE,List.map_congr_left (fun x hx=>h x (by simp at hx ⊢;exact .inr hx))]
  case builtin b=>
   have hm:args.toList.map ev=args.toList.map ev':=List.map_congr_left fun x hx=>h x (by simpa[Op.operands,Call.operands]using hx)
   cases b
   case append=>
    simp only[vc];split
    ·rename_i t t' a x ht ha;rw[h a (by simp[Op.operands,Call.operands];rw[<-Array.mem_toList_iff,ha];simp),h x (by simp[Op.operands,Call.operands];rw[<-Array.mem_toList_iff,ha];simp)]
    ·rfl
   case len=>exact quiet
   case cap=>exact quiet
   case max=>exact quiet
   case min=>exact quiet
   all_goals(simp only[vc,cW,Bool.false_eq_true,if_false];rw[hm])
  all_goals exact other
 all_goals first
  |rfl
  |exact quiet
  |exact other
variable{t:PM}{K':PE}
def C9{n:Nat}{parts:List (Nat×AV)}(h:mG P H t n parts K)(hk:∀r H,K r H->K' r H):mG P H t n parts K':=by
 unfold mG at*;split at h
 ·rename_i e he;split at h
  ·refine⟨h.1,?_⟩;rcases h.2 with h2|⟨h2,i,h3,h4⟩
   ·exact .inl ⟨h2.1,hk _ _ h2.2⟩
   ·exact .inr ⟨h2,i,h3,hk _ _ h4⟩
  ·exact h.elim
 ·exact h.elim
def DB{ev:PN}(o:Op)(hk:∀r H',K r H'->K' r H')(h:vc P ev H ty K o):vc P ev H ty K' o:=by
 have quiet:((vq P ev H o).1/\K (vq P ev H o).2 H)->((vq P ev H o).1/\K' (vq P ev H o).2 H):=fun h=>⟨h.1,hk _ _ h.2⟩
 have other:iV P o ty ev H K->iV P o ty ev H K':=fun hh w ρ dst pos after guard h1 h2=>by obtain⟨w',H',r,g1,g2⟩:=hh w ρ dst pos after guard h1 h2;exact⟨w',H',r,hk _ _ g1,g2⟩
 cases o
 case box t x=>obtain⟨h1,i,h2,h3⟩:=h;exact⟨h1,i,h2,hk _ _ h3⟩
 case alloc t=>
  simp only[vc,nb]at h ⊢;split at h
  ·obtain⟨i,h2,h3⟩:=h;exact⟨i,h2,hk _ _ h3⟩
  ·exact h.elim
 case store t a x=>
  simp only[vc,ua]at h ⊢;split at h
  ·split at h
   ·exact⟨h.1,hk _ _ h.2⟩
   ·exact h.elim
  ·exact h.elim
 case buildSlice t n ps=>exact C9 h hk
 case binOp op t x y t'=>
  have nileq:∀ne,pk P ne t (ev x) (ev y) H K->pk P ne t (ev x) (ev y) H K':=fun ne h=>by
   unfold pk at h ⊢;split at h
   ·exact⟨h.1,fun b hb=>hk _ _ (h.2 b hb)⟩
   ·exact⟨h.1,fun b hb=>hk _ _ (h.2 b hb)⟩
   ·rename_i Qb;exact⟨h.1,hk _ _ h.2⟩
  cases op<;>first
   |exact nileq false h
   |exact nileq true h
   |exact quiet h
 case call c=>
  obtain⟨callee,args,ts⟩:=c;cases callee
  case value f=>exact xS h hk
  case invoke f m=>
   simp only[vc,vF]at h ⊢;split at h
   ·split at h
    ·exact xS h hk
    ·exact h.elim
   ·exact h.elim
  case builtin b=>
   have bvc:qV P b ts.toList (args.toList.map ev) H K->qV P b ts.toList (args.toList.map ev) H K':=fun hh w vs ty cs h1 h2=>by obtain⟨w',H',r,v,g1,g2,g3⟩:=hh w vs ty cs h1 h2;exact⟨w',H',r,v,g1,hk _ _ g2,g3⟩
   cases b
   case append=>
    simp only[vc]at h ⊢;split at h
    ·intro w va vx ty h1 h2 h3;obtain⟨w',H',r,v,g1,g2,g3⟩:=h w va vx ty h1 h2 h3;exact⟨w',H',r,v,g1,hk _ _ g2,g3⟩
    ·exact h.elim
   case len=>exact quiet h
   case cap=>exact quiet h
   case max=>exact quiet h
   case min=>exact quiet h
   all_goals exact bvc h
  all_goals exact other h
 all_goals first
  |exact quiet h
  |exact other h
-- what is quiet, what is an effect
def pq:Op->Bool
 |.buildSlice ..=>true
 |_=>false
abbrev AS:=PK×PK×PK
def sG(A:AS)(o:Oper):Bool:=match o.dst with
 |some t=>A.2.1.contains t
 |none=>false
def n6(A:AS)(o:Oper):Bool:=match o.dst with
 |some t=>A.2.2.contains t
 |none=>false
def pd(A:AS)(o:Oper):Bool:=o.guard.isSome && n6 A o && ku o.op
def mc(A:AS)(o:Oper):Bool:=(o.guard.isNone && !cW o.op && !nK o.op && !(pq o.op && !n6 A o) && !sG A o) || pd A o
def Bh(P:PS)(ev:PN)(H:Hp)(K:AV->Prop):Op->Prop
 |.call { callee:=.value f,args,.. }=>∃r,(fh P (ev f) (args.toList.map ev) H fun r' H'=>r'=r/\H'=H)/\K r
 |.lookup t m k c=>∃r,iV P (.lookup t m k c) 0 ev H (fun r' H'=>r'=r/\H'=H)/\K r
 |_=>False
def nR(o:Oper):Bool:=match o.op with
 |.load ..=>true
 |.lookup ..=>true
 |.call { callee:=.value _,.. }=>true
 |.call { callee:=.invoke ..,.. }=>true
 |.call { callee:=.builtin .len,argTypes,.. }=>jo.contains (argTypes.toList.headD 0)
 |_=>false
def mq(A:AS)(o:Oper):Bool:=match o.op with
 |.alloc _=>true
 |.box ..=>true
 |.store ..=>!A.1.isEmpty && !A.2.2.contains 1000000
 |.call { callee:=.value _,.. }=>n6 A o
 |.call { callee:=.builtin .append,.. }=>n6 A o
 |.buildSlice ..=>n6 A o
 |.makeSlice ..=>n6 A o
 |_=>false
def nY(o:Oper):Bool:=match o.op with
 |.load ..=>o.guard.isNone
 |_=>false
def df(A:AS)(H H':Hp):Prop:=∀i r,A.1.contains i=false->H.get i=some r->H'.get i=some r\/(A.1.contains (i+16)=true/\∃t c c' cs,r=.var t (c::cs)/\H'.get i=some (.var t (c'::cs)))
def df.refl(A:AS)(H:Hp):df A H H:=fun _ _ _ h=>.inl h
def df.trans{L:AS}{A B C:Hp}(h:df L A B)(k:df L B C):df L A C:=fun i r ha e=>by
 rcases h i r ha e with h1|⟨h0,t,c,c',cs,rfl,h1⟩
 ·exact k i r ha h1
 ·rcases k i _ ha h1 with k1|⟨_,t',d,d',ds,e',k1⟩
  ·exact .inr ⟨h0,t,c,c',cs,rfl,k1⟩
  ·cases e';exact .inr ⟨h0,t,c,d',cs,rfl,k1⟩
theorem df.put{A:AS}{H:Hp}{i:Nat}{r:Row}(h:H.get i=none):df A H (H.put i r):=fun j s _ hj=>by
 left
 rw[Hp.aW,if_neg (by rintro rfl;rw[h]at hj;cases hj)];exact hj
variable{A:AS}{i:Nat}
def df.set{H:Hp}{r:Row}(h:A.1.contains i=true):df A H (H.put i r):=fun j s ha hj=>by
 left
 rw[Hp.aW,if_neg (by rintro rfl;rw[h]at ha;cases ha)];exact hj
def rj(A:AS):AV->Bool
 |.pt i _ _ j=>!A.1.contains i && (decide (1<=j) || !A.1.contains (i+16))
 |_=>true
def BI(A:AS):AV->Bool
 |.pt i _ _ _=>A.1.contains i
 |_=>false
def iJ(A:AS)(ev:PN):Op->Bool
 |.load _ x=>rj A (ev x)
 |.store _ a _=>(A.1.isEmpty || A.2.2.contains 1000000) || BI A (ev a)
 |_=>true
variable{H':Hp}
def Nk{H:Hp}(h:df A H H'){a:AV}(ha:rj A a=true){x:Prop×PH}(hc:pi H a=some x):pi H' a=some x:=by
 unfold pi at*;split at hc
 ·exact hc
 ·rename_i i m k j;have ha:A.1.contains i=false/\(1<=j\/A.1.contains (i+16)=false):=by
   simp only[rj,Bool.and_eq_true,Bool.or_eq_true,Bool.not_eq_true',decide_eq_true_eq]at ha;exact ha
  cases e:H.get i with
  |none=>rw[e]at hc;cases hc
  |some r=>
   rw[e]at hc;rcases h i r ha.1 e with h1|⟨h0,t,c,c',cs,rfl,h1⟩
   ·simp only[h1];exact hc
   ·rcases ha.2 with h2|h2
    ·obtain⟨j',rfl⟩:∃j',j=j'+1:=⟨j-1,jB⟩;simp only[h1,List.drop_succ_cons]at hc ⊢;exact hc
    ·rw[h0]at h2;cases h2
 ·cases hc
def My{H:Hp}(h:df A H H'){a:AV}(ha:rj A a=true)(hq:(oh P H t a).1):oh P H' t a=oh P H t a:=by
 unfold oh at*;cases e:pi H a with
 |none=>rw[e]at hq;exact hq.elim
 |some x=>rw[Nk h ha e]
def fU(P:PS)(ev:PN)(H:Hp)(ty:PM)(K:PE)(op:Op):Prop:=if nK op then(vq P ev H op).1/\K (vq P ev H op).2 H else match op with
 |.buildSlice t n parts=>oA P t n (parts.toList.map fun p=>(p.1,ev p.2)) fun r=>K r H
 |op=>vc P ev H ty K op
def Jw{ev:PN}(t:PM)(n:Nat)(parts:Array (Nat×Operand)):fU P ev H ty K (.buildSlice t n parts)=oA P t n (parts.toList.map fun p=>(p.1,ev p.2)) fun r=>K r H:=rfl
def EI{ev:PN}{op:Op}(h1:¬nK op=true)(h2:¬pq op=true):fU P ev H ty K op=vc P ev H ty K op:=by unfold fU;rw[if_neg h1];cases op<;>first|rfl|(exact(h2 rfl).elim)
def se(P:PS)(A:AS)(ev:PN)(H:Hp)(K:PE):Op->Prop
 |.call { callee:=.value f,args,.. }=>fh P (ev f) (args.toList.map ev) H fun r H'=>df A H H'/\K r H'
 |.buildSlice t n parts=>mG P H t n (parts.toList.map fun p=>(p.1,ev p.2)) fun r H'=>df A H H'/\K r H'
 |.makeSlice t l c=>iV P (.makeSlice t l c) 0 ev H fun r H'=>df A H H'/\K r H'
 |.call { callee:=.builtin .append,args,argTypes }=>vc P ev H 0 (fun r H'=>df A H H'/\K r H') (.call ⟨.builtin .append,args,argTypes⟩)
 |_=>False
def fV(A:AS)(P:PS)(ops:Array Oper)(K:PD):List Oper->PD
 |[],F,H=>K F H
 |o::rest,F,H=>match o.guard with
  |none=>if sG A o=true then Bh P (bV F) H (fun r=>fV A P ops K rest (cn F o.dst r) H) o.op else if n6 A o=true then se P A (bV F) H (fun r H'=>fV A P ops K rest (cn F o.dst r) H') o.op else iJ A (bV F) o.op=true/\fU P (bV F) H o.type (fun r H'=>fV A P ops K rest (cn F o.dst r) H') o.op
  |some (j,want)=>match lW ops F j want with
   |some b=>if pd A o=true then(b=true->gr F o.op=true/\se P A (bF F) H (fun r H'=>fV A P ops K rest (cn F o.dst r) H') o.op)/\(b=false->fV A P ops K rest (cn F o.dst (.gd false (.raw (.bool false)))) H)
    else(ku o.op || ij o.op)=true/\eF P F H b (fun r=>fV A P ops K rest (cn F o.dst r) H) o.op
   |none=>False
def Pv(ts:List PM)(args:PH)(h:jo.contains (ts.headD 0)=false):l9 P H .len ts args=l9 P H' .len ts args:=by
 unfold l9;cases ts with
 |nil=>rfl
 |cons t ts=>
  cases args with
  |nil=>rfl
  |cons x l=>
   show sX P H t x=sX P H' t x;unfold sX;have h:jo.contains t=false:=h;have hn:¬(jo.contains t=true):=by rw[h];exact Bool.false_ne_true
   cases x with
   |raw v=>cases v<;>rfl
   |mr i=> show(if jo.contains t=true then _ else gI)=(if jo.contains t=true then _ else gI);rw[if_neg hn,if_neg hn]
   |_=>rfl
variable{o:Oper}
def vh{ev:PN}(h:nR o=false):vq P ev H o.op=vq P ev H' o.op:=by
 obtain⟨dst,op,ty,pos,after,guard⟩:=o;cases op<;>first
  |rfl
  |(simp[nR]at h;done)
  |skip
 rename_i c;obtain⟨callee,args,ts⟩:=c;cases callee
 case builtin b=>
  cases b
  case len=>exact Pv _ _ h
  all_goals(simp only[vq];unfold l9;generalize ts.toList=a;generalize args.toList.map ev=b;cases a<;>cases b<;>rfl)
 all_goals rfl
variable{F:PH}
def Hv{g:Bool}{K:AV->Prop}(h:nR o=false):eF P F H g K o.op=eF P F H' g K o.op:=by
 have hc:ku o.op=false:=by
  obtain⟨dst,op,ty,pos,after,guard⟩:=o;cases op<;>first
   |rfl
   |(rename_i c;obtain⟨callee,args,ts⟩:=c;cases callee<;>first|rfl|simp[nR]at h)
 by_cases hp:vO o.op=true
 ·obtain⟨dst,op,ty,pos,after,guard⟩:=o;cases op<;>first|(cases hp;done)|rfl|(rename_i c;obtain⟨callee,args,ts⟩:=c;cases callee<;>first|(cases hp;done)|simp[nR]at h)
 have hp:vO o.op=false:=by simpa using hp
 rw[xU _ hc hp,xU _ hc hp,vh h]
def J2{ev:PN}{o:Op}(h:cW o=true):vc P ev H ty K o=((vq P ev H o).1/\K (vq P ev H o).2 H):=by
 cases o
 case binOp op t x y t'=>cases op<;>first|(simp[cW]at h;done)|simp[vc,cW]
 case call c=>
  obtain⟨callee,args,ts⟩:=c;cases callee
  case builtin b=>cases b<;>first|(simp[cW]at h;done)|simp[vc,cW]
  all_goals(simp[cW]at h;done)
 all_goals first
  |(simp[cW]at h;done)
  |simp[vc,cW]
def EQ{K:PD}{rest:List Oper}(h:fV A P ops K (o::rest) F H) :
  (mc A o=true/\∀G,wk ops o F G->l5 P ops o G H fun G' H'=>(mq A o=true->df A H H')/\∃r,G'=cn G o.dst r/\fV A P ops K rest (cn F o.dst r) H')\/
  (mc A o=false/\∃r,QV P ops o F H r/\(nR o=false->∀H',QV P ops o F H' r)/\(nY o=true->∀H',df A H H'->QV P ops o F H' r)/\fV A P ops K rest (cn F o.dst r) H):=by
 unfold fV at h;split at h
 ·rename_i hg;by_cases Sw:sG A o=true
  ·rw[if_pos Sw]at h;refine .inr ⟨by simp[mc,pd,hg,Sw],?_⟩;obtain⟨dst,op,ty,pos,after,guard⟩:=o;simp only at hg;subst hg;cases op<;>first|exact h.elim|skip
   case call=>
    rename_i c;obtain⟨callee,args,ts⟩:=c;cases callee<;>first|exact h.elim|skip
    obtain⟨r,h1,h2⟩:=h;exact⟨r,GD h1,fun hd=>by simp[nR]at hd,fun Ru=>by simp[nY]at Ru,h2⟩
   case lookup=>
    rename_i t m k c;obtain⟨r,h1,h2⟩:=h;refine⟨r,fun G hG=>?_,fun hd=>by simp[nR]at hd,fun Ru=>by simp[nY]at Ru,h2⟩;refine pD (K:=fun F' H'=>F'=cn G dst r/\H'=H) rfl ?_;rw[uK _ hG.1];have e:∀K:PE,vc P (bV F) H ty K (.lookup t m k c)=iV P (.lookup t m k c) ty (bV F) H K:=fun K=>by simp[vc,cW]
    show vc P (bV F) H ty _ (.lookup t m k c);rw[e];intro w ρ dst' pos' after' guard' g1 g2;obtain⟨w',H',r',hk,g⟩:=h1 w ρ dst' pos' after' guard' g1 g2;exact⟨w',H',r',⟨by rw[hk.1],hk.2⟩,g⟩
  rw[if_neg Sw]at h;by_cases Rp:n6 A o=true
  ·rw[if_pos Rp]at h;have Sw:sG A o=false:=by simpa using Sw
   obtain⟨dst,op,ty,pos,after,guard⟩:=o;simp only at hg;subst hg;cases op
   case call=>
    rename_i c _;obtain⟨callee,args,ts⟩:=c;cases callee
    case value f _=> refine .inl ⟨by simp[mc,cW,nK,pq,Sw],fun G hG=>?_⟩;refine pD rfl ?_;rw[uK _ hG.1];exact xS (f:=bV F f) (args:=args.toList.map (bV F)) h fun r H' hk=>⟨fun _=>hk.1,r,rfl,hk.2⟩
    case builtin bi _=>
     cases bi
     case append=> refine .inl ⟨by simp[mc,cW,nK,pq,Sw],fun G hG=>?_⟩;refine pD rfl ?_;rw[uK _ hG.1];exact DB (K:=fun r H'=>df A H H'/\fV A P ops K rest (cn F dst r) H') (.call ⟨.builtin .append,args,ts⟩) (fun r H' hk=>⟨fun _=>hk.1,r,rfl,hk.2⟩) h
     all_goals exact h.elim
    all_goals exact h.elim
   case buildSlice=> refine .inl ⟨by simp[mc,cW,nK,pq,Sw,Rp],fun G hG=>?_⟩;refine pD rfl ?_;rw[uK _ hG.1];exact C9 h fun r H' hk=>⟨fun _=>hk.1,r,rfl,hk.2⟩
   case makeSlice=>
    rename_i t l c _;refine .inl ⟨by simp[mc,cW,nK,pq,Sw],fun G hG=>?_⟩;refine pD rfl ?_;rw[uK _ hG.1];have e:∀K:PE,vc P (bV F) H ty K (.makeSlice t l c)=iV P (.makeSlice t l c) ty (bV F) H K:=fun K=>by simp[vc,cW]
    show vc P (bV F) H ty _ (.makeSlice t l c);rw[e];intro w ρ dst' pos' after' guard' h1 h2;obtain⟨w',H',r,hk,g⟩:=h w ρ dst' pos' after' guard' h1 h2;exact⟨w',H',r,⟨fun _=>hk.1,r,rfl,hk.2⟩,g⟩
   all_goals exact h.elim
  rw[if_neg Rp]at h;obtain⟨hA,h⟩:=h;by_cases he:nK o.op=true
  ·unfold fU at h;rw[if_pos he]at h;exact .inr ⟨by simp[mc,pd,hg,he],_,uc hg h.1,fun hd H'=>by rw[vh hd];exact uc hg (by rw[<-vh (H:=H) hd];exact h.1),fun Ru=>by obtain⟨dst,op,ty,pos,after,guard⟩:=o;cases op<;>first|(simp[nK]at he;done)|(simp[nY]at Ru;done),h.2⟩
  ·by_cases hl:pq o.op=true
   ·refine .inr ⟨by simp[mc,pd,hg,hl,Rp],?_⟩;obtain⟨dst,op,ty,pos,after,guard⟩:=o;simp only at hg;subst hg;cases op<;>first|(simp[pq]at hl;done)|skip
    rename_i t n parts;rw[Jw]at h;obtain⟨r,h1,h2⟩:=zg h;exact⟨r,A7 (h2 _ rfl),fun _ H'=>A7 (h2 _ rfl),fun Ru=>by simp[nY]at Ru,h1⟩
   ·rw[EI he hl]at h;by_cases hq:cW o.op=true
    ·have h':(vq P (bV F) H o.op).1/\fV A P ops K rest (cn F o.dst (vq P (bV F) H o.op).2) H:=by
      rw[J2 hq]at h;exact h
     refine .inr ⟨by simp[mc,pd,hg,hq],_,uc hg h'.1,fun hd H'=>by rw[vh hd];exact uc hg (by rw[<-vh (H:=H) hd];exact h'.1),fun Ru H' Qa=>?_,h'.2⟩;obtain⟨dst,op,ty,pos,after,guard⟩:=o;cases op<;>first|(simp[nY]at Ru;done)|skip
     rename_i t a;have e:vq P (bV F) H' (.load t a)=vq P (bV F) H (.load t a):=My Qa hA h'.1;have:=uc (P:=P) (ops:=ops) (H:=H') (o:=⟨dst,.load t a,ty,pos,after,guard⟩) (F:=F) hg (by rw[e];exact h'.1);rw[e]at this;exact this
    ·refine .inl ⟨by simp[mc,pd,hg];simp at hq he hl Sw;exact⟨⟨⟨hq,he⟩,.inl hl⟩,Sw⟩,fun G hG=>?_⟩;refine pD hg ?_;rw[uK o.op hG.1];by_cases SW:mq A o=true
     ·obtain⟨dst,op,ty,pos,after,guard⟩:=o;cases op<;>first|(simp[mq]at SW;done)|(exact(Rp SW).elim)|skip
      case call c=>
       obtain⟨callee,args,ts⟩:=c;cases callee
       case builtin bi=>cases bi<;>first|(exact(Rp SW).elim)|(simp[mq]at SW;done)
       all_goals first|(exact(Rp SW).elim)|(simp[mq]at SW;done)
      case alloc t=>
       simp only[vc,nb]at h ⊢;split at h
       ·obtain⟨i,h2,h3⟩:=h;exact⟨i,h2,fun _=>df.put h2,_,rfl,h3⟩
       ·exact h.elim
      case box t x=>obtain⟨h1,i,h2,h3⟩:=h;exact⟨h1,i,h2,fun _=>df.put h2,_,rfl,h3⟩
      case store t a x=>
       simp only[mq,Bool.and_eq_true,Bool.not_eq_true']at SW;simp only[iJ,SW.1,SW.2,Bool.false_or]at hA;simp only[vc,ua]at h ⊢;split at h
       ·rename_i i m k j n ha hn;have hi:A.1.contains i=true:=by rw[ha]at hA;exact hA
        split at h
        ·rename_i r hr;obtain⟨h1,h2⟩:=h;exact⟨h1,fun _=>df.set hi,_,rfl,h2⟩
        ·exact h.elim
       ·exact h.elim
     ·exact DB o.op (fun r H' hk=>⟨fun WC=>(SW WC).elim,r,rfl,hk⟩) h
 ·rename_i j want hg;split at h
  ·rename_i b hb;by_cases TN:pd A o=true
   ·rw[if_pos TN]at h;refine .inl ⟨by simp[mc,TN],fun G hG=>?_⟩;obtain⟨dst,op,ty,pos,after,guard⟩:=o;simp only at hg;subst hg;have hc:ku op=true:=by unfold pd at TN;simp only[Bool.and_eq_true]at TN;exact TN.2
    cases op<;>first|(cases hc;done)|skip
    rename_i c;obtain⟨callee,args,ts⟩:=c;cases callee<;>first|(cases hc;done)|skip
    rename_i f;have XB:∀x∈(Op.call ⟨.value f,args,ts⟩).operands.toList,bV G x=bV F x:=hG.1;have XC:=hG.2 j want rfl;rw[hb]at XC;have XD:∀x∈(Op.call ⟨.value f,args,ts⟩).operands.toList,bF G x=bF F x:=fun x hx=>by unfold bF;rw[XB x hx]
    refine n7 rfl XC (fun Qq w tm Q next h1 h2 hn=>?_) (fun Qq=>⟨.gd false (.raw (.bool false)),pn rfl,⟨fun _=>df.refl _ _,_,rfl,h.2 Qq⟩⟩);obtain⟨ok,Qn⟩:=h.1 Qq;have ok:gr G (.call ⟨.value f,args,ts⟩)=true:=by unfold gr at ok ⊢;rw[List.all_eq_true]at ok ⊢;exact fun x hx=>by rw[XB x hx];exact ok x hx
    have R6:=pv ok;have e1:jM G f=bF F f:=(R6 f (by simp[Op.operands,Call.operands])).trans (XD f (by simp[Op.operands,Call.operands]));have e2:args.toList.map (jM G)=args.toList.map (bF F):=List.map_congr_left fun x hx=>(R6 x (by simp[Op.operands,Call.operands]at hx ⊢;exact .inr hx)).trans (XD x (by simp[Op.operands,Call.operands]at hx ⊢;exact .inr hx))
    refine wA (ev:=jM G) e1 e2 Qn h1 (rp h2) fun v r' w' H' hR g1 g2 g3=>?_
    rw[Act.put_eq];exact hn _ w' _ H' ⟨fun _=>hR.1,r',rfl,hR.2⟩ g1 ((h2.ext g3).put dst g2 []) g3
   rw[if_neg TN]at h;obtain⟨hq,hv⟩:=h;obtain⟨r,h1,h2⟩:=Bx hv;have h3:=h2 F (fun r'=>r'=.gd b r) (fun _ _=>rfl) rfl;exact .inr ⟨by simp[mc,hg,TN],_,zG hg hb hq h3,fun hd H'=>zG hg hb hq (by rw[Hv hd]at h3;exact h3),(fun Ru=>by
    unfold nY at Ru;split at Ru
    ·rw[hg]at Ru;cases Ru
    ·cases Ru),h1⟩
  ·exact h.elim
def du(l:List Oper)(i:Nat):Oper:=l.getD i default
def j4(A:AS)(l:List Oper)(i:Nat):Bool:=mc A (du l i)
def oB(A:AS)(E:PK)(l:List Oper)(ps:List PK):PK->PK->Bool
 |done,[]=>(List.range l.length).all fun i=>done.contains i
 |done,i::rest=>((ps.getD i []).all fun k=>done.contains k) && !done.contains i && decide (i<l.length) &&
   (!j4 A l i || ((rest.all fun k=>(ps.getD k []).contains i || E.contains k) && done.all fun q=>j4 A l q || !nR (du l q) || (ps.getD i []).contains q || (mq A (du l i) && nY (du l q)))) && oB A E l ps (i::done) rest
def oQ(A:AS)(E:PK)(l:List Oper)(ord:PK):Bool:=tg l && oB A E l (jR l) [] ord && E.all fun i=>!sG A (du l i) && !n6 A (du l i)
def mem(done:PK)(i:Nat):Bool:=done.contains i
variable{l:List Oper}{done:PK}
def sC{E:PK}{rest:PK}(h:oB A E l (jR l) done (i::rest)=true) :
  (∀k∈(jR l).getD i [],k∈done)/\i ∉ done/\i<l.length/\(j4 A l i=true->(∀k∈rest,i∈(jR l).getD k []\/k∈E)/\∀q∈done,j4 A l q=true\/nR (du l q)=false\/q∈(jR l).getD i []\/(mq A (du l i)=true/\nY (du l q)=true))/\oB A E l (jR l) (i::done) rest=true:=by
 simp only[oB,Bool.and_eq_true,List.all_eq_true,List.contains_iff_mem,Bool.not_eq_true',decide_eq_true_eq,Bool.or_eq_true]at h;obtain⟨⟨⟨⟨h1,h2⟩,h3⟩,h4⟩,h5⟩:=h;refine⟨h1,by simpa using h2,h3,fun he=>?_,h5⟩;rcases h4 with h4|h4
 ·rw[he]at h4;cases h4
 ·exact⟨h4.1,fun q hq=>by
   rcases h4.2 q hq with((h|h)|h)|h
   ·exact .inl h
   ·exact .inr (.inl h)
   ·exact .inr (.inr (.inl h))
   ·exact .inr (.inr (.inr h))⟩
theorem LA{A:AS}{E:PK}{l:List Oper}:∀{rest done:PK},oB A E l (jR l) done rest=true->∀e∈rest,j4 A l e=true->∀q∈done,j4 A l q=true\/nR (du l q)=false\/q∈(jR l).getD e []\/(mq A (du l e)=true/\nY (du l q)=true)
 |[],_,_=>fun e he=>by simp at he
 |i::rest,done,h=>fun e he S0 q hq=>by
  obtain⟨_,_,_,h4,h5⟩:=sC h;rcases List.mem_cons.1 he with rfl|he
  ·exact(h4 S0).2 q hq
  ·exact LA h5 e he S0 q (List.mem_cons_of_mem _ hq)
theorem zj{A:AS}{E:PK}{l:List Oper}:∀{rest done:PK},oB A E l (jR l) done rest=true->∀i,i<l.length->i∈done\/i∈rest
 |[],done,h=>fun i hi=>by simp only[oB,List.all_eq_true,List.mem_range,List.contains_iff_mem]at h;exact .inl (h i hi)
 |j::rest,done,h=>fun i hi=>by
  obtain⟨_,_,_,_,h5⟩:=sC h;rcases zj h5 i hi with h|h
  ·rcases List.mem_cons.1 h with rfl|h
   ·exact .inr jE
   ·exact .inl h
  ·exact .inr (List.mem_cons_of_mem _ h)
def lh:mem done i=true<->i∈done:=by simp[mem]
def By(done:PK)(i:Nat):(fun k=>mem (i::done) k)=fun k=>mem done k || k == i:=by
 funext k
 rw[Bool.eq_iff_iff];simp[mem,or_comm]
def xD(ho:l[i]?=some o){e:Edge}(he:e∈o.after.toList)(hb:Region.binds .any e=true):e.on∈(jR l).getD i []:=by rw[FQ ho,Bv];exact List.mem_flatMap.2 ⟨e,List.mem_filter.2 ⟨he,hb⟩,jE⟩
theorem D8{os:List Oper}{rs F:PH}{L L':PR}{s:Nat}(h:∀k o,os[k]?=some o->o.dst=some s->L k=L' k):∀m,kT os rs L F s m=kT os rs L' F s m
 |0=>rfl
 |m+1=>by
  unfold kT;rw[D8 h m];cases ho:os[m]? with
  |none=>simp
  |some o=>
   simp only[Option.bind_some];by_cases hd:o.dst=some s
   ·rw[h m o ho hd]
   ·simp[hd]
theorem qx{os:List Oper}{rs F:PH}{L:PR}{i:Nat}{r:AV}(hL:L i=false):∀m,FL os (rs.set i r) L F m=FL os rs L F m
 |0=>rfl
 |m+1=>by
  unfold FL;rw[qx hL m];by_cases hm:m=i
  ·subst hm;simp[hL]
  ·have:(rs.set i r).getD m .any=rs.getD m .any:=by simp[List.getElem?_set,Ne.symm hm]
   rw[this]
section
variable {l:List Oper}(PW:∀j o,l[j]?=some o->∀e∈o.after.toList,Region.binds .any e=true->e.on<j)
 (P7:∀i j a b,i<j->l[i]?=some a->l[j]?=some b->su l a b=true->i∈(jR l).getD j [])
include PW P7
variable{L:PR}
theorem yL(RW:mN l L){i:Nat}{o:Oper}(ho:l[i]?=some o)(SZ:L i=false)(QR:∀e∈o.after.toList,Region.binds .any e=true->L e.on=true) :
  ∀k o' s,l[k]?=some o'->o'.dst=some s->(s∈looks l o\/o.dst=some s)->L k=decide (k<i):=by
 intro k o' s hk hs Qs;have Qo:=uq RW PW (i+1) i jB o ho QR;rcases Nat.lt_trichotomy k i with h|h|h
 ·rw[decide_eq_true h];refine Qo k (P7 k i o' o h hk ho ?_);unfold su;rw[hs];rcases Qs with h5|h5
  ·simp[h5]
  ·simp[h5]
 ·subst h;simpa using SZ
 ·rw[decide_eq_false jB];cases hv:L k with
  |false=>rfl
  |true=>
   have Rm:i∈(jR l).getD k []:=P7 i k o o' h ho hk (by
    unfold su;rw[hs];rcases Qs with h5|h5
    ·simp[h5]
    ·simp[h5])
   have:=uq RW PW (k+1) k jB o' hk (fun e he hb=>RW k o' hk hv e he hb) i Rm;rw[SZ]at this;cases this
theorem FN{rs F:PH}{L':PR}(hL:mN l L)(RH:mN l L'){i:Nat}{o:Oper}(ho:l[i]?=some o)(h1:L i=false)(h2:L' i=false)
  (h3:∀e∈o.after.toList,Region.binds .any e=true->L e.on=true) (h4:∀e∈o.after.toList,Region.binds .any e=true->L' e.on=true):wk l.toArray o (FL l rs L F l.length) (FL l rs L' F l.length):=by
 refine FE (by rw[kR,kR]) fun s hs J'=>?_
 rw[kR]at J';rw[rJ _ _ _ _ J',rJ _ _ _ _ J'];exact(D8 (fun k o' hk hd=>by rw[yL PW P7 hL ho h1 h3 k o' s hk hd (.inl hs),yL PW P7 RH ho h2 h4 k o' s hk hd (.inl hs)]) _).symm
theorem ud{rs F:PH}{L2:PR}(hL:mN l L){i:Nat}{o:Oper}(ho:l[i]?=some o)(h1:L i=false)(h3:∀e∈o.after.toList,Region.binds .any e=true->L e.on=true){r:AV}(hr:rs.getD i .any=r)(RO:∀k,L2 k=(L k || k == i)) :
  cn (FL l rs L F l.length) o.dst r=FL l rs L2 F l.length:=by
 have Rl:=(List.getElem?_eq_some_iff.1 ho).1;refine CK (m':=0) (L':=fun _=>true) (by cases o.dst<;>simp[cn,kR]) fun s hs=>?_
 by_cases hd:o.dst=some s
 ·rw[AK (L:=L) ho RO (fun k o' hk UF=>yL PW P7 hL ho h1 h3 k o' s hk UF (.inr hd)) hd _ Rl,hd,hr];simp[cn,kR,hs]
 ·rw[Bt (L:=L) ho RO hd,<-rJ _ _ _ _ hs];cases UF:o.dst with
  |none=>rfl
  |some d=>
   have:d≠s:=fun e=>hd (by rw[UF,e])
   simp[cn,List.getElem?_set,this]
end
structure Inv(A:AS)(E:List Nat)(P:Program)(l:List Oper)(K:List AV->Hp->Prop)(F:List AV)(L:Nat->Bool)(done rest:List Nat)(rs:List AV)(H:Hp):Prop where
 len:rs.length=l.length
 sub:∀i,L i=true->i∈done\/i∈E
 fJ:mN l L
 j8:mN l (mem done)
 ord:oB A E l (jR l) done rest=true
 walk:fV A P l.toArray K (rest.map (du l)) (FL l rs (mem done) F l.length) H
 wait:∀i∈done,L i=false->j4 A l i=false/\i<l.length/\∃D,mN l D/\D i=false/\(∀k,D k=true->k∈done)/\(∀e∈(du l i).after.toList,Region.binds .any e=true->D e.on=true)/\
  QV P l.toArray (du l i) (FL l rs D F l.length) H (rs.getD i .any)/\(nR (du l i)=false->∀H',QV P l.toArray (du l i) (FL l rs D F l.length) H' (rs.getD i .any))/\(nY (du l i)=true->∀H',df A H H'->QV P l.toArray (du l i) (FL l rs D F l.length) H' (rs.getD i .any))
def xF(hi:i<l.length):l[i]?=some (du l i):=by simp[du,hi]
def qp(P:PS)(l:List Oper):PK->Prop
 |[]=>True
 |i::E=>(match (du l i).op with|.alloc t=>(dY P t).isSome=true|_=>False)/\(du l i).guard=none/\qp P l E
theorem yx{P:PS}{l:List Oper}:∀{E:PK},qp P l E->∀i∈E,∃t zs,(du l i).op=.alloc t/\dY P t=some zs/\(du l i).guard=none
 |[],_,i,hi=>by simp at hi
 |j::E,h,i,hi=>by
  obtain⟨h1,h2,h3⟩:=h;rcases List.mem_cons.1 hi with rfl|hi
  ·split at h1
   ·rename_i t e;obtain⟨zs,hz⟩:=Option.isSome_iff_exists.1 h1;exact⟨t,zs,e,hz,h2⟩
   ·exact h1.elim
  ·exact yx h3 i hi
def zt(A:AS)(P:PS)(l:List Oper)(E:PK):Prop:=qp P l E/\∀i∈E,sG A (du l i)=false/\n6 A (du l i)=false
def H9{P:PS}{E:PK}(h:zt A P l E)(hi:i∈E):j4 A l i=true/\mq A (du l i)=true:=by obtain⟨t,zs,e,_,hg⟩:=yx h.1 i hi;simp[j4,mc,mq,e,hg,cW,nK,pq,(h.2 i hi).1]
def Hid(P:PS)(l:List Oper)(L:PR)(done:PK)(rs:PH)(w0 w:NW)(β:Nat->Nat):Prop:=∀i,L i=true->i ∉ done->
 (∃t cur,(du l i).op=.alloc t/\dY P t=some cur.toList/\rs.getD i .any=.raw (.pointer (some ⟨β i,0,none⟩))/\w.heap[β i]?=some (.cells cur t (0,0))/\w.O (β i)/\w0.heap.size<=β i/\β i<w.heap.size/\∀j m t s,w.nm j m≠some (.at (β i) t s))/\∀j,L j=true->j ∉ done->β i=β j->i=j
def Hid.ext{P:PS}{L:PR}{rs:PH}{w0 w w':NW}{β:Nat->Nat}{H:Hp}(h:Hid P l L done rs w0 w β)(e:Ext w H w' H'):Hid P l L done rs w0 w' β:=fun i h1 h2=>by obtain⟨⟨t,cur,a1,a2,a3,a4,a5,a6,a7,a8⟩,b⟩:=h i h1 h2;obtain⟨e1,e2,e3⟩:=e.rest (β i) a7 a5 a8;exact⟨⟨t,cur,a1,a2,a3,e1.trans a4,e2,a6,Nat.lt_of_lt_of_le a7 e.size,e3⟩,b⟩
def IP{w:NW}{H:Hp}(r:aH w H){b:Nat}{cur:PO}(hi:H.get i=none)(hb:w.heap[b]?=some (.cells cur t (0,0)))(hO:w.O b)(PW:b<w.heap.size)(Qb:∀j m t s,w.nm j m≠some (.at b t s)) :
  aH (w.name i 0 (.at b cur.size 0)) (H.put i (.var t (cur.toList.map .raw)))/\Keep rf w (w.name i 0 (.at b cur.size 0))/\ar (w.name i 0 (.at b cur.size 0)) (.pt i 0 0 0) (.pointer (some ⟨b,0,none⟩)):=by
 have QO:∀j n,(w.name i 0 (.at b cur.size 0)).nm j n=if j=i/\n=0 then some (Rz.at b cur.size 0)else w.nm j n:=fun _ _=>rfl
 have kp:Keep rf w (w.name i 0 (.at b cur.size 0)):=⟨Nat.le_refl _,fun _ _ h=>⟨rfl,h⟩,fun j n z _ h=>by
  rw[QO,if_neg]
  ·exact h
  ·rintro⟨rfl,rfl⟩;rw[r.none hi]at h;cases h⟩
 refine⟨{ rows:=fun j s hj=>?_,dr:=fun j n z hz=>?_,inj:=fun j n j' n' b' t1 s1 t2 s2 h1 h2=>?_,own:=fun j n b' t1 s1 h=>?_,fin:=r.fin,ca:=r.ca.aT kp },kp,?_⟩
 ·rw[Hp.aW]at hj;split at hj
  ·rename_i e;subst e;cases hj;refine⟨trivial,.at b cur.size 0,by rw[QO];exact if_pos ⟨rfl,rfl⟩,rfl,cur,hb,⟨rfl,by show(cur.toList.map AV.raw).length<=_;simp⟩,fun k a v ha hv=>?_⟩;have ha:(cur.toList.map AV.raw)[k]?=some a:=ha;simp only[List.getElem?_map,Array.getElem?_toList,hv,Option.map_some,Option.some.injEq]at ha;subst ha;exact .raw _
  ·rename_i e;obtain⟨h1,z,h2,h3⟩:=r.rows j s hj;refine⟨h1,z,by rw[QO,if_neg (fun h=>e h.1)];exact h2,?_⟩;cases z with
   |nil=>exact h3
   |«at» b' t' st=> obtain⟨g1,Rb,g2,g3,g5⟩:=h3;exact⟨g1,Rb,g2,g3,fun k a v ha hv=>(g5 k a v ha hv).aT kp (nk a)⟩
 ·rw[QO]at hz;rw[Hp.aW];split at hz
  ·rename_i e;exact⟨_,by rw[if_pos e.1],by rw[e.2];exact Nat.zero_le _⟩
  ·obtain⟨r',h1,h2⟩:=r.dr j n z hz;have e:j≠i:=fun e=>by subst e;rw[hi]at h1;cases h1
   exact⟨r',by rw[if_neg e];exact h1,h2⟩
 ·rw[QO]at h1 h2;split at h1<;>split at h2
  ·rename_i e1 e2;rw[e1.1,e2.1]
  ·cases h1;exact(Qb _ _ _ _ h2).elim
  ·cases h2;exact(Qb _ _ _ _ h1).elim
  ·exact r.inj _ _ _ _ _ _ _ _ _ h1 h2
 ·rw[QO]at h;split at h
  ·cases h;exact hO
  ·exact r.own _ _ _ _ _ h
 ·have:=ar.pt (w:=w.name i 0 (.at b cur.size 0)) i 0 0 0 b cur.size 0 (NW.bU _ _ _ _);simpa using this
def Na{w0 w:NW}{H0 H:Hp}(e:Ext w0 H0 w H)(r:aH w H){b sz:Nat}(hi:H.get i=none)(hb:w0.heap.size<=b)(hB:H'.B=H.B):Ext w0 H0 (w.name i 0 (.at b sz 0)) H':={
 size:=e.size,free:=e.free
 names:=fun j n z hq h=>by
  have:=e.names j n z hq h;show(if j=i/\n=0 then _ else _)=_;rw[if_neg]
  ·exact this
  ·rintro⟨rfl,rfl⟩;rw[r.none hi]at this;cases this
 os:=e.os,tape:=e.tape,output:=e.output
 rest:=fun c hc hO Qb=>by
  obtain⟨e1,e2,e3⟩:=e.rest c hc hO Qb;refine⟨e1,e2,fun j n t s h=>?_⟩;have h:(if j=i/\n=0 then some (Rz.at b sz 0)else w.nm j n)=some (.at c t s):=h;split at h
  ·cases h;omega
  ·exact e3 _ _ _ _ h
 base:=hB.trans e.base }
theorem Ed{os:List Oper}{rs F:PH}{L:PR}{i:Nat}{r:AV}:∀(m:Nat) (s:Nat) (a:AV),(FL os (rs.set i r) L F m)[s]?=some a->(FL os rs L F m)[s]?=some a\/(a=r/\(FL os rs L F m)[s]?=some (rs.getD i .any)/\i<rs.length)
 |0=>fun s a h=>.inl h
 |m+1=>fun s a h=>by
  have ih:=Ed (os:=os) (rs:=rs) (F:=F) (L:=L) (i:=i) (r:=r) m;have hl:(FL os (rs.set i r) L F m).length=(FL os rs L F m).length:=by rw[kR,kR]
  unfold FL at h ⊢;cases hL:L m with
  |false=>simp only[hL,Bool.false_eq_true,if_false]at h ⊢;exact ih s a h
  |true=>
   simp only[hL,if_true]at h ⊢;cases hd:(os[m]?).bind (·.dst)with
   |none=>rw[hd]at h;exact ih s a h
   |some d=>
    rw[hd]at h;simp only[cn]at h ⊢;rw[List.getElem?_set]at h ⊢;by_cases e:d=s
    ·subst e;simp only[if_true]at h ⊢;rw[hl]at h;split at h
     ·rename_i PW;rw[if_pos PW];simp only[Option.some.injEq]at h;by_cases hm:i=m
      ·subst hm;by_cases hi:i<rs.length
       ·refine .inr ⟨?_,rfl,hi⟩;rw[<-h];simp[hi]
       ·refine .inl ?_;rw[<-h];simp[hi,List.getElem?_set]
      ·refine .inl ?_;rw[<-h];simp[List.getElem?_set,hm]
     ·cases h
    ·simp only[if_neg e]at h ⊢;exact ih s a h
section
variable {A:AS}{E:PK}{l:List Oper}{K:PD}{F:PH}(hok:tg l=true)(hE:zt A P l E)
include hok
variable{done:PK}{i:Nat}
theorem AW(hi:i<l.length)(hd:mN l (mem done))(hp:∀k∈(jR l).getD i [],k∈done):mN l (mem (i::done)):=fun j o ho hj e he hb=>by
 rw[lh]at hj ⊢;rcases List.mem_cons.1 hj with rfl|hj
 ·exact List.mem_cons_of_mem _ (hp _ (xD ho he hb))
 ·exact List.mem_cons_of_mem _ (lh.1 (hd j o ho (lh.2 hj) e he hb))
include hE
theorem BG:∀(rest:PK) {L:PR} {done:PK} {rs:PH},Inv A E P l K F L done rest rs H->
  ∃done' QY QJ,Inv A E P l K F L done' QY QJ H/\(∀i r,QY=i::r->j4 A l i=true)/\FL l QJ L F l.length=FL l rs L F l.length/\QY.length<=rest.length/\(∀w0 w β,Hid P l L done rs w0 w β->Hid P l L done' QJ w0 w β)
 |[],L,done,rs,h=>⟨done,[],rs,h,(fun i r e=>by cases e),rfl,Nat.le_refl _,fun _ _ _ h=>h⟩
 |i::rest,L,done,rs,h=>by
  obtain⟨PW,P7⟩:=uj hok;cases he:j4 A l i with
  |true=>exact⟨done,i::rest,rs,h,fun j r e=>by cases e;exact he,rfl,Nat.le_refl _,fun _ _ _ h=>h⟩
  |false=>
   obtain⟨hp,Vr,Rl,_,h5⟩:=sC h.ord;have ho:=xF Rl;have hw:=h.walk;rw[List.map_cons]at hw;rcases EQ hw with⟨hx,_⟩|⟨_,r,q1,q2,q2',q3⟩
   ·unfold j4 at he;rw[he]at hx;cases hx
   have UG:mem done i=false:=by rw[<-Bool.not_eq_true,lh];exact Vr
   have UH:L i=false:=by
    cases e:L i with
    |false=>rfl
    |true=>
     rcases h.sub i e with h6|h6
     ·exact(Vr h6).elim
     ·rw[(H9 (A:=A) hE h6).1]at he;cases he
   have QR:∀e∈(du l i).after.toList,Region.binds .any e=true->mem done e.on=true:=fun e he hb=>lh.2 (hp _ (xD ho he hb))
   have PZ:∀D:PR,(∀k,D k=true->k∈done)->FL l (rs.set i r) D F l.length=FL l rs D F l.length:=fun D hD=>qx (by
    cases e:D i with
    |false=>rfl
    |true=>exact(Vr (hD i e)).elim) _
   have QF:(rs.set i r).getD i .any=r:=by simp[h.len,Rl]
   have QW:∀j,j≠i->(rs.set i r).getD j .any=rs.getD j .any:=fun j hj=>by simp[List.getElem?_set,Ne.symm hj]
   have SH:=ud (rs:=rs.set i r) (F:=F) PW P7 h.j8 ho UG QR QF (L2:=mem (i::done)) (fun k=>by rw[show mem (i::done) k=(fun k=>mem (i::done) k) k from rfl,By]);rw[PZ _ (fun k hk=>lh.1 hk)]at SH;have hinv:Inv A E P l K F L (i::done) rest (rs.set i r) H:=by
    refine⟨by simpa using h.len,fun k hk=>(h.sub k hk).imp_left (List.mem_cons_of_mem _),h.fJ,AW hok Rl h.j8 hp,h5,by rw[<-SH];exact q3,fun j hj Rt=>?_⟩;rcases List.mem_cons.1 hj with rfl|hj
    ·exact⟨he,Rl,mem done,h.j8,UG,fun k hk=>List.mem_cons_of_mem _ (lh.1 hk),QR,by rw[PZ _ (fun k hk=>lh.1 hk),QF];exact q1,fun hd H'=>by rw[PZ _ (fun k hk=>lh.1 hk),QF];exact q2 hd H',fun hd H' Qa=>by rw[PZ _ (fun k hk=>lh.1 hk),QF];exact q2' hd H' Qa⟩
    ·obtain⟨w1,w2,D,w3,w4,w5,w6,w7,w8,w9⟩:=h.wait j hj Rt;have Rv:j≠i:=fun e=>Vr (e ▸ hj)
     exact⟨w1,w2,D,w3,w4,fun k hk=>List.mem_cons_of_mem _ (w5 k hk),w6,by rw[PZ _ w5,QW j Rv];exact w7,fun hd H'=>by rw[PZ _ w5,QW j Rv];exact w8 hd H',fun hd H' Qa=>by rw[PZ _ w5,QW j Rv];exact w9 hd H' Qa⟩
   obtain⟨d',r',QJ,g1,g2,g3,g4,g5⟩:=BG rest hinv;refine⟨d',r',QJ,g1,g2,by rw[g3,qx UH],by simp;omega,fun w0 w β hh=>g5 w0 w β fun k Qg P1=>?_⟩;have Rm:k≠i:=fun e=>P1 (by simp[e])
   obtain⟨a,b⟩:=hh k Qg fun SI=>P1 (List.mem_cons_of_mem _ SI)
   rw[QW k Rm];exact⟨a,fun j Tc R7=>b j Tc fun Yj=>R7 (List.mem_cons_of_mem _ Yj)⟩
variable{L:PR}{rest:PK}
theorem DH{L2:PR}{rs:PH}{r:AV}{H':Hp}(h:Inv A E P l K F L done (i::rest) rs H)(S0:j4 A l i=true)(RO:∀k,L2 k=(L k || k == i))(SJ:mq A (du l i)=true->df A H H')
  (Qo:∀k∈(jR l).getD i [],L k=true):∀j∈i::done,L2 j=false->j4 A l j=false/\j<l.length/\∃D,mN l D/\D j=false/\(∀k,D k=true->k∈i::done)/\(∀e∈(du l j).after.toList,Region.binds .any e=true->D e.on=true)/\
  QV P l.toArray (du l j) (FL l (rs.set i r) D F l.length) H' ((rs.set i r).getD j .any)/\(nR (du l j)=false->∀QC,QV P l.toArray (du l j) (FL l (rs.set i r) D F l.length) QC ((rs.set i r).getD j .any))/\(nY (du l j)=true->∀QC,df A H' QC->QV P l.toArray (du l j) (FL l (rs.set i r) D F l.length) QC ((rs.set i r).getD j .any)):=by
 intro j hj Rt;obtain⟨hp,QW,Rg,h4,h5⟩:=sC h.ord;have PZ:∀D:PR,(∀k,D k=true->k∈done)->FL l (rs.set i r) D F l.length=FL l rs D F l.length:=fun D hD=>qx (by
  cases e:D i with
  |false=>rfl
  |true=>exact(QW (hD i e)).elim) _
 have WD:∀j,j≠i->(rs.set i r).getD j .any=rs.getD j .any:=fun j hj=>by simp[List.getElem?_set,Ne.symm hj]
 rw[RO]at Rt;obtain⟨Rt,Rv⟩:=Bool.or_eq_false_iff.1 Rt;have Rv:j≠i:=by simpa using Rv
 have hj:j∈done:=by rcases List.mem_cons.1 hj with e|h;exact(Rv e).elim;exact h
 obtain⟨w1,w2,D,w3,w4,w5,w6,w7,w8,w9⟩:=h.wait j hj Rt;have WE:QV P l.toArray (du l j) (FL l rs D F l.length) H' (rs.getD j .any):=by
  rcases(h4 S0).2 j hj with h6|h6|h6|h6
  ·rw[w1]at h6;cases h6
  ·exact w8 h6 H'
  ·have:=Qo j h6;rw[Rt]at this;cases this
  ·exact w9 h6.2 H' (SJ h6.1)
 refine⟨w1,w2,D,w3,w4,fun k hk=>List.mem_cons_of_mem _ (w5 k hk),w6,by rw[PZ _ w5,WD j Rv];exact WE,fun hd QC=>by rw[PZ _ w5,WD j Rv];exact w8 hd QC,fun hd QC Qa=>?_⟩;rw[PZ _ w5,WD j Rv];rcases(h4 S0).2 j hj with h6|h6|h6|h6
 ·rw[w1]at h6;cases h6
 ·exact w8 h6 QC
 ·have:=Qo j h6;rw[Rt]at this;cases this
 ·exact w9 h6.2 QC ((SJ h6.1).trans Qa)
theorem settle{w0:NW}{H0:Hp}:∀(n:Nat) {L:PR} {done rest:PK} {rs:PH} {H:Hp} {w:NW} {tm:PO} {β:Nat->Nat},rest.length<=n->Inv A E P l K F L done rest rs H->aH w H->aY w (FL l rs L F l.length) tm->Ext w0 H0 w H->Hid P l L done rs w0 w β->
  ∃done' QY QJ H' w',NW.toWorld w'=w.toWorld/\Inv A E P l K F L done' QY QJ H'/\(∀i r,QY=i::r->j4 A l i=true/\L i=false)/\aH w' H'/\aY w' (FL l QJ L F l.length) tm/\Ext w0 H0 w' H'/\Hid P l L done' QJ w0 w' β
 |n,L,done,rest,rs,H,w,tm,β,hn,h,h1,h2,h3,h4=>by
  obtain⟨PW,P7⟩:=uj hok;obtain⟨d',r',QJ,g1,g2,g3,g4,g5⟩:=BG hok hE rest h;have g5:=g5 _ _ _ h4;rw[<-g3]at h2;cases r' with
  |nil=>exact⟨d',[],QJ,H,w,rfl,g1,(fun i r e=>by cases e),h1,h2,h3,g5⟩
  |cons i r=>
   have S0:=g2 i r rfl;cases UH:L i with
   |false=>exact⟨d',i::r,QJ,H,w,rfl,g1,(fun j q e=>by cases e;exact⟨S0,UH⟩),h1,h2,h3,g5⟩
   |true=>
    obtain⟨hp,QW,Rg,c4,c5⟩:=sC g1.ord;obtain⟨⟨t,cur,a1,a2,a3,a4,a5,a6,a7,a8⟩,a9⟩:=g5 i UH QW;have U6:i∈E:=(g1.sub i UH).resolve_left QW;have TN:(du l i).guard=none:=by obtain⟨_,_,_,_,hg⟩:=yx hE.1 i U6;exact hg
    have hw:=g1.walk;rw[List.map_cons]at hw;unfold fV at hw;rw[TN]at hw;simp only at hw;rw[if_neg (by rw[(hE.2 i U6).1];exact Bool.false_ne_true),if_neg (by rw[(hE.2 i U6).2];exact Bool.false_ne_true)]at hw;obtain⟨_,hw⟩:=hw;rw[a1,EI (by simp[nK]) (by simp[pq])]at hw;simp only[vc,nb,a2]at hw;obtain⟨id,hid,hv⟩:=hw;have ho:=xF Rg;obtain⟨k1,k2,k3⟩:=IP h1 hid a4 a5 a7 a8;have UG:mem d' i=false:=by rw[<-Bool.not_eq_true,lh];exact QW
    have Q9:∀e∈(du l i).after.toList,Region.binds .any e=true->mem d' e.on=true:=fun e he hb=>lh.2 (hp _ (xD ho he hb))
    have QF:(QJ.set i (.pt id 0 0 0)).getD i .any=.pt id 0 0 0:=by simp[g1.len,Rg]
    have PZ:∀D:PR,(∀k,D k=true->k∈d')->FL l (QJ.set i (.pt id 0 0 0)) D F l.length=FL l QJ D F l.length:=fun D hD=>qx (by
     cases e:D i with
     |false=>rfl
     |true=>exact(QW (hD i e)).elim) _
    have QK:=ud (rs:=QJ.set i (.pt id 0 0 0)) (F:=F) PW P7 g1.j8 ho UG Q9 QF (L2:=mem (i::d')) (fun k=>by rw[show mem (i::d') k=(fun k=>mem (i::d') k) k from rfl,By]);rw[PZ _ (fun k hk=>lh.1 hk)]at QK;have Qo:∀k∈(jR l).getD i [],L k=true:=uq g1.fJ PW (i+1) i jB _ ho fun e he hb=>g1.fJ i _ ho UH e he hb
    have hinv:Inv A E P l K F L (i::d') r (QJ.set i (.pt id 0 0 0)) (H.put id (.var t (cur.toList.map .raw))):=
     ⟨by simpa using g1.len,fun k hk=>(g1.sub k hk).imp_left (List.mem_cons_of_mem _),g1.fJ,AW hok Rg g1.j8 hp,c5,by rw[<-QK];exact hv,
      DH hok hE g1 S0 (fun k=>by
       by_cases e:k=i
       ·subst e;simp[UH]
       ·simp[e]) (fun _=>df.put hid) Qo⟩
    have P':aY (w.name id 0 (.at (β i) cur.size 0)) (FL l (QJ.set i (.pt id 0 0 0)) L F l.length) tm:=by
     refine⟨by rw[kR];have:=h2.1;rw[kR]at this;exact this,fun s a v ha Qp=>?_⟩;rcases Ed l.length s a ha with h6|⟨rfl,h6,_⟩
     ·exact(h2.2 s a v h6 Qp).aT k2 (nk a)
     ·have:=h2.2 s _ v h6 Qp;rw[a3]at this;have:=cY this;subst this;exact k3
    have TP:Hid P l L (i::d') (QJ.set i (.pt id 0 0 0)) w0 (w.name id 0 (.at (β i) cur.size 0)) β:=fun k Qg P1=>by
     have Rm:k≠i:=fun e=>P1 (by simp[e])
     have SI:k ∉ d':=fun e=>P1 (List.mem_cons_of_mem _ e)
     obtain⟨⟨t',Rb,b1,b2,b3,b4,b5,b6,b7,b8⟩,b9⟩:=g5 k Qg SI;refine⟨⟨t',Rb,b1,b2,by rw[<-b3];simp[List.getElem?_set,Ne.symm Rm],b4,b5,b6,b7,fun j m t1 s1 hh=>?_⟩,fun j Tc R7=>b9 j Tc fun e=>R7 (List.mem_cons_of_mem _ e)⟩;have hh:(if j=id/\m=0 then some (Rz.at (β i) cur.size 0)else w.nm j m)=some (.at (β k) t1 s1):=hh;split at hh
     ·simp only[Option.some.injEq,Rz.at.injEq]at hh;exact Rm (a9 k Qg SI hh.1).symm
     ·exact b8 _ _ _ _ hh
    simp only[List.length_cons]at g4;obtain⟨n,rfl⟩:∃k,n=k+1:=⟨n-1,jB⟩;obtain⟨d2,r2,rs2,H2,w2,x1,x2,x3,x4,x5,x6,x7⟩:=settle n jB hinv k1 P' (Na h3 h1 hid a6 rfl) TP;exact⟨d2,r2,rs2,H2,w2,x1,x2,x3,x4,x5,x6,x7⟩
theorem Mh{rs:PH}(h:Inv A E P l K F L done rest rs H)(hs:∀i r,rest=i::r->j4 A l i=true/\L i=false){o:Oper}(ho:l[i]?=some o)(hi:L i=false)(QR:∀e∈o.after.toList,Region.binds .any e=true->L e.on=true)
  {L2:PR} (RO:∀k,L2 k=(L k || k == i)) (WG:i∈done\/i ∉ E\/∃r,rest=i::r) :
  l5 P l.toArray o (FL l rs L F l.length) H fun G' H'=>∃done' QY QJ,Inv A E P l K F L2 done' QY QJ H'/\G'=FL l QJ L2 F l.length/\∀w0 w β,Hid P l L done rs w0 w β->Hid P l L2 done' QJ w0 w β:=by
 obtain⟨PW,P7⟩:=uj hok;have Rl:=(List.getElem?_eq_some_iff.1 ho).1;obtain rfl:o=du l i:=by have:=(xF Rl).symm.trans ho;cases this;rfl
 have SK:mN l L2:=fun j o' hj Rt e he hb=>by
  rw[RO]at Rt ⊢;rcases Bool.or_eq_true_iff.1 Rt with h6|h6
  ·rw[h.fJ j o' hj h6 e he hb];rfl
  ·obtain rfl:j=i:=by simpa using h6
   rw[ho]at hj;cases hj;rw[QR e he hb];rfl
 by_cases hd:i∈done
 ·obtain⟨w1,w2,D,w3,w4,w5,w6,w7,w8,w9⟩:=h.wait i hd hi;refine(w7 _ (FN PW P7 w3 h.fJ ho w4 hi w6 QR)).mono ?_;rintro G' H' ⟨rfl,rfl⟩;refine⟨done,rest,rs,⟨h.len,fun k hk=>?_,SK,h.j8,h.ord,h.walk,fun j hj Rt=>h.wait j hj ?_⟩,ud PW P7 h.fJ ho hi QR rfl RO,fun w0 w β hh k Qg P1=>?_⟩
  ·rw[RO]at hk;rcases Bool.or_eq_true_iff.1 hk with h6|h6
   ·exact h.sub k h6
   ·obtain rfl:k=i:=by simpa using h6
    exact .inl hd
  ·rw[RO]at Rt;exact(Bool.or_eq_false_iff.1 Rt).1
  ·have TB:∀k,L2 k=true->k ∉ done->L k=true:=fun k h1 h2=>by
    rw[RO]at h1;rcases Bool.or_eq_true_iff.1 h1 with h6|h6
    ·exact h6
    ·obtain rfl:k=i:=by simpa using h6
     exact(h2 hd).elim
   obtain⟨a,b⟩:=hh k (TB k Qg P1) P1;exact⟨a,fun j Tc R7=>b j (TB j Tc R7) R7⟩
 ·-- the next effect
  have P9:i∈rest:=(zj h.ord i Rl).resolve_left hd;obtain⟨e,QY,rfl⟩:∃e r,rest=e::r:=by cases rest with|nil=>simp at P9|cons e r=>exact⟨e,r,rfl⟩
  obtain⟨S0,Yk⟩:=hs e QY rfl;obtain⟨hp,QW,Rg,h4,h5⟩:=sC h.ord;have Qo:=uq h.fJ PW (i+1) i jB _ ho QR;obtain rfl:i=e:=by
   rcases List.mem_cons.1 P9 with h|hr
   ·exact h
   ·rcases(h4 S0).1 i hr with h6|h6
    ·have:=Qo e h6;rw[Yk]at this;cases this
    ·rcases WG with h7|h7|⟨r,h7⟩
     ·exact(hd h7).elim
     ·exact(h7 h6).elim
     ·cases h7;rfl
  have UG:mem done i=false:=by rw[<-Bool.not_eq_true,lh];exact QW
  have Q9:∀e∈(du l i).after.toList,Region.binds .any e=true->mem done e.on=true:=fun e he hb=>lh.2 (hp _ (xD ho he hb))
  have hw:=h.walk;rw[List.map_cons]at hw;obtain⟨_,hx⟩:=(EQ hw).resolve_right fun⟨hx,_⟩=>by unfold j4 at S0;rw[S0]at hx;cases hx
  refine(hx _ (FN PW P7 h.j8 h.fJ ho UG hi Q9 QR)).mono ?_;rintro G' H' ⟨SJ,r,rfl,hv⟩;have PZ:∀D:PR,(∀k,D k=true->k∈done)->FL l (rs.set i r) D F l.length=FL l rs D F l.length:=fun D hD=>qx (by
   cases e:D i with
   |false=>rfl
   |true=>exact(QW (hD i e)).elim) _
  have QF:(rs.set i r).getD i .any=r:=by simp[h.len,Rl]
  have QK:=ud (rs:=rs.set i r) (F:=F) PW P7 h.j8 ho UG Q9 QF (L2:=mem (i::done)) (fun k=>by rw[show mem (i::done) k=(fun k=>mem (i::done) k) k from rfl,By]);rw[PZ _ (fun k hk=>lh.1 hk)]at QK;have RY:=ud (rs:=rs.set i r) (F:=F) PW P7 h.fJ ho hi QR QF RO;rw[qx hi]at RY;refine⟨i::done,QY,rs.set i r,⟨by simpa using h.len,fun k hk=>?_,SK,AW hok Rl h.j8 hp,h5,by rw[<-QK];exact hv,DH hok hE h S0 RO SJ Qo⟩,RY,fun w0 w β hh k Qg P1=>?_⟩
  ·rw[RO]at hk;rcases Bool.or_eq_true_iff.1 hk with h6|h6
   ·exact(h.sub k h6).imp_left (List.mem_cons_of_mem _)
   ·obtain rfl:k=i:=by simpa using h6
    simp
  ·have TB:∀k,L2 k=true->k ∉ i::done->L k=true/\k ∉ done/\k≠i:=fun k h1 h2=>by
    rw[RO]at h1;simp only[List.mem_cons,not_or]at h2;rcases Bool.or_eq_true_iff.1 h1 with h6|h6
    ·exact⟨h6,h2.2,h2.1⟩
    ·exact(h2.1 (by simpa using h6)).elim
   obtain⟨y1,y2,y3⟩:=TB k Qg P1;obtain⟨⟨t,cur,b1,b2,b3,b4⟩,b⟩:=hh k y1 y2;exact⟨⟨t,cur,b1,b2,by rw[<-b3];simp[List.getElem?_set,Ne.symm y3],b4⟩,fun j Tc R7=>b j (TB j Tc R7).1 (TB j Tc R7).2.1⟩
theorem Lf{rs:PH}(h:Inv A E P l K F L done rest rs H){o:Oper}(ho:l[i]?=some o)(hi:L i=false)(hd:i ∉ done)(U6:i∈E)(QR:∀e∈o.after.toList,Region.binds .any e=true->L e.on=true)
  {L2:PR} (RO:∀k,L2 k=(L k || k == i)) {w0 w:NW} {H0:Hp} {tm:PO} {β:Nat->Nat} (h1:aH w H) (h2:aY w (FL l rs L F l.length) tm) (h3:Ext w0 H0 w H) (h4:Hid P l L done rs w0 w β) {Q:Exit->Act->World->Prop} {next:Act->World->Prop}
  (hn:∀Qt w' QJ β',Inv A E P l K F L2 done rest QJ H->aH w' H->aY w' (FL l QJ L2 F l.length) Qt->Ext w0 H0 w' H->Hid P l L2 done QJ w0 w' β'->next ⟨Qt,[]⟩ w'.toWorld):rD P l.toArray Q o next ⟨tm,[]⟩ w.toWorld:=by
 obtain⟨PW,P7⟩:=uj hok;have Rl:=(List.getElem?_eq_some_iff.1 ho).1;obtain rfl:o=du l i:=by have:=(xF Rl).symm.trans ho;cases this;rfl
 obtain⟨t,zs,e1,e2,e3⟩:=yx hE.1 i U6;obtain⟨z,D',rfl⟩:=xC (w:=w.toWorld) e2;have SK:mN l L2:=fun j o' hj Rt e he hb=>by
  rw[RO]at Rt ⊢;rcases Bool.or_eq_true_iff.1 Rt with h6|h6
  ·rw[h.fJ j o' hj h6 e he hb];rfl
  ·obtain rfl:j=i:=by simpa using h6
   rw[ho]at hj;cases hj;rw[QR e he hb];rfl
 have QF:(rs.set i (.raw (.pointer (some ⟨w.heap.size,0,none⟩)))).getD i .any=.raw (.pointer (some ⟨w.heap.size,0,none⟩)):=by simp[h.len,Rl]
 have QW:∀j,j≠i->∀r:AV,(rs.set i r).getD j .any=rs.getD j .any:=fun j hj r=>by simp[List.getElem?_set,Ne.symm hj]
 have PZ:∀(r:AV) (D:PR),(∀k,D k=true->k∈done)->FL l (rs.set i r) D F l.length=FL l rs D F l.length:=fun r D hD=>qx (by
  cases e:D i with
  |false=>rfl
  |true=>exact(hd (hD i e)).elim) _
 have RY:=ud (rs:=rs.set i (.raw (.pointer (some ⟨w.heap.size,0,none⟩)))) (F:=F) PW P7 h.fJ ho hi QR QF RO;rw[qx hi]at RY;have ex:Ext w H ((w.to (w.alloc (.cells z.cells t))).fN w.heap.size) H:={
  size:=by show w.heap.size<=(w.alloc _).heap.size;simp
  free:=fun b hb hn=>⟨RowKit.Below.heap_alloc w.toWorld _ b hb,fun h=>by
   rcases h with h|h
   ·omega
   ·exact hn h⟩
  names:=fun _ _ _ _ h=>h
  os:=rfl,tape:=rfl,output:=rfl
  rest:=fun b hb hO Qb=>⟨RowKit.Below.heap_alloc w.toWorld _ b hb,.inr hO,Qb⟩
  base:=rfl }
 have hW:aH ((w.to (w.alloc (.cells z.cells t))).fN w.heap.size) H:={
  rows:=fun j row hj=>by obtain⟨g1,y,g2,g3⟩:=h1.rows j row hj;refine⟨g1,y,g2,g3.ext ex fun b t' s e=>?_⟩;subst e;exact RowKit.Below.heap_alloc w.toWorld _ b (h1.lt g2)
  dr:=h1.dr,inj:=h1.inj,ca:=h1.ca.aT ex.toKeep
  own:=fun j n b t' s hh=>.inr (h1.own j n b t' s hh)
  fin:=fun b hb=>by
   show b<(w.alloc _).heap.size;rcases hb with hh|hh
   ·subst hh;simp
   ·have:=h1.fin b hh;simp;omega }
 have TB:∀k,L2 k=true->k≠i->L k=true:=fun k h1 h2=>by rw[RO]at h1;exact(Bool.or_eq_true_iff.1 h1).resolve_right (by simpa using h2)
 unfold rD;rw[if_pos (by simp[Region.wanted,e3])];refine .inl ?_;have hex:(execOp (Act.mk tm []).eval (du l i)).run P w.toWorld=.ok (.value (.pointer (some ⟨w.heap.size,0,none⟩))) (w.alloc (.cells z.cells t)):=by
  have:∀(o:Oper),o.op=.alloc t->(execOp (Act.mk tm []).eval o).run P w.toWorld=.ok (.value (.pointer (some ⟨w.heap.size,0,none⟩))) (w.alloc (.cells z.cells t)):=fun o ho=>by obtain⟨dst,op,ty,pos,after,guard⟩:=o;simp only at ho;subst ho;simp only[execOp,Sem.run_bind,Instr.alloc,D',Result.andThen_ok,newVar,newRow];simp
  exact this _ e1
 simp only[Oper.wp,hex,Oper.upon];rw[Act.put_eq];refine hn _ ((w.to (w.alloc (.cells z.cells t))).fN w.heap.size) (rs.set i (.raw (.pointer (some ⟨w.heap.size,0,none⟩)))) (fun k=>if k=i then w.heap.size else β k) ⟨by simpa using h.len,fun k hk=>?_,SK,h.j8,h.ord,by rw[PZ _ _ (fun k hk=>lh.1 hk)];exact h.walk,fun j hj Rt=>?_⟩ hW ?_ (h3.trans ex) ?_
 ·rw[RO]at hk;rcases Bool.or_eq_true_iff.1 hk with h6|h6
  ·exact h.sub k h6
  ·obtain rfl:k=i:=by simpa using h6
   exact .inr U6
 ·rw[RO]at Rt;obtain⟨w1,w2,D,w3,w4,w5,w6,w7,w8,w9⟩:=h.wait j hj (Bool.or_eq_false_iff.1 Rt).1;have Rv:j≠i:=fun e=>hd (e ▸ hj)
  exact⟨w1,w2,D,w3,w4,w5,w6,by rw[PZ _ _ w5,QW j Rv];exact w7,fun hd H'=>by rw[PZ _ _ w5,QW j Rv];exact w8 hd H',fun hd H' Qa=>by rw[PZ _ _ w5,QW j Rv];exact w9 hd H' Qa⟩
 ·rw[<-RY];exact(h2.ext ex).put _ (.raw _) []
 ·intro k Qg P1;by_cases Rm:k=i
  ·subst Rm;refine⟨⟨t,z.cells,e1,e2,by simp only[if_true];exact QF,by simp only[if_true];exact heap_alloc_new w.toWorld _,by simp only[if_true];exact .inl rfl,by simp only[if_true];exact h3.size,by simp only[if_true];show w.heap.size<(w.alloc _).heap.size;simp,fun j m t' s hh=>?_⟩,fun j Tc R7 e=>?_⟩
   ·simp only[if_true]at hh;have hh:w.nm j m=some (.at w.heap.size t' s):=hh;have:=h1.lt hh;omega
   ·by_cases Vs:j=k
    ·exact Vs.symm
    ·exfalso;obtain⟨⟨_,_,_,_,_,_,_,_,b7,_⟩,_⟩:=h4 j (TB j Tc Vs) R7;simp only[if_true,if_neg Vs]at e;omega
  ·obtain⟨⟨t',cur,b1,b2,b3,b4,b5,b6,b7,b8⟩,b9⟩:=h4 k (TB k Qg Rm) P1;simp only[if_neg Rm];refine⟨⟨t',cur,b1,b2,by rw[QW k Rm];exact b3,(RowKit.Below.heap_alloc w.toWorld _ _ b7).trans b4,.inr b5,b6,Nat.lt_of_lt_of_le b7 ex.size,b8⟩,fun j Tc R7 e=>?_⟩;by_cases Rv:j=i
   ·subst Rv;simp only[if_true]at e;omega
   ·simp only[if_neg Rv]at e;exact b9 j (TB j Tc Rv) R7 e
theorem NF{Q:Exit->PD}(hQ:∀F H,K F H->Q .normal F H){H0:Hp}(w0:NW) :
  ∀(fuel:Nat) (listed:Array Bool),listed.size=l.length->(List.range l.length).countP (fun i=>!listed.getD i false)=fuel->
   ∀H done rest rs (w:NW) tm β,Inv A E P l K F (fun i=>listed.getD i false) done rest rs H->(∀i r,rest=i::r->j4 A l i=true/\listed.getD i false=false)->
    aH w H->aY w (FL l rs (fun i=>listed.getD i false) F l.length) tm->Ext w0 H0 w H->Hid P l (fun i=>listed.getD i false) done rs w0 w β->wpAny P .any l.toArray (gw Q w0 H0) fuel listed ⟨tm,[]⟩ w.toWorld:=by
 obtain⟨PW,P7⟩:=uj hok;have fin:∀(listed:Array Bool) H done rest rs,Inv A E P l K F (fun i=>listed.getD i false) done rest rs H->(∀i r,rest=i::r->j4 A l i=true/\listed.getD i false=false)->(∀i,i<l.length->listed.getD i false=true)->∀(w:NW) tm,aH w H->aY w (FL l rs (fun i=>listed.getD i false) F l.length) tm->Ext w0 H0 w H->gw Q w0 H0 .normal ⟨tm,[]⟩ w.toWorld:=by
  intro listed H done rest rs h hs Qm w tm h1 h2 h3;obtain rfl:rest=[]:=by
   cases rest with
   |nil=>rfl
   |cons i r=> obtain⟨_,Vr,Rl,_⟩:=sC h.ord;have h6:=(hs i r rfl).2;rw[Qm i Rl]at h6;cases h6
  have e:FL l rs (fun i=>listed.getD i false) F l.length=FL l rs (mem done) F l.length:=by
   have gen:∀m,m<=l.length->FL l rs (fun i=>listed.getD i false) F m=FL l rs (mem done) F m:=by
    intro m;induction m with
    |zero=>intro _;rfl
    |succ m ih=> intro hm;have h4:=Qm m jB;have h5:mem done m=true:=lh.2 ((zj h.ord m jB).resolve_right jE);rw[FL,FL,ih jB,h4,h5]
   exact gen _ jl
  rw[e]at h2;exact⟨tm,_,H,w,rfl,rfl,hQ _ _ h.walk,h1,h2,h3.px⟩
 intro fuel;induction fuel with
 |zero=>
  intro listed P5 Tj H done rest rs w tm β h hs h1 h2 h3 _;have Qm:∀i,i<l.length->listed.getD i false=true:=fun i hi=>by have:=(List.countP_eq_zero.1 Tj) i (List.mem_range.2 hi);simpa using this
  refine⟨?_,fin listed H done rest rs h hs Qm w tm h1 h2 h3⟩;rw[List.eq_nil_iff_forall_not_mem];intro j hj;obtain⟨UC,o,ho,_⟩:=mem_ready.1 hj;have UD:j<l.length:=by have:=(Array.getElem?_eq_some_iff.1 ho).1;simpa using this
  have:=Qm j UD;simp[P5,UD]at this UC;rw[this]at UC;cases UC
 |succ fuel ih=>
  intro listed P5 Tj H done rest rs w tm β h hs h1 h2 h3 TP;refine⟨fun UE=>?_,fun i hi=>?_⟩
  ·exfalso;have hex:∃i,i<l.length/\listed.getD i false=false:=by
    have Q5:0<(List.range l.length).countP (fun i=>!listed.getD i false):=jB;obtain⟨i,hi,hp⟩:=List.countP_pos_iff.1 Q5;exact⟨i,List.mem_range.1 hi,by simpa using hp⟩
   obtain⟨i,⟨hi,hf⟩,Sr⟩:=exists_least hex;have ho:l[i]?=some l[i]:=List.getElem?_eq_getElem hi;have:i∈Region.ready .any l.toArray listed:=mem_ready.2 ⟨by simp[P5,hi]at hf ⊢;exact hf,l[i],by simp[hi],fun e he hb=>by
    have h4:=PW i _ ho e (by simpa using he) hb;cases hv:listed.getD e.on false with
    |true=>rfl
    |false=>have:=Sr e.on ⟨jB,hv⟩;omega⟩
   rw[UE]at this;cases this
  ·obtain⟨Su,o,ho,QR⟩:=mem_ready.1 hi;have RG:l[i]?=some o:=by simpa using ho
   have Rl:=(List.getElem?_eq_some_iff.1 RG).1;have SZ:listed.getD i false=false:=by simp[P5,Rl]at Su ⊢;exact Su
   have Q9:∀e∈o.after.toList,Region.binds .any e=true->listed.getD e.on false=true:=fun e he hb=>QR e (by simpa using he) hb
   have RH:∀k,(listed.setIfInBounds i true).getD k false=(listed.getD k false || k == i):=fun k=>by
    by_cases hk:k=i
    ·subst hk;simp[P5,Rl]
    ·simp[Array.getElem?_setIfInBounds_ne (Ne.symm hk),hk]
   have Vt:(List.range l.length).countP (fun k=>!(listed.setIfInBounds i true).getD k false)=fuel:=by
    have:∀(n:Nat),i<n->(List.range n).countP (fun k=>!(listed.setIfInBounds i true).getD k false)+1=(List.range n).countP (fun k=>!listed.getD k false):=by
     intro n;induction n with
     |zero=>intro h;omega
     |succ n ihn=>
      intro h;rw[List.range_succ,List.countP_append,List.countP_append];by_cases hn:n=i
      ·subst hn;have:(List.range n).countP (fun k=>!(listed.setIfInBounds n true).getD k false)=(List.range n).countP (fun k=>!listed.getD k false):=by
        refine List.countP_congr fun k hk=>?_
        rw[RH];have:k≠n:=by have:=List.mem_range.1 hk;omega
        simp[this]
       rw[this];simp only[List.countP_singleton,RH,SZ];simp
      ·rw[<-ihn jB];simp only[List.countP_singleton,RH];have:(n == i)=false:=by simpa using hn
       rw[this,Bool.or_false];omega
    have:=this l.length Rl;omega
   have go:∀{d' r' QJ H'} {w':NW} {Qt} {β'},Inv A E P l K F (fun k=>(listed.setIfInBounds i true).getD k false) d' r' QJ H'->aH w' H'->aY w' (FL l QJ (fun k=>(listed.setIfInBounds i true).getD k false) F l.length) Qt->Ext w0 H0 w' H'->Hid P l (fun k=>(listed.setIfInBounds i true).getD k false) d' QJ w0 w' β'->
     wpAny P .any l.toArray (gw Q w0 H0) fuel (listed.setIfInBounds i true) ⟨Qt,[]⟩ w'.toWorld:=fun{d' r' QJ H' w' Qt β'} k1 k2 k3 k4 k5=>by
    obtain⟨d2,r2,rs2,H2,w2,x1,x2,x3,x4,x5,x6,x7⟩:=settle hok hE r'.length jl k1 k2 k3 k4 k5;rw[<-x1];exact ih (listed.setIfInBounds i true) (by simpa using P5) Vt H2 d2 r2 rs2 w2 Qt β' x2 x3 x4 x5 x6 x7
   unfold wpOp;rw[ho];by_cases Sx:i ∉ done/\i∈E/\¬ ∃r,rest=i::r
   ·have:=Lf hok hE h RG SZ Sx.1 Sx.2.1 Q9 (L2:=fun k=>(listed.setIfInBounds i true).getD k false) RH h1 h2 h3 TP (Q:=gw Q w0 H0) (next:=wpAny P .any l.toArray (gw Q w0 H0) fuel (listed.setIfInBounds i true)) fun Qt w' QJ β' k1 k2 k3 k4 k5=>go k1 k2 k3 k4 k5
    exact this
   ·have WG:i∈done\/i ∉ E\/∃r,rest=i::r:=by
     by_cases a:i∈done
     ·exact .inl a
     ·by_cases b:i∈E
      ·exact .inr (.inr (Classical.byContradiction fun c=>Sx ⟨a,b,c⟩))
      ·exact .inr (.inl b)
    have Ry:=Mh hok hE h hs RG SZ Q9 (L2:=fun k=>(listed.setIfInBounds i true).getD k false) RH WG;have:=Ry w tm (gw Q w0 H0) (wpAny P .any l.toArray (gw Q w0 H0) fuel (listed.setIfInBounds i true)) h1 h2 (by rintro Qt w' F' H' ⟨d',r',QJ,k1,rfl,k2⟩ g1 g2 g3;exact go k1 g1 g2 (h3.trans g3) (k2 _ _ _ (TP.ext g3)))
    exact this
end
def yC(A:AS)(E:PK){id:Nat}(ord:PK){Q:Exit->PD}(hm:P.follows .mixedOrders=true)(hok:oQ A E l ord=true)(hE:qp P l E)(h:fV A P l.toArray (Q .normal) (ord.map (du l)) F H):dp P (.region id l.toArray true) Q F H:=fun w tm h1 h2=>by
 simp only[oQ,Bool.and_eq_true,List.all_eq_true,Bool.not_eq_true']at hok;obtain⟨⟨Vu,WH⟩,Yl⟩:=hok;have hE:zt A P l E:=⟨hE,Yl⟩;have hz:∀i,(Array.replicate l.toArray.size false).getD i false=false:=fun i=>by by_cases hi:i<l.length<;>simp[Array.getElem?_replicate,hi]
 refine wp_region_any hm ?_;have e0:∀(rs:PH) (L:PR),(∀i,L i=false)->FL l rs L F l.length=F:=fun rs L hL=>by
  have gen:∀m,FL l rs L F m=F:=by
   intro m;induction m with
   |zero=>rfl
   |succ m ih=>rw[FL,hL,if_neg jE,ih]
  exact gen _
 have hinv:Inv A E P l (Q .normal) F (fun i=>(Array.replicate l.toArray.size false).getD i false) [] ord (List.replicate l.length .any) H:=
  ⟨jE,(fun i hi=>by have:=(hz i).symm.trans hi;cases this),(fun j o _ hj=>by have:=(hz j).symm.trans hj;cases this),(fun j o _ hj=>by simp[mem]at hj),WH,
   (by rw[e0 _ _ (fun i=>by simp[mem])];exact h),(fun i hi=>by simp at hi)⟩
 obtain⟨d',r',QJ,k1,k2,k3,_⟩:=BG Vu hE ord hinv;refine NF Vu hE (fun _ _ h=>h) w l.toArray.size (Array.replicate l.toArray.size false) jE (by rw[List.countP_eq_length.2 (fun i _=>by rw[hz];rfl)];simp) H d' r' QJ (w.to w.drew) tm (fun _=>0) k1 (fun i r e=>⟨k2 i r e,hz i⟩) h1.drew (by rw[e0 _ _ hz];exact h2.ext (Ext.drew w H)) (Ext.drew w H) (fun i hi _=>by have:=(hz i).symm.trans hi;cases this)
end
variable{P:PS}{H:Hp}{id:Nat}{F:PH}{Q:Exit->PD}
def Ce(A:AS){l:List Oper}(ord:PK)(hm:P.follows .mixedOrders=true)(hok:oQ A [] l ord=true)(h:fV A P l.toArray (Q .normal) (ord.map (du l)) F H):dp P (.region id l.toArray true) Q F H:=yC A [] ord hm hok trivial h
def HH{l:List Oper}(ord:PK)(hm:P.follows .mixedOrders=true)(hok:oQ ([],[],[]) [] l ord=true)(h:fV ([],[],[]) P l.toArray (Q .normal) (ord.map (du l)) F H):dp P (.region id l.toArray true) Q F H:=Ce ([],[],[]) ord hm hok h
section
variable {P:PS}{ev:PN}{H:Hp}{ty:PM}{K:PE}
@[go_sem] def j2Q:(∀(x:Operand),fU P ev H ty K (.move x)=vc P ev H ty K (.move x))/\(∀(x:Operand),fU P ev H ty K (.assign x)=vc P ev H ty K (.assign x))/\(∀(c a b:Operand),fU P ev H ty K (.pick c a b)=vc P ev H ty K (.pick c a b))/\(∀(x:Operand),fU P ev H ty K (.nilCheck x)=vc P ev H ty K (.nilCheck x))/\(∀(t:PM) (x:Operand),fU P ev H ty K (.load t x)=vc P ev H ty K (.load t x))/\(∀(t:PM) (x:Operand) (f:Nat),fU P ev H ty K (.fieldAddr t x f)=vc P ev H ty K (.fieldAddr t x f))/\(∀(t:PM) (x:Operand) (f:Nat),fU P ev H ty K (.field t x f)=vc P ev H ty K (.field t x f))/\(∀(t:PM) (x i:Operand),fU P ev H ty K (.indexAddr t x i)=vc P ev H ty K (.indexAddr t x i))/\(∀(t:PM) (x i:Operand),fU P ev H ty K (.index t x i)=vc P ev H ty K (.index t x i))/\(∀(x:Operand) (i:Nat),fU P ev H ty K (.extract x i)=vc P ev H ty K (.extract x i))/\(∀(t:PM) (a:Operand) (lo hi mx:Option Operand),fU P ev H ty K (.slice t a lo hi mx)=vc P ev H ty K (.slice t a lo hi mx))/\(∀(t:PM) (ps:Array (Nat×Operand)),fU P ev H ty K (.build t ps)=vc P ev H ty K (.build t ps))/\(∀(as:Array Operand) (ts:Array PM),fU P ev H ty K (.call ⟨.builtin .len,as,ts⟩)=vc P ev H ty K (.call ⟨.builtin .len,as,ts⟩))/\(∀(as:Array Operand) (ts:Array PM),fU P ev H ty K (.call ⟨.builtin .min,as,ts⟩)=vc P ev H ty K (.call ⟨.builtin .min,as,ts⟩))/\(∀(t:PM) (x y:Operand) (t':PM),fU P ev H ty K (.binOp .add t x y t')=vc P ev H ty K (.binOp .add t x y t'))/\(∀(t:PM) (x y:Operand) (t':PM),fU P ev H ty K (.binOp .sub t x y t')=vc P ev H ty K (.binOp .sub t x y t')):=by and_intros<;>(intros;rfl)
@[go_sem] def j4f:(∀(t:PM) (x y:Operand) (t':PM),fU P ev H ty K (.binOp .gtr t x y t')=vc P ev H ty K (.binOp .gtr t x y t'))/\(∀(t:PM) (x y:Operand) (t':PM),fU P ev H ty K (.binOp .geq t x y t')=vc P ev H ty K (.binOp .geq t x y t')):=by and_intros<;>(intros;rfl)
@[go_sem] def j4d(t:PM)(x y:Operand)(t':PM):fU P ev H ty K (.binOp .eql t x y t')=((fw P .eql t (ev x) (ev y)).1/\K (fw P .eql t (ev x) (ev y)).2 H):=by simp[fU,nK,vq]
@[go_sem] def j4i(t:PM)(x y:Operand)(t':PM):fU P ev H ty K (.binOp .neq t x y t')=((fw P .neq t (ev x) (ev y)).1/\K (fw P .neq t (ev x) (ev y)).2 H):=by simp[fU,nK,vq]
@[go_sem] def j4c:(∀(t:PM) (x:Operand),fU P ev H ty K (.box t x)=vc P ev H ty K (.box t x))/\(∀(t:PM),fU P ev H ty K (.alloc t)=vc P ev H ty K (.alloc t))/\(∀(t:PM) (a x:Operand),fU P ev H ty K (.store t a x)=vc P ev H ty K (.store t a x))/\(∀(t:PM) (n:Nat) (ps:Array (Nat×Operand)),fU P ev H ty K (.buildSlice t n ps)=oA P t n (ps.toList.map fun p=>(p.1,ev p.2)) fun r=>K r H)/\(∀(f:Operand) (as:Array Operand) (ts:Array PM),fU P ev H ty K (.call ⟨.value f,as,ts⟩)=vc P ev H ty K (.call ⟨.value f,as,ts⟩))/\(∀(t:PM) (a x:Operand),fU P ev H ty K (.call ⟨.builtin .append,#[a,x],#[t,t]⟩)=vc P ev H ty K (.call ⟨.builtin .append,#[a,x],#[t,t]⟩)):=by and_intros<;>(intros;rfl)
end
variable{C D:PK}
@[go_sem] def j2B{ev:PN}(op:Op):iJ ([],C,D) ev op=true:=by cases op<;>first|rfl|(rename_i t x;simp only[iJ];generalize ev x=a;cases a<;>first|rfl|simp[rj])
@[go_sem] def j0q{A:AS}{ev:PN}(t:PM)(x:Operand):iJ A ev (.load t x)=rj A (ev x):=(rfl)
@[go_sem] def jyM{A:AS}{ev:PN}(t:PM)(a x:Operand):iJ A ev (.store t a x)=((A.1.isEmpty || A.2.2.contains 1000000) || BI A (ev a)):=(rfl)
@[go_sem] def jzh(A:AS)(i m k j:Nat):rj A (.pt i m k j)=(!A.1.contains i && (decide (1<=j) || !A.1.contains (i+16))):=(rfl)
@[go_sem] def jzg:(∀(A:AS) (cs:PH),rj A (.ip cs)=true)/\(∀(A:AS) (i m k j:Nat),BI A (.pt i m k j)=A.1.contains i)/\(∀{A:AS} {ev:PN} (x:Operand),iJ A ev (.move x)=true)/\(∀{A:AS} {ev:PN} (x:Operand),iJ A ev (.assign x)=true)/\(∀{A:AS} {ev:PN} (c a b:Operand),iJ A ev (.pick c a b)=true)/\(∀{A:AS} {ev:PN} (x:Operand),iJ A ev (.nilCheck x)=true)/\(∀{A:AS} {ev:PN} (op:BinOp) (t:PM) (x y:Operand) (t':PM),iJ A ev (.binOp op t x y t')=true)/\(∀{A:AS} {ev:PN} (t:PM) (x:Operand) (f:Nat),iJ A ev (.fieldAddr t x f)=true)/\(∀{A:AS} {ev:PN} (t:PM) (x:Operand) (f:Nat),iJ A ev (.field t x f)=true)/\(∀{A:AS} {ev:PN} (t:PM) (x i:Operand),iJ A ev (.indexAddr t x i)=true)/\(∀{A:AS} {ev:PN} (t:PM) (x i:Operand),iJ A ev (.index t x i)=true)/\(∀{A:AS} {ev:PN} (x:Operand) (i:Nat),iJ A ev (.extract x i)=true)/\(∀{A:AS} {ev:PN} (t:PM) (ps:Array (Nat×Operand)),iJ A ev (.build t ps)=true)/\(∀{A:AS} {ev:PN} (c:Call),iJ A ev (.call c)=true)/\(∀{A:AS} {ev:PN} (t:PM),iJ A ev (.alloc t)=true)/\(∀{A:AS} {ev:PN} (t:PM) (x:Operand),iJ A ev (.box t x)=true):=by and_intros<;>(intros;rfl)
@[go_sem] def jq7:(∀{A:AS} {ev:PN} (t:PM) (n:Nat) (ps:Array (Nat×Operand)),iJ A ev (.buildSlice t n ps)=true)/\(∀{A:AS} {P:PS} {ops:Array Oper} {K:PD} (F:PH) (H:Hp),fV A P ops K [] F H=K F H):=by and_intros<;>(intros;rfl)
variable{L:PK}{ops:Array Oper}{K:PD}
@[go_sem] def j1q(dst:Option Tmp)(op:Op)(ty:PM)(pos:String)(after:Array Edge)(rest:List Oper)(F:PH)(H:Hp) :
  fV (L,[],[]) P ops K (⟨dst,op,ty,pos,after,none⟩::rest) F H=(iJ (L,[],[]) (bV F) op=true/\fU P (bV F) H ty (AP (fun r H'=>fV (L,[],[]) P ops K rest (cn F dst r) H') .mk) op):=by
 have e:sG (L,[],[]) ⟨dst,op,ty,pos,after,none⟩=false:=by cases dst<;>rfl
 have e':n6 (L,[],[]) ⟨dst,op,ty,pos,after,none⟩=false:=by cases dst<;>rfl
 unfold fV;rw[show(⟨dst,op,ty,pos,after,none⟩:Oper).guard=none from rfl];simp only[e,e'];rfl
@[go_sem] def jy6(op:Op)(ty:PM)(pos:String)(after:Array Edge)(rest:List Oper)(F:PH)(H:Hp) :
  fV (L,C,D) P ops K (⟨none,op,ty,pos,after,none⟩::rest) F H=(iJ (L,C,D) (bV F) op=true/\fU P (bV F) H ty (AP (fun r H'=>fV (L,C,D) P ops K rest (cn F none r) H') .mk) op):=(rfl)
@[go_sem] def jy4{c t:Nat}(op:Op)(ty:PM)(pos:String)(after:Array Edge)(rest:List Oper)(F:PH)(H:Hp) :
  fV (L,c::C,D) P ops K (⟨some t,op,ty,pos,after,none⟩::rest) F H=pQ ((c::C).contains t) (Bh P (bV F) H (wm (fun r=>fV (L,c::C,D) P ops K rest (cn F (some t) r) H) .mk) op)
   (pQ (D.contains t) (se P (L,c::C,D) (bV F) H (AP (fun r H'=>fV (L,c::C,D) P ops K rest (cn F (some t) r) H') .mk) op) (iJ (L,c::C,D) (bV F) op=true/\fU P (bV F) H ty (AP (fun r H'=>fV (L,c::C,D) P ops K rest (cn F (some t) r) H') .mk) op) .mk .mk) .mk .mk:=(rfl)
@[go_sem] def jy5{c t:Nat}(op:Op)(ty:PM)(pos:String)(after:Array Edge)(rest:List Oper)(F:PH)(H:Hp) :
  fV (L,[],c::D) P ops K (⟨some t,op,ty,pos,after,none⟩::rest) F H=pQ ((c::D).contains t) (se P (L,[],c::D) (bV F) H (AP (fun r H'=>fV (L,[],c::D) P ops K rest (cn F (some t) r) H') .mk) op)
   (iJ (L,[],c::D) (bV F) op=true/\fU P (bV F) H ty (AP (fun r H'=>fV (L,[],c::D) P ops K rest (cn F (some t) r) H') .mk) op) .mk .mk:=(rfl)
@[go_sem] def j2S:(∀{P:PS} {A:AS} {ev:PN} {H:Hp} {K:PE} (f:Operand) (as:Array Operand) (ts:Array PM),se P A ev H K (.call ⟨.value f,as,ts⟩)=fh P (ev f) (as.toList.map ev) H (AP (fun r H'=>df A H H'/\K r H') .mk))/\(∀{P:PS} {ev:PN} {H:Hp} {K:AV->Prop} (f:Operand) (as:Array Operand) (ts:Array PM),Bh P ev H K (.call ⟨.value f,as,ts⟩)=∃r,(fh P (ev f) (as.toList.map ev) H fun r' H'=>r'=r/\H'=H)/\K r):=by and_intros<;>(intros;rfl)
def tx(b:Bool)(X Y:Prop)(_:gq X)(_:gq Y):Prop:=(b=true->X)/\(b=false->Y)
@[go_sem] def j2M(X Y:Prop)(d:gq X)(e:gq Y):tx true X Y d e=X:=by unfold tx;simp
@[go_sem] def j1d(X Y:Prop)(d:gq X)(e:gq Y):tx false X Y d e=Y:=by unfold tx;simp
@[go_sem] def jy7(dst:Option Tmp)(op:Op)(ty:PM)(pos:String)(after:Array Edge)(j:Nat)(want:Bool)(rest:List Oper)(F:PH)(H:Hp) :
  fV (L,C,[]) P ops K (⟨dst,op,ty,pos,after,some (j,want)⟩::rest) F H=tD (lW ops F j want) (fun b=>(ku op || ij op)=true/\eF P F H b (wm (fun r=>fV (L,C,[]) P ops K rest (cn F dst r) H) .mk) op) .mk:=by
 have e:pd (L,C,[]) ⟨dst,op,ty,pos,after,some (j,want)⟩=false:=by unfold pd n6;cases dst<;>simp
 unfold tD;conv=>lhs;unfold fV
 simp only[e];rfl
def qY(F:PH):List Operand->Prop
 |[]=>True
 |x::l=>(lc (bV F x)).1=true/\qY F l
theorem BO(F:PH):∀l:List Operand,((l.all fun x=>(lc (bV F x)).1)=true)=qY F l
 |[]=>by simp[qY]
 |x::l=>by have:=BO F l;simp only[List.all_cons,Bool.and_eq_true,qY,this]
def Pn(F:PH)(f:Operand)(as:Array Operand)(ts:Array PM):(gr F (.call ⟨.value f,as,ts⟩)=true)=((lc (bV F f)).1=true/\qY F as.toList):=by rw[<-BO];unfold gr;simp[Op.operands,Call.operands]
attribute [go_sem] qY
attribute [go_sem] du oA qp
universe u
def aK:Nat->Nat->PK
 |_,0=>[]
 |k,n+1=>k::aK (k+1) n
variable{q:Prop}
def db(e:q:=by first|(simp(disch:=first|omega|assumption|fail) only[go_sem,rk,W,↓reduceIte,Int.reduceEq,Int.reduceLE,Int.reduceLT,Int.reduceNe,Int.reduceToNat,Nat.reduceMul,Nat.reduceAdd,Nat.reduceLeDiff,Nat.reduceSub,Nat.reduceEqDiff,Nat.reduceBEq,List.nodup_cons,List.nodup_nil,List.mem_cons,List.not_mem_nil,List.mem_nil_iff];done)|(simp(disch:=first|omega|assumption|fail) only[go_sem,rk,↓reduceIte,Int.reduceEq,Int.reduceLE,Int.reduceLT,Int.reduceNe,Int.reduceToNat,Nat.reduceMul,Nat.reduceAdd,Nat.reduceLeDiff,Nat.reduceSub,Nat.reduceEqDiff,Nat.reduceBEq,List.nodup_cons,List.nodup_nil,List.mem_cons,List.not_mem_nil,List.mem_nil_iff];done)|fail):q:=e
def eu(e:q:=by first|(simp(disch:=first|omega|assumption|fail) only[go_sem,rk,W,↓reduceIte,Int.reduceEq,Int.reduceLE,Int.reduceLT,Int.reduceNe,Int.reduceToNat,Nat.reduceMul,Nat.reduceAdd,Nat.reduceLeDiff,Nat.reduceSub,Nat.reduceEqDiff,Nat.reduceBEq,List.nodup_cons,List.nodup_nil,List.mem_cons,List.not_mem_nil,List.mem_nil_iff];rfl)|(simp(disch:=first|omega|assumption|fail) only[go_sem,rk,↓reduceIte,Int.reduceEq,Int.reduceLE,Int.reduceLT,Int.reduceNe,Int.reduceToNat,Nat.reduceMul,Nat.reduceAdd,Nat.reduceLeDiff,Nat.reduceSub,Nat.reduceEqDiff,Nat.reduceBEq,List.nodup_cons,List.nodup_nil,List.mem_cons,List.not_mem_nil,List.mem_nil_iff];rfl)|rfl|fail):q:=e
def Kk(e:q:=by first|(simp(disch:=first|omega|assumption|fail) only[go_sem,rk,W,↓reduceIte,Int.reduceEq,Int.reduceLE,Int.reduceLT,Int.reduceNe,Int.reduceToNat,Nat.reduceMul,Nat.reduceAdd,Nat.reduceLeDiff,Nat.reduceSub,Nat.reduceEqDiff,Nat.reduceBEq,List.nodup_cons,List.nodup_nil,List.mem_cons,List.not_mem_nil,List.mem_nil_iff];rfl)|(simp(disch:=first|omega|assumption|fail) only[go_sem,rk,↓reduceIte,Int.reduceEq,Int.reduceLE,Int.reduceLT,Int.reduceNe,Int.reduceToNat,Nat.reduceMul,Nat.reduceAdd,Nat.reduceLeDiff,Nat.reduceSub,Nat.reduceEqDiff,Nat.reduceBEq,List.nodup_cons,List.nodup_nil,List.mem_cons,List.not_mem_nil,List.mem_nil_iff];rfl)|fail):q:=e
def zT(e:q:=by first|(exact tp)|rfl|fail):q:=e
variable{α:Type}
@[go_sem] def ju8[Inhabited α](f:α->PH)(a:List α)(b:PF)(k:Nat)(h:k<a.length):(a.map f++b).getD k []=f (nth a k):=by rw[dT h,List.getD_eq_getElem?_getD,List.getElem?_append_left (by simpa using h)];simp[h]
attribute [go_sem] List.isEmpty_nil
@[congr] theorem jzl{c:Code}{F':PH}{H':Hp}(h1:F=F')(h2:H=H'):dp P c Q F H=dp P c Q F' H':=by rw[h1,h2]
def ma(p q:Prop):Prop:=q->p
section
variable {P:PS}{Q:Exit->PD}{F:PH}{H:Hp}
variable{id:Nat}{q:Prop}
def Hm{l:List Oper}(e:kD P l.toArray (Q .normal) l F H=q):ma (dp P (.region id l.toArray false) Q F H) q:=fun h=>KM (e ▸ h)
def OA{c:Code}:ma (dp P (.block id c) Q F H) (dp P c (rC id Q) F H):=JJ
def K8(e:Q .normal F H=q):ma (dp P .skip Q F H) q:=fun h=>He (e ▸ h)
def Jh(e:Q (.exit id) F H=q):ma (dp P (.exit id) Q F H) q:=fun h=>Pa (e ▸ h)
def HC(e:Q .ret F H=q):ma (dp P .ret Q F H) q:=fun h=>LP (e ▸ h)
end
section
variable {P:PS}{H:Hp}{K:PE}
variable{t:PM}{q:Prop}
def IS{zs:PQ}(hz:dY P t=some zs)(e:K (.pt (nx H.l) 0 0 0) (H.put (nx H.l) (.var t (zs.map .raw)))=q):ma (nb P H t K) q:=fun h=>Ov hz (e ▸ h)
def IK{x:AV}(ho:cM x.cells=true)(e:K (.pt (nx H.l) 0 0 0) (H.put (nx H.l) (.var t x.cells))=q):ma (p6 H t x K) q:=fun h=>LO ho (e ▸ h)
def H6{A:Nat->Prop}{d:gq A}(e:A (nx H.l)=q):ma (tN H A d) q:=fun h=>Pw (e ▸ h)
def Px{sz:Nat}(h0:0<sz)(e:K (.rs (nx H.l) 0 sz 0) (H.put (nx H.l) (.aE t sz []))=q):ma (qo t sz [] H K) q:=fun h=>HW h0 (e ▸ h)
def MU{sz:Nat}{css:PF}(h1:aS dq css.flatten=true)(e:K (.sl true sz css []) H=q):ma (qo t sz css H K) q:=fun h=>Ou h1 (e ▸ h)
def OV{a x:AV}(e:we P t a x H K=q):ma (pj P t t a x H K) q:=fun h=>Er (e ▸ h)
def HA{d:gq K}{r:AV}(e:K r H=q):ma (AP K d r H) q:=fun h=>Kt (e ▸ h)
def MJ{a b:Prop}(h:a):ma (a/\b) b:=fun k=>⟨h,k⟩
end
variable{p:Prop}
def az(h:q)(e:ma p q:=by first
 |((with_reducible apply Hm);exact eu)
 |with_reducible exact OA
 |((with_reducible apply Jh);exact zT)
 |((with_reducible apply HC);exact zT)
 |((with_reducible apply K8);exact zT)
 |fail):p:=e h
def ay(h:q)(e:ma p q:=by first
 |((with_reducible apply OV);exact eu)
 |((with_reducible apply HA);exact eu)
 |((with_reducible apply Px);(focus (exact db));exact eu)
 |((with_reducible apply MU);(focus (simp only[go_sem]));exact eu)
 |((with_reducible apply IS);(focus (simp only[go_sem];rfl));exact eu)
 |((with_reducible apply IK);(focus (simp only[go_sem]));exact eu)
 |((with_reducible apply H6);exact eu)
 |((with_reducible apply MJ);first|omega|(simp +contextual;done)|(simp +contextual;intros;omega)|fail)
 |fail):p:=e h
def S(h:q)(e:p=q:=by exact Kk):p:=e ▸ h
def Sd(e:p=True:=by exact db):p:=of_eq_true e
def aw{c:Operand}{x y:Code}{b:Bool}{pt pf:Prop}(ht:pt->dp P x Q F H)(hf:pf->dp P y Q F H)(hc:bV F c=.raw (.bool b):=by rfl)
 (et:(b=true)=pt:=by first|(simp only[Int.reduceEq,Int.reduceLE,Int.reduceLT,Int.reduceNe,false_and,and_false,true_and,and_true,or_false,false_or,true_or,or_true,Bool.false_eq_true,Bool.true_eq_false,eq_self,reduceCtorEq,Bool.not_true,Bool.not_false,Bool.and_eq_true,Bool.or_eq_true,Bool.and_eq_false_iff,Bool.or_eq_false_iff,decide_eq_true_eq,decide_eq_false_iff_not,Bool.not_eq_true',Bool.not_eq_false',Int.not_lt,Int.not_le];rfl)|rfl) (ef:(b=false)=pf:=by first|(simp only[Int.reduceEq,Int.reduceLE,Int.reduceLT,Int.reduceNe,false_and,and_false,true_and,and_true,or_false,false_or,true_or,or_true,Bool.false_eq_true,Bool.true_eq_false,eq_self,reduceCtorEq,Bool.not_true,Bool.not_false,Bool.and_eq_true,Bool.or_eq_true,Bool.and_eq_false_iff,Bool.or_eq_false_iff,decide_eq_true_eq,decide_eq_false_iff_not,Bool.not_eq_true',Bool.not_eq_false',Int.not_lt,Int.not_le];rfl)|rfl):dp P (.cond c x y) Q F H:=Jk hc (fun h=>ht (et ▸ h)) (fun h=>hf (ef ▸ h))
section
variable {P:PS}{f:FuncId}{args:PH}{H:Hp}{K:PE}{q:Prop}
variable{r0:AV}
def cm{l l0:PG}(hc:ai P f args l fun r l'=>r=r0/\l'=l0)(k:q)(h1:fits l H:=by exact db)(h0:bo P f=true:=by exact db)(h2:aS (fun i=>(ids l).contains i) args=true:=by exact db)(h3:qU (fun i=>(ids l).contains i) l:=by exact db)
 (h4:fresh (ids l) H l0:=by exact db) (h5:(ids l0).Nodup:=by exact db) (e:K r0 ⟨H.B,fp H.l l0⟩=q:=by exact eu):fh P (.raw (.func (.func f) #[] #[])) args H K:=nB h0 (vu hc h1 h2 h3 h4 h5 (e ▸ k))
def cp(hc:dO P f args r0)(k:q)(h0:bo P f=true:=by exact db)(h2:aS dq args=true:=by exact db)(e:K r0 H=q:=by exact eu):fh P (.raw (.func (.func f) #[] #[])) args H K:=nB h0 (xe hc h2 (e ▸ k))
def cg{g:Prop}{R:AV->Prop}{A:Prop}(hc:dO P f args r0)(k:q)(h0:bo P f=true:=by exact db)(h2:aS dq args=true:=by exact db)(hA:g->A:=by first|exact id|(intro _;exact jI)|fail)(e:R r0=q:=by exact eu) :
  ∃r,(g->A/\fh P (.raw (.func (.func f) #[] #[])) args H fun r' H'=>r'=r/\H'=H)/\R r:=⟨r0,fun hg=>⟨hA hg,nB h0 (xe hc h2 ⟨rfl,rfl⟩)⟩,e ▸ k⟩
def xk{g:Prop}{R:AV->Prop}(hc:dO P f args r0)(k:q)(h0:bo P f=true:=by exact db)(h2:aS dq args=true:=by exact db)(e:R r0=q:=by exact eu) :
  ∃r,(g->fh P (.raw (.func (.func f) #[] #[])) args H fun r' H'=>r'=r/\H'=H)/\R r:=⟨r0,fun _=>nB h0 (xe hc h2 ⟨rfl,rfl⟩),e ▸ k⟩
end
def cU.perm{B:PK}{l:PG}(l':PG)(h:∀i,ak l i=ak l' i):cU F ⟨B,l⟩ F ⟨B,l'⟩:=fun w tm h1 h2=>by
 have hg:∀i,(Hp.mk B l').get i=(Hp.mk B l).get i:=fun i=>(h i).symm
 exact⟨w,rfl,{ rows:=fun i r hi=>h1.rows i r ((hg i) ▸ hi),dr:=fun i m z hz=>by rw[hg];exact h1.dr i m z hz,inj:=h1.inj,own:=h1.own,fin:=h1.fin,ca:=h1.ca },h2,{ ExtQ.refl _ w with base:=rfl }⟩
variable{t:PM}{K:PE}
def al(i:Nat){zs:PQ}(k:q)(hi:H.get i=none:=by rfl)(hz:dY P t=some zs:=by(simp only[go_sem];rfl))(e:K (.pt i 0 0 0) (H.put i (.var t (zs.map .raw)))=q:=by exact eu):nb P H t K:=wP i hz hi (e ▸ k)
def bx(i:Nat){x:AV}(k:q)(hi:H.get i=none:=by rfl)(ho:cM x.cells=true:=by simp only[go_sem])(e:K (.pt i 0 0 0) (H.put i (.var t x.cells))=q:=by exact eu):p6 H t x K:=x9 i ho hi (e ▸ k)
def ou{enc:α->PH}(vars more ys:List α){i:Nat}{m sz n:Nat}{css yss:PF}(k:q)(hm:m=vars.length+more.length:=by first|rfl|(simp only[go_sem];done)|omega)(hn:n=vars.length:=by rfl)(hc:css=(vars++more).map enc:=by first|rfl|exact List.map_append.symm|(simp only[go_sem,List.map_append];done))(hy:yss=ys.map enc:=by rfl)
 (e:K (.rs i (vars.length+ys.length+(more.drop ys.length).length) sz (vars.length+ys.length)) (H.put i (.aE t sz ((vars++ys++more.drop ys.length).map enc)))=q:=by exact eu):sn i t m sz n css yss H K:=MW vars more ys hm hn hc hy (e ▸ k)
section
variable {P:PS}{Q:Exit->PD}{F:PH}{H:Hp}
def gR{P:PS}{Q:Exit->PD}{F:PH}{H:Hp}(id:Nat){l:Array Oper}{b:Bool}(h:dp P (.region id l b) Q F H):dp P (.region id l b) Q F H:=h
variable{l:List Oper}{q:Prop}
def dE(id:Nat)(ord:PK)(hm:P.follows .mixedOrders=true)(h:q)(hok:oQ ([],[],[]) [] l ord=true:=by decide +kernel)(e:fV ([],[],[]) P l.toArray (Q .normal) (ord.map (du l)) F H=q:=by(simp only[aK,List.map_cons,List.map_nil,du,List.getD_cons_zero,List.getD_cons_succ];exact eu)):dp P (.region id l.toArray true) Q F H:=HH ord hm hok (e ▸ h)
def dA(id:Nat)(A ord:PK)(hm:P.follows .mixedOrders=true)(h:q)(hok:oQ (A,[],[]) [] l ord=true:=by decide +kernel)(e:fV (A,[],[]) P l.toArray (Q .normal) (ord.map (du l)) F H=q:=by(simp only[aK,List.map_cons,List.map_nil,du,List.getD_cons_zero,List.getD_cons_succ];exact eu)):dp P (.region id l.toArray true) Q F H:=Ce (A,[],[]) ord hm hok (e ▸ h)
def dC(id:Nat)(A:AS)(E ord:PK)(hm:P.follows .mixedOrders=true)(h:q)(hok:oQ A E l ord=true:=by decide +kernel)(hE:qp P l E:=by simp only[qp,du,List.getD_cons_zero,List.getD_cons_succ,go_sem])(e:fV A P l.toArray (Q .normal) (ord.map (du l)) F H=q:=by(simp only[aK,List.map_cons,List.map_nil,du,List.getD_cons_zero,List.getD_cons_succ];exact eu)):dp P (.region id l.toArray true) Q F H:=yC A E ord hm hok hE (e ▸ h)
def dQ(id:Nat)(hm:P.follows .mixedOrders=true)(h:q)(hok:tg l=true:=by decide +kernel)(e:po P l.toArray H (fun F'=>Q .normal F' H) l F=q:=by exact eu):dp P (.region id l.toArray true) Q F H:=KC hm hok (e ▸ h)
def Gj{c:Code}(L:PK)(slot:Nat)(a:AV)(hB:H.B.all (fi fun i=>L.contains i)=true)(hl:gJ (fun i=>L.contains i) H.l)(hv:bT (fun i=>L.contains i) H F (F.set slot a))(h:dp P c Q (F.set slot a) ⟨H.B,er (fun i=>L.contains i) H.l⟩):dp P c Q F H:=gT (cU.free _ hB hl hv) h
def Jn{c:Code}(L:PK)(W:List (Nat×Nat))(J:List (Nat×AV))(h0:(L.any fun i=>(H.get i).isSome)=true)(hB:H.B.all (fi fun i=>L.contains i)=true)(hl:gJ (fun i=>L.contains i) H.l)(hv:bT (fun i=>L.contains i) H F (mm J (l8 W F)))(h:dp P c Q (mm J (l8 W F)) ⟨H.B,er (fun i=>L.contains i) H.l⟩):dp P c Q F H:=gT (cU.free _ hB hl hv) h
end
def iQ{H':Hp}(e:H=H':=by first|(simp only[go_sem];done)|(simp only[go_sem];rfl)|rfl|fail):H=H':=e
def cc{F':PH}(e:jm F F':=by(simp only[go_sem,jm,Nat.reduceAdd,AV.raw.injEq,Value.int.injEq,Value.slice.injEq,Value.pointer.injEq,AV.rs.injEq];try omega)):jm F F':=e
def j6{D:PR}{l m:PH}(e:bT D H l m:=by(simp only[go_sem,↓reduceIte,Int.reduceEq,Int.reduceLE,Int.reduceLT,Int.reduceNe,Int.reduceToNat,Nat.reduceMul,Nat.reduceAdd,Nat.reduceLeDiff,Nat.reduceSub,Nat.reduceEqDiff,Nat.reduceBEq,List.nodup_cons,List.nodup_nil,List.mem_cons,List.not_mem_nil,List.mem_nil_iff];repeat' (first|exact jI|exact Ib _|exact dz.nil _ _|exact dz.lit _ _ _ _ _|exact dz.same _ rfl|(exact dz.same _ (by exact ux))|(exact dz.row _ (by first|rfl|(exact ux)) (by first|(exact ux)|rfl|(exact tp)) (by first|rfl|(simp only[go_sem];done)|omega))|refine jA ?_ ?_|fail))):bT D H l m:=e
def C7{l:List Oper}{b:Bool}(L:PK)(W:List (Nat×Nat))(J:List (Nat×AV))(h:q)(h0:(L.any fun i=>(H.get i).isSome)=true:=by rfl)(hB:H.B.all (fi fun i=>L.contains i)=true:=by exact db)(hl:gJ (fun i=>L.contains i) H.l:=by exact db)
 (hv:bT (fun i=>L.contains i) H F (mm J (l8 W F)):=by exact j6) (e:dp P (.region id l.toArray b) Q (mm J (l8 W F)) ⟨H.B,er (fun i=>L.contains i) H.l⟩=q:=by exact eu):dp P (.region id l.toArray b) Q F H:=Jn L W J h0 hB hl hv (e ▸ h)
def fg{f:FuncId}{fn:Func}{c:Code}{args:PH}{r:AV}{k:Nat}(hf:P.funcs[f]?=some fn)(hn:fn.ntmps=k)(h:dp P c (j9 P fn fun r' l'=>r'=r/\l'=[]) F ⟨[],[]⟩)(hb:fn.body=some c:=by rfl)
 (hF:args++List.replicate (k-args.length) .any=F:=by(simp only[List.length_cons,List.length_nil,Nat.reduceAdd,Nat.reduceSub,List.replicate,List.cons_append,List.nil_append];rfl)):dO P f args r:=Ig hf hb (by rw[hn];exact hF) h
def aQ{f:FuncId}{fn:Func}{c:Code}{args:PH}{l:PG}{R:AV->List PU->Prop}{k:Nat}(hf:P.funcs[f]?=some fn)(hn:fn.ntmps=k)(h:dp P c (j9 P fn R) F ⟨L,l⟩)(hb:fn.body=some c:=by rfl)(hL:ids l=L:=by rfl)
 (hF:args++List.replicate (k-args.length) .any=F:=by(simp only[List.length_cons,List.length_nil,Nat.reduceAdd,Nat.reduceSub,List.replicate,List.cons_append,List.nil_append];rfl)):ai P f args l R:=KN hf hb (by rw[hn];exact hF) hL h
section
variable {P:PS}{fn:Func}{F:PH}{H:Hp}{out:PH}{e:Exit}{r:AV}{l:PG}
def bQ(rs:List ResultVar)(h1:jd out=r)(h2:H.l=l)(RF:fn.results.toList=rs:=by rfl)(he:e=.normal\/e=.ret:=by first|exact Or.inr rfl|exact Or.inl rfl|fail)(ho:iB P H F rs=some out:=by(exact tp))(hok:ju P H F rs:=by exact ux) :
  j9 P fn (fun r' l'=>r'=r/\l'=l) e F H:=J9 rs RF he ho hok h1 h2
def bA(rs:List ResultVar)(hv:jd out=r)(RF:fn.results.toList=rs:=by rfl)(he:e=.normal\/e=.ret:=by first|exact Or.inr rfl|exact Or.inl rfl|fail)(ho:iB P H F rs=some out:=by(exact tp))(hok:ju P H F rs:=by exact ux)(hl:gJ (lO H.B) H.l:=by exact db)
 (hq:(jd out).all (fi (lO H.B))=true:=by exact db) (h2:er (lO H.B) H.l=l:=by first|rfl|(exact db)|(exact tp)|fail):j9 P fn (fun r' l'=>r'=r/\l'=l) e F H:=C3 rs RF he ho hok hl (xI hv hq) h2
def lE(rs:List ResultVar)(hv:dz (lO H.B) H (jd out) r)(RF:fn.results.toList=rs:=by rfl)(he:e=.normal\/e=.ret:=by first|exact Or.inr rfl|exact Or.inl rfl|fail)(ho:iB P H F rs=some out:=by(exact tp))(hok:ju P H F rs:=by exact ux)(hl:gJ (lO H.B) H.l:=by exact db)
 (h2:er (lO H.B) H.l=l:=by first|rfl|(exact db)|(exact tp)|fail):j9 P fn (fun r' l'=>r'=r/\l'=l) e F H:=C3 rs RF he ho hok hl hv h2
end
@[go_sem] def jw6(enc:α->PH)(l:List α)(k:Nat)(x:α):(l.map enc).set k (enc x)=(l.set k x).map enc:=List.map_set.symm
attribute [go_sem] List.length_set
def eI(x:Int):PH:=[.raw (.int .i64 x)]
instance:bD eI 1:=⟨fun _=>rfl,fun _=>rfl,fun _=>rfl⟩
@[go_sem] def j5Z:(∀(x:Int),(eI x).length=1)/\(∀(x:Int),(eI x).getD 0 .any=.raw (.int .i64 x))/\(∀(x:Int),(eI x).drop 1=[]):=by and_intros<;>(intros;rfl)
@[go_sem] def j50(l:PJ)(k:Nat)(x:Int):(l.map eI).set k [.raw (.int .i64 x)]=(l.set k x).map eI:=(List.map_set (f:=eI)).symm
def eS(x:PL):PH:=[.raw (.string x)]
instance:bD eS 1:=⟨fun _=>rfl,fun _=>rfl,fun _=>rfl⟩
@[go_sem] def j52:(∀(x:PL),(eS x).length=1)/\(∀(x:PL),(eS x).getD 0 .any=.raw (.string x)):=by and_intros<;>(intros;rfl)
def eB(x:Bool):PH:=[.raw (.bool x)]
instance:bD eB 1:=⟨fun _=>rfl,fun _=>rfl,fun _=>rfl⟩
def eU(x:Int):PH:=[.raw (.int .u8 x)]
instance:bD eU 1:=⟨fun _=>rfl,fun _=>rfl,fun _=>rfl⟩
def mS(x:PJ):PH:=[aX eI 1 x]
instance:bD mS 1:=⟨fun _=>rfl,fun _=>rfl,fun _=>rfl⟩
@[go_sem] def j3f:(∀(x:PJ),(mS x).length=1)/\(∀(x:PJ),(mS x).getD 0 .any=aX eI 1 x):=by and_intros<;>(intros;rfl)
structure bY where
 kind:Int
 text:ByteArray
 at_:Int
 deriving Inhabited,DecidableEq
def lw(x:bY):PH:=[.raw (.int .i64 x.kind),.raw (.string x.text),.raw (.int .i64 x.at_)]
section
variable (x y:bY)
@[go_sem] def jwr:((lw x).length=3)/\((lw x).all AV.one=true):=by and_intros<;>(intros;rfl)
@[go_sem] def Nu(q:PR):aS q (lw x)=true:=by simp[lw,aS,AV.all]
instance:bD lw 3:=⟨fun _=>rfl,fun _=>rfl,fun x=>Nu x _⟩
@[go_sem] def ju2:((lw x).take 3=lw x)/\((lw x).getD 0 .any=.raw (.int .i64 x.kind))/\((lw x).getD 1 .any=.raw (.string x.text))/\((lw x).getD 2 .any=.raw (.int .i64 x.at_)):=by and_intros<;>(intros;rfl)
end
structure bg where
 kind:Int
 cu:Int
 n:Int
 name:ByteArray
 l:List Int
 deriving Inhabited,DecidableEq
def eG(x:bg):PH:=[.raw (.int .i64 x.kind),.raw (.int .i64 x.cu),.raw (.int .i64 x.n),.raw (.string x.name),aX eI 1 x.l]
section
variable (x y:bg)
@[go_sem] def jyi:((eG x).length=5)/\((eG x).all AV.one=true):=by and_intros<;>(intros;rfl)
@[go_sem] def Ic(q:PR):aS q (eG x)=true:=by simp[eG,aS,AV.all]
instance:bD eG 5:=⟨fun _=>rfl,fun _=>rfl,fun x=>Ic x _⟩
@[go_sem] def jwj:((eG x).take 5=eG x)/\((eG x).getD 0 .any=.raw (.int .i64 x.kind))/\((eG x).getD 1 .any=.raw (.int .i64 x.cu))/\((eG x).getD 2 .any=.raw (.int .i64 x.n))/\((eG x).getD 3 .any=.raw (.string x.name))/\((eG x).getD 4 .any=aX eI 1 x.l):=by and_intros<;>(intros;rfl)
end
structure aj where
 ty:Int
 n:Int
 s:ByteArray
 deriving Inhabited,DecidableEq
def bG(x:aj):PH:=[.raw (.int .i64 x.ty),.raw (.int .i64 x.n),.raw (.string x.s)]
section
variable (x y:aj)
@[go_sem] def jwu:((bG x).length=3)/\((bG x).all AV.one=true):=by and_intros<;>(intros;rfl)
@[go_sem] def NA(q:PR):aS q (bG x)=true:=by simp[bG,aS,AV.all]
instance:bD bG 3:=⟨fun _=>rfl,fun _=>rfl,fun x=>NA x _⟩
@[go_sem] def ju4:((bG x).take 3=bG x)/\((bG x).getD 0 .any=.raw (.int .i64 x.ty))/\((bG x).getD 1 .any=.raw (.int .i64 x.n))/\(∀(v:Int),List.take 1 (bG x)++[.raw (.int .i64 v)]++List.drop 2 (bG x)=bG { x with n:=v })/\((bG x).getD 2 .any=.raw (.string x.s))/\((bG x).map iX=[some (.int .i64),some (.int .i64),some .str]):=by and_intros<;>(intros;rfl)
@[go_sem] def jyw:iG (bG x) (bG y)=decide (x=y):=by rw[Bool.eq_iff_iff];obtain⟨a7,a8,a9⟩:=x;obtain⟨b10,b11,b12⟩:=y;simp[bG,iG]
end
structure ce where
 name:ByteArray
 ty:Int
 deriving Inhabited,DecidableEq
def nz(x:ce):PH:=[.raw (.string x.name),.raw (.int .i64 x.ty)]
section
variable (x y:ce)
@[go_sem] def jwk:(nz x).length=2:=(rfl)
@[go_sem] def MZ(q:PR):aS q (nz x)=true:=by simp[nz,aS,AV.all]
instance:bD nz 2:=⟨fun _=>rfl,fun _=>rfl,fun x=>MZ x _⟩
@[go_sem] def jyj:((nz x).getD 0 .any=.raw (.string x.name))/\((nz x).getD 1 .any=.raw (.int .i64 x.ty)):=by and_intros<;>(intros;rfl)
end
structure aU where
 name:ByteArray
 cu:Int
 params:List ce
 ret:Int
 body:Int
 deriving Inhabited,DecidableEq
def fZ(x:aU):PH:=[.raw (.string x.name),.raw (.int .i64 x.cu),aX nz 2 x.params,.raw (.int .i64 x.ret),.raw (.int .i64 x.body)]
section
variable (x y:aU)
@[go_sem] def jyc:((fZ x).length=5)/\((fZ x).all AV.one=true):=by and_intros<;>(intros;rfl)
@[go_sem] def G7(q:PR):aS q (fZ x)=true:=by simp[fZ,aS,AV.all]
instance:bD fZ 5:=⟨fun _=>rfl,fun _=>rfl,fun x=>G7 x _⟩
@[go_sem] def jwg:((fZ x).take 5=fZ x)/\((fZ x).getD 0 .any=.raw (.string x.name))/\((fZ x).getD 2 .any=aX nz 2 x.params)/\((fZ x).getD 3 .any=.raw (.int .i64 x.ret))/\((fZ x).getD 4 .any=.raw (.int .i64 x.body)):=by and_intros<;>(intros;rfl)
end
structure aF where
 nodes:List bg
 au:List aU
 deriving Inhabited,DecidableEq
def kM(x:aF):PH:=[aX eG 5 x.nodes,aX fZ 5 x.au]
section
variable (x y:aF)
@[go_sem] def jyv:((kM x).length=2)/\((kM x).all AV.one=true):=by and_intros<;>(intros;rfl)
@[go_sem] def HE(q:PR):aS q (kM x)=true:=by simp[kM,aS,AV.all]
instance:bD kM 2:=⟨fun _=>rfl,fun _=>rfl,fun x=>HE x _⟩
@[go_sem] def jwt:((kM x).take 2=kM x)/\((kM x).getD 0 .any=aX eG 5 x.nodes)/\((kM x).getD 1 .any=aX fZ 5 x.au):=by and_intros<;>(intros;rfl)
end
structure fq where
 name:ByteArray
 ty:Int
 slot:Int
 deriving Inhabited,DecidableEq
def q9(x:fq):PH:=[.raw (.string x.name),.raw (.int .i64 x.ty),.raw (.int .i64 x.slot)]
section
variable (x y:fq)
@[go_sem] def jzV:(q9 x).length=3:=(rfl)
@[go_sem] def L9(q:PR):aS q (q9 x)=true:=by simp[q9,aS,AV.all]
instance:bD q9 3:=⟨fun _=>rfl,fun _=>rfl,fun x=>L9 x _⟩
@[go_sem] def j1F:((q9 x).getD 0 .any=.raw (.string x.name))/\((q9 x).getD 1 .any=.raw (.int .i64 x.ty))/\((q9 x).getD 2 .any=.raw (.int .i64 x.slot)):=by and_intros<;>(intros;rfl)
end
structure ab where
 aa:aF
 types:List Int
 slots:List Int
 fn:List Int
 size:List Int
 deriving Inhabited,DecidableEq
def fD(x:ab):PH:=[aX eG 5 x.aa.nodes,aX fZ 5 x.aa.au,aX eI 1 x.types,aX eI 1 x.slots,aX eI 1 x.fn,aX eI 1 x.size]
section
variable (x y:ab)
@[go_sem] def jyl:((fD x).length=6)/\((fD x).all AV.one=true):=by and_intros<;>(intros;rfl)
@[go_sem] def Np(q:PR):aS q (fD x)=true:=by simp[fD,aS,AV.all]
instance:bD fD 6:=⟨fun _=>rfl,fun _=>rfl,fun x=>Np x _⟩
@[go_sem] def jwm:(fD x).take 6=fD x:=(rfl)
end
structure dN where
 block:Int
 at_:Int
 deriving Inhabited,DecidableEq
def pT(x:dN):PH:=[.raw (.int .i64 x.block),.raw (.int .i64 x.at_)]
section
variable (x y:dN)
@[go_sem] def MR(q:PR):aS q (pT x)=true:=by simp[pT,aS,AV.all]
instance:bD pT 2:=⟨fun _=>rfl,fun _=>rfl,fun x=>MR x _⟩
end
structure bu where
 fn:Int
 slots:List aj
 path:List dN
 deriving Inhabited,DecidableEq
def uA(x:bu):PH:=[.raw (.int .i64 x.fn),aX bG 3 x.slots,aX pT 2 x.path]
section
variable (x y:bu)
@[go_sem] def J4(q:PR):aS q (uA x)=true:=by simp[uA,aS,AV.all]
instance:bD uA 3:=⟨fun _=>rfl,fun _=>rfl,fun x=>J4 x _⟩
end
structure bK where
 aG:List bu
 heap:List (List Int)
 in_:Int
 aD:List ByteArray
 status:Int
 bs:Int
 time:Int
 deriving Inhabited,DecidableEq
def k9(x:bK):PH:=[aX uA 3 x.aG,aX mS 1 x.heap,.raw (.int .i64 x.in_),aX eS 1 x.aD,.raw (.int .i64 x.status),.raw (.int .i64 x.bs),.raw (.int .i64 x.time)]
section
variable (x y:bK)
@[go_sem] def jwq:((k9 x).length=7)/\((k9 x).all AV.one=true):=by and_intros<;>(intros;rfl)
@[go_sem] def zD(q:PR):aS q (k9 x)=true:=by simp[k9,aS,AV.all]
instance:bD k9 7:=⟨fun _=>rfl,fun _=>rfl,fun x=>zD x _⟩
@[go_sem] def ju0:((k9 x).take 7=k9 x)/\((k9 x).getD 0 .any=aX uA 3 x.aG)/\((k9 x).getD 1 .any=aX mS 1 x.heap)/\((k9 x).getD 3 .any=aX eS 1 x.aD):=by and_intros<;>(intros;rfl)
end
structure lm where
 fn:Int
 node:Int
 slots:List aj
 deriving Inhabited,DecidableEq
def l7(x:lm):PH:=[.raw (.int .i64 x.fn),.raw (.int .i64 x.node),aX bG 3 x.slots]
section
variable (x y:lm)
@[go_sem] def jyn:((l7 x).length=3)/\((l7 x).all AV.one=true):=by and_intros<;>(intros;rfl)
@[go_sem] def LY(q:PR):aS q (l7 x)=true:=by simp[l7,aS,AV.all]
instance:bD l7 3:=⟨fun _=>rfl,fun _=>rfl,fun x=>LY x _⟩
@[go_sem] def jwp:((l7 x).take 3=l7 x)/\((l7 x).getD 0 .any=.raw (.int .i64 x.fn))/\((l7 x).getD 1 .any=.raw (.int .i64 x.node))/\((l7 x).getD 2 .any=aX bG 3 x.slots):=by and_intros<;>(intros;rfl)
end
structure lz where
 calls:List lm
 heap:List (List Int)
 in_:Int
 aD:List ByteArray
 status:Int
 bs:Int
 time:Int
 deriving Inhabited,DecidableEq
def ji(x:lz):PH:=[aX l7 3 x.calls,aX mS 1 x.heap,.raw (.int .i64 x.in_),aX eS 1 x.aD,.raw (.int .i64 x.status),.raw (.int .i64 x.bs),.raw (.int .i64 x.time)]
section
variable (x y:lz)
@[go_sem] def jym:((ji x).length=7)/\((ji x).all AV.one=true):=by and_intros<;>(intros;rfl)
@[go_sem] def Kc(q:PR):aS q (ji x)=true:=by simp[ji,aS,AV.all]
instance:bD ji 7:=⟨fun _=>rfl,fun _=>rfl,fun x=>Kc x _⟩
@[go_sem] def jzJ:((ji x).getD 0 .any=aX l7 3 x.calls)/\((ji x).getD 1 .any=aX mS 1 x.heap)/\((ji x).getD 2 .any=.raw (.int .i64 x.in_))/\((ji x).getD 3 .any=aX eS 1 x.aD)/\((ji x).getD 4 .any=.raw (.int .i64 x.status))/\((ji x).getD 5 .any=.raw (.int .i64 x.bs))/\((ji x).getD 6 .any=.raw (.int .i64 x.time)):=by and_intros<;>(intros;rfl)
end
structure aq where
 op:Int
 a:Int
 b:Int
 s:ByteArray
 deriving Inhabited,DecidableEq
def cO(x:aq):PH:=[.raw (.int .i64 x.op),.raw (.int .i64 x.a),.raw (.int .i64 x.b),.raw (.string x.s)]
section
variable (x y:aq)
@[go_sem] def jwh:((cO x).length=4)/\((cO x).all AV.one=true):=by and_intros<;>(intros;rfl)
@[go_sem] def II(q:PR):aS q (cO x)=true:=by simp[cO,aS,AV.all]
instance:bD cO 4:=⟨fun _=>rfl,fun _=>rfl,fun x=>II x _⟩
@[go_sem] def juY:((cO x).take 4=cO x)/\((cO x).getD 0 .any=.raw (.int .i64 x.op))/\((cO x).getD 1 .any=.raw (.int .i64 x.a))/\(∀(v:Int),List.take 1 (cO x)++[.raw (.int .i64 v)]++List.drop 2 (cO x)=cO { x with a:=v })/\((cO x).getD 2 .any=.raw (.int .i64 x.b))/\((cO x).getD 3 .any=.raw (.string x.s)):=by and_intros<;>(intros;rfl)
end
structure aB where
 ins:List aq
 entry:List Int
 deriving Inhabited,DecidableEq
def vC(x:aB):PH:=[aX cO 4 x.ins,aX eI 1 x.entry]
section
variable (x y:aB)
@[go_sem] def Jz(q:PR):aS q (vC x)=true:=by simp[vC,aS,AV.all]
instance:bD vC 2:=⟨fun _=>rfl,fun _=>rfl,fun x=>Jz x _⟩
end
structure rF where
 at_:Int
 name:ByteArray
 v:aj
 deriving Inhabited,DecidableEq
def zH(x:rF):PH:=[.raw (.int .i64 x.at_),.raw (.string x.name),.raw (.int .i64 x.v.ty),.raw (.int .i64 x.v.n),.raw (.string x.v.s)]
section
variable (x y:rF)
@[go_sem] def Md(q:PR):aS q (zH x)=true:=by simp[zH,aS,AV.all]
instance:bD zH 5:=⟨fun _=>rfl,fun _=>rfl,fun x=>Md x _⟩
end
end Go.Gd